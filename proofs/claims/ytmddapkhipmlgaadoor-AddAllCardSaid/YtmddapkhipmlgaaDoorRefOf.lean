/-
  Walk: edenref18.Of.
-/
import Derived.Test.YtmddapkhipmlgaaDoorRefOne
import Derived.Test.YtmddapkhipmlgaaDoorRawIs
import Derived.Test.YtmddapkhipmlgaaDoorLent
import Derived.Test.YtmddapkhipmlgaaDoorPureRefOf
import Derived.Deep.RegionHeld3
namespace Go.Proofs.YtmddapkhipmlgaaDoor
open Go.RowKit
set_option maxRecDepth 100000

theorem checkP_num {k R : Int} {xs : List Int} {t : Int × List (ByteArray × Int)} (h : checkP k R xs = some t) : t.1 = 1 ∧ t.2.length = 1 := by
  unfold checkP fresh at h
  split at h
  · cases h; exact ⟨rfl, rfl⟩
  · split at h
    · cases h; exact ⟨rfl, rfl⟩
    · split at h
      · cases h; exact ⟨rfl, rfl⟩
      · split at h
        · cases h
        · cases h; exact ⟨rfl, rfl⟩

set_option maxHeartbeats 400000 in
theorem of18_bad (k R : Int) (va : Option Addr) (vn vc : Nat) (xs : List Int) (t : Int × List (ByteArray × Int)) (w : World) (h : IntsAt w (.slice va vn vc) xs) (hc : checkP k R xs = some t) :
    Calls Tryd.prog 32 #[.agg #[.int .i64 k, .int .i64 R, .slice va vn vc]] w (Ret3 (fun x y z w' => x = .slice none 0 0 ∧ y = .bool false ∧ EOwn w.heap.size w' (under sAdditive 0 (some t)) z) w) := by
  have b0 := Below.step (belowAlloc w (.cells #[.int .i64 k, .int .i64 R, .slice va vn vc] 24)) (belowAlloc _ (.cells #[.int .i64 0, .slice none 0 0, .slice none 0 0] 55))
  have q7 : Box3 ((w.alloc (.cells #[.int .i64 k, .int .i64 R, .slice va vn vc] 24)).alloc (.cells #[.int .i64 0, .slice none 0 0, .slice none 0 0] 55)) (w.heap.size + 1) (.int .i64 0) (.slice none 0 0) (.slice none 0 0) := by simp [Box3, go_sem]
  obtain ⟨hn1, hl1⟩ := checkP_num hc
  replace h := Lib.hid (h.below b0)
  replace hc := Lib.hid hc
  obtain ⟨n, l⟩ := t
  simp only at hn1 hl1
  have hnb : (n != 0) = true := by rw [bne_iff_ne]; omega
  replace hn1 := Lib.hid hn1
  go_enter Tryd.func32, Tryd.ntmps32
  go_wp2_with fail
  refine (ref_check k R va vn vc xs _ h.out).mono ?_
  rintro e w1 ⟨x, rfl, b1, he⟩
  rw [hc.out] at he
  go_wp2_with fail
  refine (raw_under _ _ (some (n, l)) x _ he.at (fun n' l' e => by cases e; exact ⟨by have := hn1.out; omega, by omega, by omega⟩)).mono ?_
  rintro e w2 ⟨x2, rfl, b2, he2⟩
  obtain ⟨a1, n1, c1, a2, n2, c2, rfl, hs1, hs2⟩ := he2
  have he2 : EOwn w1.heap.size w2 (under sAdditive 0 (some (n, l))) (.agg #[.int .i64 n, .slice a1 n1 c1, .slice a2 n2 c2]) := ⟨_, _, _, _, _, _, rfl, hs1, hs2⟩
  clear hs1 hs2
  replace he2 := Lib.hid he2
  have q8 := (q7.below b1).below b2
  go_wp2_with fail
  refine (err_bad n a1 n1 c1 a2 n2 c2 _).mono ?_
  rintro e w3 ⟨x, rfl, b3, rfl⟩
  have b23 := Below.step (belowAlloc w2 (.cells #[.int .i64 n, .slice a1 n1 c1, .slice a2 n2 c2] 55)) b3
  obtain ⟨⟨y0, y1, y2⟩, f0, f1, f2⟩ := q8.below b23
  obtain ⟨x0, x1, x2⟩ := keep3 (n := w2.heap.size) (a := .int .i64 n) (b := .slice a1 n1 c1) (c := .slice a2 n2 c2) b3 ⟨by simp, by simp, by simp⟩
  have hlt : w.heap.size + 1 < w1.heap.size := World.block_lt_of_cell? _ _ (q7.below b1).1.1
  have hEf := Lib.hid (he2.out.below b23)
  have hBf := Lib.hid (Below.step (Below.step (Below.step b0 b1) b2) b23)
  go_wp2
  go_region
  go_wp2
  refine bodyPost_ret (v := .tuple #[.slice none 0 0, .bool false, .agg #[.int .i64 n, .slice a1 n1 c1, .slice a2 n2 c2]]) (by simp [results, Tryd.results32, go_sem, y0, y1, y2]) rfl ⟨_, _, _, rfl, ?_, rfl, rfl, ?_⟩
  · exact (below_set3 hBf.out (Nat.le_succ _) _ _ _).drew
  · exact ((hEf.out.set3 hlt _ _ _).mono (by omega)).drew

set_option maxHeartbeats 1000000 in
theorem of18_ok (K R : Nat) (va : Option Addr) (vn vc : Nat) (xs : List Int) (w : World) (h : IntsAt w (.slice va vn vc) xs) (hr : RuleOk K R xs) :
    Calls Tryd.prog 32 #[.agg #[.int .i64 K, .int .i64 R, .slice va vn vc]] w (Ret3 (fun x y z w' => z = zErr ∧ y = .bool (isSum K R xs) ∧ (isSum K R xs = true → OwnI w.heap.size w' x (facs K R xs)) ∧ (isSum K R xs = false → x = .slice none 0 0)) w) := by
  have b0 := Below.step (belowAlloc w (.cells #[.int .i64 K, .int .i64 R, .slice va vn vc] 24)) (belowAlloc _ (.cells #[.int .i64 0, .slice none 0 0, .slice none 0 0] 55))
  have q7 : Box3 ((w.alloc (.cells #[.int .i64 K, .int .i64 R, .slice va vn vc] 24)).alloc (.cells #[.int .i64 0, .slice none 0 0, .slice none 0 0] 55)) (w.heap.size + 1) (.int .i64 0) (.slice none 0 0) (.slice none 0 0) := by simp [Box3, go_sem]
  have q6 : Box3 ((w.alloc (.cells #[.int .i64 K, .int .i64 R, .slice va vn vc] 24)).alloc (.cells #[.int .i64 0, .slice none 0 0, .slice none 0 0] 55)) w.heap.size (.int .i64 K) (.int .i64 R) (.slice va vn vc) := by simp [Box3, go_sem]
  have hk1 := hr.k1
  have hk4 := hr.k4
  have hr3 := hr.r3
  have hck := Lib.hid hr.check
  replace h := Lib.hid (h.below b0)
  replace hr := Lib.hid hr
  obtain ⟨n, hn⟩ : ∃ n, n = 2 * R + 1 := ⟨_, rfl⟩
  have hn7 : n ≤ 7 := by omega
  have hnc : (2 * (R : Int) + 1) = (n : Int) := by omega
  replace hn := Lib.hid hn
  go_enter Tryd.func32, Tryd.ntmps32
  go_wp2_with fail
  refine (ref_check K R va vn vc xs _ h.out).mono ?_
  rintro e w1 ⟨x, rfl, b1, he⟩
  rw [hck.out] at he
  obtain rfl : x = zErr := he
  go_wp2_with fail
  refine (raw_under_nil _ _ _).mono ?_
  rintro e w2 ⟨x, rfl, b2, he⟩
  obtain rfl : x = zErr := he
  go_wp2_with fail
  refine (err_bad 0 none 0 0 none 0 0 _).mono ?_
  rintro e w3 ⟨x, rfl, b3, rfl⟩
  have b13 := Below.step b1 (Below.step b2 (Below.step (belowAlloc w2 (.cells #[.int .i64 0, .slice none 0 0, .slice none 0 0] 55)) b3))
  have p6 := q6.below b13
  have p7 := q7.below b13
  have hBf := Below.step b0 b13
  have h3 := Lib.hid (h.out.below b13)
  have p6x := p6
  obtain ⟨⟨z0, z1, z2⟩, -, -, -⟩ := p6x
  have p6x := p6
  clear b1 b2 b3 b13
  go_wp2_with (at_make; refine wpl_make rfl _ _ rfl _ rfl rfl (by omega) (by omega) ?_)
  intro fv w4 ho b4
  rw [← facU_zero K n xs] at ho
  have p6' := p6x.below b4
  obtain ⟨⟨z0, z1, z2⟩, -, -, -⟩ := p6'
  by_cases hK : 1 < K
  · have hKi : (1 : Int) < (K : Int) := by omega
    have hfl : ∀ w', (Builtin.len_ #[22] 3 #[fv]).run Tryd.prog w' = .ok (.int .i64 n) w' := by have := ho.at.len; rwa [facU_length] at this
    go_wp2
    go_loopw [8] (fun i wr => ∃ j : Nat, j ≤ n ∧ i = .int .i64 j ∧ OwnI w3.heap.size wr fv (facU K n xs j) ∧ Below w3.heap.size w3 wr) (fun i _ => n - (intOf i).toNat)
    case atStart => exact ⟨0, by omega, rfl, ho, b4⟩
    case round =>
      clear ho
      obtain ⟨j, hj, rfl, ho, hbx⟩ := hrel
      obtain ⟨wo, rfl⟩ : ∃ wo : World, wo = wr := ⟨_, rfl⟩
      by_cases hjl : j < n
      · skip
        have hxl : pw K (n - 1 - j) < xs.length := by rw [hr.out.len, ← hn.out]; exact pw_lt hK (by omega)
        have ha := h3.out.below hbx
        have i1 := ha.idx (pw K (n - 1 - j)) hxl
        have c1 := ha.cellD (pw K (n - 1 - j)) hxl
        have i2 := ho.at.idx j (by rw [facU_length]; exact hjl)
        have c2 := ho.at.cellD j (by rw [facU_length]; exact hjl)
        have g2 := ho.frz j (by rw [facU_length]; exact hjl)
        have hO2 := ho.set j (by rw [facU_length]; exact hjl) (xs.getD (pw K (n - 1 - j)) 0)
        rw [facU_succ] at hO2
        have hB2 := ho.setBelow hbx j (by rw [facU_length]; exact hjl) (.int .i64 (xs.getD (pw K (n - 1 - j)) 0))
        have hbk := ho.blkB j (by rw [facU_length]; exact hjl)
        have hlt : w.heap.size + 1 < w3.heap.size := World.block_lt_of_cell? _ _ p7.1.1
        have hab := h3.out.blk (pw K (n - 1 - j)) hxl
        have ne0 : (valAt fv j).block ≠ w.heap.size := by omega
        have ne1 : (valAt fv j).block ≠ (valAt (.slice va vn vc) (pw K (n - 1 - j))).block := by omega
        have r6 := p6.below hbx
        obtain ⟨⟨z0, z1, z2⟩, -, -, -⟩ := r6
        generalize xs.getD (pw K (n - 1 - j)) 0 = x at c1 hO2 hB2
        generalize (facU K n xs j).getD j 0 = y at c2
        generalize valAt (.slice va vn vc) (pw K (n - 1 - j)) = AX at i1 c1 ne1 hab
        clear ho ha
        have hw1 : Hid (IntKind.i64.wrap ((n : Int) - 1) = (n : Int) - 1) := wrapK (by omega) (by omega)
        have hw2 : Hid (IntKind.i64.wrap ((n : Int) - 1 - (j : Int)) = (n : Int) - 1 - (j : Int)) := wrapK (by omega) (by omega)
        replace hO2 := Lib.hid hO2
        replace hB2 := Lib.hid hB2
        go_wp2
        go_region_held3 (fun w' => w'.cell? ⟨w.heap.size, 0, none⟩ = some (.int .i64 K) ∧ w'.cell? ⟨w.heap.size, 2, none⟩ = some (.slice va vn vc) ∧ w'.cell? AX = some (.int .i64 x)) (first | exact ⟨z0, z2, c1⟩ | go_keep)
          (first | (go_at_call 76; refine (ref_power _ _ K (n - 1 - j) _ rfl ?_ hk1 hk4 ?_).mono ?_
                    · rw [hw1.out, hw2.out]; omega
                    · omega
                    rintro e w' ⟨rfl, rfl⟩))
        all_goals
          go_wp2
          go_roundw
          case rel => exact ⟨j + 1, by omega, by go_num, hO2.out.drew, hB2.out.drew⟩
          case measure => simp [intOf]; omega
      · obtain rfl : j = n := by omega
        rw [hn.out, facU_all hK xs] at ho
        have r6 := p6.below hbx
        have r7 := p7.below hbx
        have hBx := Lib.hid (Below.step hBf hbx)
        have hx3 := Lib.hid (h3.out.below hbx)
        obtain ⟨⟨z0, z1, z2⟩, -, -, -⟩ := r6
        have hlt : w.heap.size + 1 < w3.heap.size := World.block_lt_of_cell? _ _ p7.1.1
        have hfs := Lib.hid (facs_syms hr.out)
        have hf7 : (facs K R xs).length ≤ 7 := by rw [facs_length]; omega
        have hfl2 : (((facs K R xs).length / 2 : Nat) : Int) = R := by rw [facs_length]; omega
        replace ho := Lib.hid ho
        have zz0 := Lib.hid z0
        have zz1 := Lib.hid z1
        have zz2 := Lib.hid z2
        go_wp2
        go_region_held3 (fun w' => w'.cell? ⟨w.heap.size, 0, none⟩ = some (.int .i64 K) ∧ w'.cell? ⟨w.heap.size, 1, none⟩ = some (.int .i64 R) ∧ w'.cell? ⟨w.heap.size, 2, none⟩ = some (.slice va vn vc)) (first | exact ⟨z0, z1, z2⟩ | exact ⟨s0, s1, s2⟩ | exact ⟨t0, t1, t2⟩ | go_keep)
          (first
          | (go_at_call 72; refine (ref_sum K fv (facs K R xs) _ ?_ hk1 hk4 hf7 hfs.out).mono ?_
             · exact ho.out.at.drew
             rintro e w5 ⟨x, rfl, b5, ua, un, uc, rfl, hu⟩
             have b5' : Below wo.heap.size wo w5 := (Below.refl wo.heap.size wo).drew.trans b5
             have s0 := cell_keep b5' zz0.out
             have s1 := cell_keep b5' zz1.out
             have s2 := cell_keep b5' zz2.out)
          | (go_at_call 16; refine (rules_any K _ K R ua un uc va vn vc (sumT K (facs K R xs)) xs _ ?_ ?_).mono ?_
             · exact hu.at
             · exact hx3.out.below b5'
             rintro e w6 ⟨_, rfl, b6, rfl⟩
             have t0 := cell_keep b6 s0
             have t1 := cell_keep b6 s1
             have t2 := cell_keep b6 s2))
        have hyb := (r7.below b5').below b6
        obtain ⟨⟨y0, y1, y2⟩, g0, g1, g2⟩ := hyb
        have hBall := Lib.hid (Below.step (Below.step hBx.out b5') b6)
        have hoF := Lib.hid ((ho.out.below b5').below b6)
        have hs3 : w.heap.size ≤ w3.heap.size := by omega
        cases hsm : isSum K R xs
        · rw [show decide (sumT K (facs K R xs) = xs) = false from hsm]
          replace hsm := Lib.hid hsm
          go_wp2
          refine bodyPost_ret (v := .tuple #[.slice none 0 0, .bool false, zErr]) (by simp [results, Tryd.results32, go_sem, y0, y1, y2]) rfl ⟨_, _, _, rfl, below_set3 hBall.out (Nat.le_succ _) _ _ _, rfl, by rw [hsm.out], (fun h => by rw [hsm.out] at h; cases h), fun _ => rfl⟩
        · rw [show decide (sumT K (facs K R xs) = xs) = true from hsm]
          replace hsm := Lib.hid hsm
          go_wp2
          refine bodyPost_ret (v := .tuple #[fv, .bool true, zErr]) (by simp [results, Tryd.results32, go_sem, y0, y1, y2]) rfl ⟨_, _, _, rfl, below_set3 hBall.out (Nat.le_succ _) _ _ _, rfl, by rw [hsm.out], fun _ => ?_, (fun h => by rw [hsm.out] at h; cases h)⟩
          exact (((hoF.out.setBelowBase (a := ⟨w.heap.size + 1, 0, none⟩) hlt _).setBelowBase (a := ⟨w.heap.size + 1, 1, none⟩) hlt _).setBelowBase (a := ⟨w.heap.size + 1, 2, none⟩) hlt _).mono hs3
  · have hKi : ¬ (1 : Int) < (K : Int) := by omega
    have hbx := b4
    rw [facU_zero, hn.out, ← facs_one hK xs] at ho
    have r6 := p6.below hbx
    have r7 := p7.below hbx
    have hBx := Lib.hid (Below.step hBf hbx)
    have hx3 := Lib.hid (h3.out.below hbx)
    obtain ⟨⟨z0, z1, z2⟩, -, -, -⟩ := r6
    have hlt : w.heap.size + 1 < w3.heap.size := World.block_lt_of_cell? _ _ p7.1.1
    have hfs := Lib.hid (facs_syms hr.out)
    have hf7 : (facs K R xs).length ≤ 7 := by rw [facs_length]; omega
    have hfl2 : (((facs K R xs).length / 2 : Nat) : Int) = R := by rw [facs_length]; omega
    replace ho := Lib.hid ho
    have zz0 := Lib.hid z0
    have zz1 := Lib.hid z1
    have zz2 := Lib.hid z2
    go_wp2
    go_region_held3 (fun w' => w'.cell? ⟨w.heap.size, 0, none⟩ = some (.int .i64 K) ∧ w'.cell? ⟨w.heap.size, 1, none⟩ = some (.int .i64 R) ∧ w'.cell? ⟨w.heap.size, 2, none⟩ = some (.slice va vn vc)) (first | exact ⟨z0, z1, z2⟩ | exact ⟨s0, s1, s2⟩ | exact ⟨t0, t1, t2⟩ | go_keep)
      (first
      | (go_at_call 72; refine (ref_sum K fv (facs K R xs) _ ?_ hk1 hk4 hf7 hfs.out).mono ?_
         · exact ho.out.at.drew
         rintro e w5 ⟨x, rfl, b5, ua, un, uc, rfl, hu⟩
         have b5' : Below w4.heap.size w4 w5 := (Below.refl w4.heap.size w4).drew.trans b5
         have s0 := cell_keep b5' zz0.out
         have s1 := cell_keep b5' zz1.out
         have s2 := cell_keep b5' zz2.out)
      | (go_at_call 16; refine (rules_any K _ K R ua un uc va vn vc (sumT K (facs K R xs)) xs _ ?_ ?_).mono ?_
         · exact hu.at
         · exact hx3.out.below b5'
         rintro e w6 ⟨_, rfl, b6, rfl⟩
         have t0 := cell_keep b6 s0
         have t1 := cell_keep b6 s1
         have t2 := cell_keep b6 s2))
    have hyb := (r7.below b5').below b6
    obtain ⟨⟨y0, y1, y2⟩, g0, g1, g2⟩ := hyb
    have hBall := Lib.hid (Below.step (Below.step hBx.out b5') b6)
    have hoF := Lib.hid ((ho.out.below b5').below b6)
    have hs3 : w.heap.size ≤ w3.heap.size := by omega
    cases hsm : isSum K R xs
    · rw [show decide (sumT K (facs K R xs) = xs) = false from hsm]
      replace hsm := Lib.hid hsm
      go_wp2
      refine bodyPost_ret (v := .tuple #[.slice none 0 0, .bool false, zErr]) (by simp [results, Tryd.results32, go_sem, y0, y1, y2]) rfl ⟨_, _, _, rfl, below_set3 hBall.out (Nat.le_succ _) _ _ _, rfl, by rw [hsm.out], (fun h => by rw [hsm.out] at h; cases h), fun _ => rfl⟩
    · rw [show decide (sumT K (facs K R xs) = xs) = true from hsm]
      replace hsm := Lib.hid hsm
      go_wp2
      refine bodyPost_ret (v := .tuple #[fv, .bool true, zErr]) (by simp [results, Tryd.results32, go_sem, y0, y1, y2]) rfl ⟨_, _, _, rfl, below_set3 hBall.out (Nat.le_succ _) _ _ _, rfl, by rw [hsm.out], fun _ => ?_, (fun h => by rw [hsm.out] at h; cases h)⟩
      exact (((hoF.out.setBelowBase (a := ⟨w.heap.size + 1, 0, none⟩) hlt _).setBelowBase (a := ⟨w.heap.size + 1, 1, none⟩) hlt _).setBelowBase (a := ⟨w.heap.size + 1, 2, none⟩) hlt _).mono hs3
end Go.Proofs.YtmddapkhipmlgaaDoor
