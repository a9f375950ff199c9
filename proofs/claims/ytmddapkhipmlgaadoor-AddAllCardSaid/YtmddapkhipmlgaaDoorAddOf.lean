/-
  Walks: additive.Of.
-/
import Derived.Test.YtmddapkhipmlgaaDoorAdd
import Derived.Deep.RegionWith
namespace Go.Proofs.YtmddapkhipmlgaaDoor
open Go.RowKit
set_option maxRecDepth 100000

theorem of_bad (r : Nat → Addr) (k R : Int) (v : Value) (xs : List Int) (t : Int × List (ByteArray × Int)) (w : World) (hg : Glob r w) (h : IntsAt w v xs) (hc : checkP k R xs = some t) :
    Calls Tryd.prog 12 #[.agg #[.int .i64 k, .int .i64 R, v]] w (Ret3 (fun x y z w' => x = .slice none 0 0 ∧ y = .bool false ∧ ErrIs r w' (under sAdditive 0 (some t)) z) w) := by
  obtain ⟨a, n, c, hv⟩ := h.shape
  subst hv
  have hb0 := (Below.refl w.heap.size w).alloc (Nat.le_refl _) (.cells #[.int .i64 k, .int .i64 R, .slice a n c] 24)
  have hg := Lib.hid (hg.below hb0)
  have h := Lib.hid (h.below hb0)
  replace hc := Lib.hid hc
  go_enter Tryd.func12, Tryd.ntmps12
  go_wp2_with fail
  refine (check_any r k R _ xs _ hg.out h.out).mono ?_
  rintro e w1 ⟨x, rfl, hb, he⟩
  rw [hc.out] at he
  have he' := Lib.hid he
  obtain ⟨T, p, rfl⟩ := he.some_shape
  clear he
  go_wp2_with fail
  refine (under_any r _ _ _ _ _ he'.out).mono ?_
  rintro e w2 ⟨x, rfl, hb', he⟩
  go_wp2
  go_ret3
  exact ⟨_, _, _, rfl, (hb0.trans (hb.mono (by simp))).trans (hb'.mono (by have := hb.size; simp at this; omega)), rfl, rfl, he⟩

set_option maxHeartbeats 1000000 in
theorem of_ok (K R : Nat) (v : Value) (xs : List Int) (w : World) (h : IntsAt w v xs) (hr : RuleOk K R xs) :
    Calls Tryd.prog 12 #[.agg #[.int .i64 K, .int .i64 R, v]] w (Ret3 (fun x y z w' => z = .nilIface ∧ y = .bool (isSum K R xs) ∧ (isSum K R xs = true → OwnI w.heap.size w' x (facs K R xs)) ∧ (isSum K R xs = false → x = .slice none 0 0)) w) := by
  obtain ⟨va, vn, vc, hv⟩ := h.shape
  subst hv
  have hb0 := (Below.refl w.heap.size w).alloc (Nat.le_refl _) (.cells #[.int .i64 K, .int .i64 R, .slice va vn vc] 24)
  have h0 := Lib.hid (h.below hb0)
  clear h
  have hk1 := hr.k1
  have hk4 := hr.k4
  have hr3 := hr.r3
  replace hr := Lib.hid hr
  obtain ⟨n, hn⟩ : ∃ n, n = 2 * R + 1 := ⟨_, rfl⟩
  have hn7 : n ≤ 7 := by omega
  have hnc : (2 * (R : Int) + 1) = (n : Int) := by omega
  replace hn := Lib.hid hn
  go_enter Tryd.func12, Tryd.ntmps12
  go_wp2_with fail
  refine (check_ok K R _ xs _ h0.out hr.out).mono ?_
  rintro e w1 ⟨x, rfl, hb, rfl⟩
  obtain ⟨z0, z1, z2, f0, f1, f2⟩ := cells3 hb
  go_wp2_with (at_make; refine wpl_make rfl _ _ rfl _ rfl rfl (by omega) (by omega) ?_)
  intro fv w2 ho hb2
  clear z0 z1 z2 f0 f1 f2
  have hfl : ∀ w', (Builtin.len_ #[22] 3 #[fv]).run Tryd.prog w' = .ok (.int .i64 n) w' := by have := ho.at.len; rwa [List.length_replicate] at this
  go_wp2
  go_loopw [7, 22] (fun g i wr => ∃ j : Nat, j ≤ n ∧ i = .int .i64 j ∧ g = .int .i64 (wI K j) ∧ OwnI w1.heap.size wr fv (facI K n xs j) ∧ Below w1.heap.size w1 wr) (fun _ i _ => n - (intOf i).toNat)
  case atStart => exact ⟨0, by omega, rfl, by unfold wI; split <;> rfl, by rw [facI_zero]; exact ho, hb2⟩
  case round =>
    obtain ⟨j, hj, rfl, rfl, ho, hbr⟩ := hrel
    obtain ⟨wo, rfl⟩ : ∃ wo : World, wo = wr := ⟨_, rfl⟩
    have hbw := hb.trans (hbr.mono hb.size)
    obtain ⟨z0, z1, z2, f0, f1, f2⟩ := cells3 hbw
    by_cases hlt : j < n
    · by_cases hK : 1 < K
      · have hxl : pw K j < xs.length := by rw [hr.out.len, ← hn.out]; exact pw_lt hK hlt
        have ha := h0.out.below hbw
        have i1 := ha.idx (pw K j) hxl
        have c1 := ha.cell (pw K j) hxl
        have i2 : ∀ w', (Instr.indexAt 22 fv (.int .i64 ((n : Int) - 1 - (j : Int)))).run Tryd.prog w' = .ok (.pointer (some (valAt fv (n - 1 - j)))) w' := by
          intro w'
          have := ho.at.idxI ((n : Int) - 1 - (j : Int)) (by omega) (by rw [facI_length]; omega) w'
          rwa [show ((n : Int) - 1 - (j : Int)).toNat = n - 1 - j by omega] at this
        have c2 := ho.at.cell (n - 1 - j) (by rw [facI_length]; omega)
        have g2 := ho.frz (n - 1 - j) (by rw [facI_length]; omega)
        have hset := Lib.hid (ho.set (n - 1 - j) (by rw [facI_length]; omega) xs[pw K j])
        have hsb := Lib.hid (ho.setBelow hbr (n - 1 - j) (by rw [facI_length]; omega) (.int .i64 xs[pw K j]))
        have hne : ∀ o, (valAt fv (n - 1 - j) = ⟨w.heap.size, o, none⟩) = False := by
          intro o
          have hbk := ho.blkB (n - 1 - j) (by rw [facI_length]; omega)
          have hs := hb.size
          simp at hs
          apply eq_false
          intro e
          rw [e] at hbk
          simp at hbk
          omega
        have hfe : Hid ((facI K n xs j).set (n - 1 - j) xs[pw K j] = facI K n xs (j + 1)) := by
          show _ = _
          simp only [facI, if_pos hK]
          exact facL_succ K n xs j hlt hxl
        have hwj : wI K j = pw K j := if_pos hK
        have hwj1 : Hid (wI K (j + 1) = pw K j * K) := by show _ = _; rw [wI, if_pos hK, pw_succ]
        rw [hwj]
        clear hwj
        have hb1 : 0 ≤ (pw K j : Int) * (K : Int) := Int.mul_nonneg (by omega) (by omega)
        have hb2 : (pw K j : Int) * (K : Int) ≤ 16384 := by
          have := pw_le (i := j + 1) hk1 hk4 (by omega)
          rw [pw_succ] at this
          exact_mod_cast this
        go_wp2
        go_roundw
        case rel =>
          refine ⟨j + 1, by omega, by go_num, by rw [hwj1.out]; simp, ?_, hsb.out⟩
          rw [← hfe.out]; exact hset.out
        case measure => simp [intOf]; omega
      · have hfe : Hid (facI K n xs (j + 1) = facI K n xs j) := by show _ = _; simp only [facI, if_neg hK]
        have hwj1 : Hid (wI K (j + 1) = 1) := if_neg hK
        have hwj : wI K j = 1 := if_neg hK
        rw [hwj]
        clear hwj
        have hK1 : K = 1 := by omega
        clear hK
        have hKK : (K : Int) ≤ 1 := by omega
        have hKK1 : (1 : Int) ≤ K := by omega
        clear hK1
        go_wp2
        go_roundw
        case rel =>
          refine ⟨j + 1, by omega, by go_num, ?_, by rw [hfe.out]; exact ho, hbr⟩
          rw [hwj1.out]
        case measure => simp [intOf]; omega
    · obtain rfl : j = n := by omega
      have ha := h0.out.below hbw
      have hfac : facI K j xs j = facs K R xs := by rw [hn.out]; rfl
      rw [hfac] at ho
      clear hfac
      replace ha := Lib.hid ha
      replace ho := Lib.hid ho
      have hfs := Lib.hid (facs_syms hr.out)
      have hsz : w.heap.size < wo.heap.size := World.block_lt_of_cell? _ _ z0
      have hf7 : (facs K R xs).length ≤ 7 := by rw [facs_length]; omega
      have hfd := field_T
      go_wp2
      go_region_held3 (fun w' => w'.cell? ⟨w.heap.size, 0, none⟩ = some (.int .i64 K) ∧ w'.cell? ⟨w.heap.size, 2, none⟩ = some (.slice va vn vc)) (go_keep)
        (first | (go_at_call 48; refine (sum_any K fv (facs K R xs) _ (by exact ho.out.at) hfs.out hk1 hk4 hf7).mono ?_; rintro e w3 ⟨x, rfl, hb3, ua, un, uc, rfl, hu⟩; have y0 := (hb3.cell (p := ⟨w.heap.size, 0, none⟩) (by simp; omega)).trans z0; have y2 := (hb3.cell (p := ⟨w.heap.size, 2, none⟩) (by simp; omega)).trans z2) | (go_at_call 47; refine (equal_any _ _ (sumT K (facs K R xs)) xs _ (by exact hu.at) (by exact ha.out.drew.below hb3)).mono ?_; rintro e w4 hq; obtain ⟨rfl, hb4⟩ := hq.below; have y4 := (hb4.cell (p := ⟨w.heap.size, 0, none⟩) (World.block_lt_of_cell? _ _ y0)).trans y0; have y5 := (hb4.cell (p := ⟨w.heap.size, 2, none⟩) (World.block_lt_of_cell? _ _ y2)).trans y2))
      have hball : Below w.heap.size w w4 := (hb0.trans ((hbw.drew.trans (hb3.mono (by have := hbw.size; simp at this ⊢; omega))).mono (by simp))).trans (hb4.mono (by have := hb3.size; simp at this; omega))
      have hown : OwnI w.heap.size w4 fv (facs K R xs) := (((ho.out.drew).below hb3).below hb4).mono (by have := hb.size; simp at this; omega)
      replace hball := Lib.hid hball
      replace hown := Lib.hid hown
      clear y0 y2 y4 y5 hq
      cases hs : isSum K R xs
      · rw [show decide (sumT K (facs K R xs) = xs) = false from hs]
        replace hs := Lib.hid hs
        go_wp2
        go_ret3
        exact ⟨_, _, _, rfl, hball.out, rfl, (by rw [hs.out]; rfl), (fun h => by rw [hs.out] at h; cases h), fun _ => rfl⟩
      · rw [show decide (sumT K (facs K R xs) = xs) = true from hs]
        replace hs := Lib.hid hs
        go_wp2
        go_ret3
        exact ⟨_, _, _, rfl, hball.out, rfl, (by rw [hs.out]; rfl), fun _ => hown.out, (fun h => by rw [hs.out] at h; cases h)⟩
end Go.Proofs.YtmddapkhipmlgaaDoor
