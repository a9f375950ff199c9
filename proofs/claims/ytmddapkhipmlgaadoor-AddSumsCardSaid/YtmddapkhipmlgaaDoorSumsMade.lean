/-
  Walk: edenlaw18.made.
-/
import Derived.Test.YtmddapkhipmlgaaDoorLaw18
import Derived.Test.YtmddapkhipmlgaaDoorLeft
import Derived.Test.YtmddapkhipmlgaaDoorPureSums
import Derived.RegionTactic
namespace Go.Proofs.YtmddapkhipmlgaaDoor
open Go.RowKit
set_option maxRecDepth 100000

theorem made18_bad (k R : Int) (v : Value) (f : List Int) (w : World) (h : IntsAt w v f) (hb : k < 1 ∨ 4 < k ∨ R < 0 ∨ 3 < R ∨ (f.length : Int) < 2 * R + 1) :
    Calls Tryd.prog 24 #[.int .i64 k, .int .i64 R, v] w (Ret3 (fun x y z _ => x = zRule ∧ y = .slice none 0 0 ∧ z = .bool false) w) := by
  have hlen := h.len
  have hm := h.len_le
  clear h
  have b0 := belowAlloc w (.cells #[.int .i64 0, .int .i64 0, .slice none 0 0] 24)
  by_cases h1 : k < 1
  · clear hb
    go_enter Tryd.func24, Tryd.ntmps24
    go_wp2
    exact bodyPost_ret (v := .tuple #[zRule, .slice none 0 0, .bool false]) (by simp [results, Tryd.results24, go_sem]) rfl ⟨_, _, _, rfl, b0, rfl, rfl, rfl⟩
  by_cases h2 : 4 < k
  · clear hb
    go_enter Tryd.func24, Tryd.ntmps24
    go_wp2
    exact bodyPost_ret (v := .tuple #[zRule, .slice none 0 0, .bool false]) (by simp [results, Tryd.results24, go_sem]) rfl ⟨_, _, _, rfl, b0, rfl, rfl, rfl⟩
  by_cases h3 : R < 0
  · clear hb
    go_enter Tryd.func24, Tryd.ntmps24
    go_wp2
    exact bodyPost_ret (v := .tuple #[zRule, .slice none 0 0, .bool false]) (by simp [results, Tryd.results24, go_sem]) rfl ⟨_, _, _, rfl, b0, rfl, rfl, rfl⟩
  by_cases h4 : 3 < R
  · clear hb
    go_enter Tryd.func24, Tryd.ntmps24
    go_wp2
    exact bodyPost_ret (v := .tuple #[zRule, .slice none 0 0, .bool false]) (by simp [results, Tryd.results24, go_sem]) rfl ⟨_, _, _, rfl, b0, rfl, rfl, rfl⟩
  have h5 : (f.length : Int) < 2 * R + 1 := by omega
  clear hb
  go_enter Tryd.func24, Tryd.ntmps24
  go_wp2
  exact bodyPost_ret (v := .tuple #[zRule, .slice none 0 0, .bool false]) (by simp [results, Tryd.results24, go_sem]) rfl ⟨_, _, _, rfl, b0, rfl, rfl, rfl⟩

set_option maxHeartbeats 800000 in
theorem made18_ok (r : Nat → Addr) (K R : Nat) (v : Value) (f : List Int) (w : World) (hg : Glob r w) (h : IntsAt w v f) (hk1 : 1 ≤ K) (hk4 : K ≤ 4) (hR : R ≤ 3) (hl : 2 * R + 1 ≤ f.length) :
    Calls Tryd.prog 24 #[.int .i64 K, .int .i64 R, v] w (Ret3 (fun x y z w' => z = .bool true ∧ OwnI w.heap.size w' y (modL K f (2 * R + 1)) ∧ ∃ a n c, x = .agg #[.int .i64 K, .int .i64 R, .slice a n c] ∧ OwnI w.heap.size w' (.slice a n c) (sumT K (modL K f (2 * R + 1)))) w) := by
  have hlen := h.len
  have hm := h.len_le
  have hl' : 2 * (R : Int) + 1 ≤ f.length := by omega
  have d1 : decide ((K : Int) < 1) = false := by simp; omega
  have d2 : decide ((4 : Int) < (K : Int)) = false := by simp; omega
  have d3 : decide ((R : Int) < 0) = false := by simp
  have d4 : decide ((3 : Int) < (R : Int)) = false := by simp; omega
  have d5 : decide ((f.length : Int) < 2 * (R : Int) + 1) = false := by simp; omega
  replace hg := Lib.hid hg
  replace h := Lib.hid h
  go_enter Tryd.func24, Tryd.ntmps24
  have b0 := belowAlloc w (.cells #[.int .i64 0, .int .i64 0, .slice none 0 0] 24)
  go_wp2_with (at_make; refine wpl_make rfl _ _ rfl _ rfl rfl (by omega) (by omega) ?_)
  intro fv w1 ho b1
  replace b1 : Below (w.alloc (.cells #[.int .i64 0, .int .i64 0, .slice none 0 0] 24)).heap.size (w.alloc (.cells #[.int .i64 0, .int .i64 0, .slice none 0 0] 24)) w1 := by simpa using b1
  obtain ⟨y0, y1, y2, -, -, -⟩ := cells3 b1
  have yy := Lib.hid (And.intro y0 (And.intro y1 y2))
  clear y0 y1 y2
  rw [show (2 * (R : Int) + 1).toNat = 2 * R + 1 by omega] at ho
  obtain ⟨n, hn⟩ : ∃ n, n = 2 * R + 1 := ⟨_, rfl⟩
  rw [← hn] at ho
  have hnf : n ≤ f.length := by omega
  have hn7 : n ≤ 7 := by omega
  have hfl : ∀ w', (Builtin.len_ #[22] 3 #[fv]).run Tryd.prog w' = .ok (.int .i64 n) w' := by have := ho.at.len; rwa [List.length_replicate] at this
  have hf1 := Lib.hid (h.out.below (Below.step b0 b1))
  have hK0 : ((K : Int) == 0) = false := by rw [beq_eq_false_iff_ne]; omega
  have hK1 : ¬ (K : Int) = 0 := by omega
  have hK2 : (0 : Int) < K := by omega
  replace hn := Lib.hid hn
  go_wp2
  go_loopw [10] (fun i wr => ∃ j : Nat, j ≤ n ∧ i = .int .i64 j ∧ OwnI (w.heap.size + 1) wr fv (modF K f n j) ∧ Below (w.heap.size + 1) w1 wr) (fun i _ => n - (intOf i).toNat)
  case atStart => exact ⟨0, by omega, rfl, by simpa [modF, modL] using ho, Below.refl _ _⟩
  case round =>
    obtain ⟨j, hj, rfl, hO, hbO⟩ := hrel
    obtain ⟨wo, rfl⟩ : ∃ wo : World, wo = wr := ⟨_, rfl⟩
    by_cases hjl : j < n
    · have hfo := h.out.below ((b0.trans (b1.mono (by simp))).trans (hbO.mono (by omega)))
      have i1 := hfo.idx j (by omega)
      have c1 := hfo.cell j (by omega)
      have hL := modF_length K f n j hnf hj
      have i2 := hO.at.idx j (by omega)
      have c2 := hO.at.cellD j (by omega)
      have f2 := hO.frz j (by omega)
      have hS := Lib.hid (modF_set K f n j hnf hjl)
      have hO2 := hO.set j (by omega) (f[j] % (K : Int))
      have hB2 := hO.setBelow hbO j (by omega) (.int .i64 (f[j] % (K : Int)))
      rw [hS.out] at hO2
      generalize f[j] = x at c1 hS hO2 hB2
      generalize (modF K f n j).getD j 0 = y at c2
      clear hL hfo hO
      obtain ⟨t1, t2, t3⟩ := tmod_twice (x := x) (K := K) hk1
      have t4 : -16 ≤ x.tmod K := by omega
      clear t2
      replace t1 := Lib.hid t1
      replace hO2 := Lib.hid hO2
      replace hB2 := Lib.hid hB2
      go_wp2
      go_roundw
      case rel => exact ⟨j + 1, by omega, by go_num, by rw [t1.out]; exact hO2.out, by rw [t1.out]; exact hB2.out⟩
      case measure => simp [intOf]; omega
    · obtain rfl : j = n := by omega
      have hO2 : OwnI (w.heap.size + 1) wo fv (modL K f j) := by simpa [modF] using hO
      have hbW := (b0.trans (b1.mono (by simp))).trans (hbO.mono (by omega))
      replace hO2 := Lib.hid hO2
      clear hO
      replace hn := Lib.hid hn.out
      go_wp2_with fail
      refine (make_ok r K R fv (modL K f j) _ (hg.out.below hbW) hO2.out.at hk1 hk4 hR (by rw [modL_length K f j hnf]; exact hn.out) (modL_syms hk1 f j)).mono ?_
      rintro e w2 ⟨x, y, rfl, b2, rfl, ra, rn, rc, rfl, hr⟩
      have hbA : Below (w.alloc (.cells #[.int .i64 0, .int .i64 0, .slice none 0 0] 24)).heap.size (w.alloc (.cells #[.int .i64 0, .int .i64 0, .slice none 0 0] 24)) w2 := (b1.trans (hbO.mono (by simp))).trans (b2.mono (by have := b1.size; have := hbO.size; omega))
      have hbC := hbA.trans ((belowAlloc w2 (.cells #[.int .i64 K, .int .i64 R, .slice ra rn rc] 24)).mono hbA.size)
      obtain ⟨y0, y1, y2, f0, f1, f2⟩ := cells3 hbC
      replace hr := Lib.hid hr
      go_wp2
      go_region
      have s1 := b1.size
      have s2 := hbO.size
      have s3 := b2.size
      simp at s1
      have hBF : Below w.heap.size w (w2.alloc (.cells #[.int .i64 K, .int .i64 R, .slice ra rn rc] 24)) := hbW.trans ((Below.step b2 (belowAlloc _ _)).mono hbW.size)
      have hgO : OwnI (w.heap.size + 1) (w2.alloc (.cells #[.int .i64 K, .int .i64 R, .slice ra rn rc] 24)) fv (modL K f j) := (hO2.out.below b2).alloc _
      have hrO : OwnI (w.heap.size + 1) (w2.alloc (.cells #[.int .i64 K, .int .i64 R, .slice ra rn rc] 24)) (.slice ra rn rc) (sumT K (modL K f j)) := (hr.out.mono (by omega)).alloc _
      replace hBF := Lib.hid hBF
      replace hgO := Lib.hid hgO
      replace hrO := Lib.hid hrO
      go_wp2
      refine bodyPost_ret (v := .tuple #[.agg #[.int .i64 K, .int .i64 R, .slice ra rn rc], fv, .bool true]) (by simp [results, Tryd.results24, go_sem, y0, y1, y2]) rfl ⟨_, _, _, rfl, ?_, rfl, ?_, ra, rn, rc, rfl, ?_⟩
      · exact (((hBF.out.setCell (by simp) _).setCell (by simp) _).setCell (by simp) _).drew
      · rw [← hn.out]
        exact ((((hgO.out.setBelowBase (a := ⟨w.heap.size, 0, none⟩) (by simp) _).setBelowBase (a := ⟨w.heap.size, 1, none⟩) (by simp) _).setBelowBase (a := ⟨w.heap.size, 2, none⟩) (by simp) _).mono (Nat.le_succ _)).drew
      · rw [← hn.out]
        exact ((((hrO.out.setBelowBase (a := ⟨w.heap.size, 0, none⟩) (by simp) _).setBelowBase (a := ⟨w.heap.size, 1, none⟩) (by simp) _).setBelowBase (a := ⟨w.heap.size, 2, none⟩) (by simp) _).mono (Nat.le_succ _)).drew
end Go.Proofs.YtmddapkhipmlgaaDoor
