/-
  Walks: permut.check, permut.fits.
-/
import Derived.Test.YtmddapkhipmlgaaDoorConcat
import Derived.Test.YtmddapkhipmlgaaDoorPermut
namespace Go.Proofs.YtmddapkhipmlgaaDoor
open Go.RowKit
set_option maxRecDepth 100000

theorem perm_check1 (x k : Int) (b : Nat) (w : World) (hb : w.cell? ⟨b, 0, none⟩ = some (.int .i64 k)) :
    Calls Tryd.prog 100 #[.int .i64 x, .pointer (some ⟨b, 0, none⟩)] w fun e w' => e = .returned (.bool (odd1 k x)) ∧ w = w' := by
  by_cases h : x < 0
  · have e : odd1 k x = true := by simp [odd1, h]
    rw [e]
    go_enter Tryd.func100, Tryd.ntmps100
    go_wp2
    go_ret
    exact ⟨rfl, rfl⟩
  · have e : odd1 k x = decide (k ≤ x) := by simp [odd1, h]
    rw [e]
    go_enter Tryd.func100, Tryd.ntmps100
    go_wp2
    go_ret
    exact ⟨ret_bool (by simp), rfl⟩
theorem eg_perm_check1 (args : Array Value) (w : World) : (callFunc 100 args).run Tryd.prog w = .ok (.enter 100 args) w := by kernel_rfl

theorem catN_two (vs : Nat → List Int) : catN vs 2 = vs 0 ++ vs 1 := by simp [catN, List.range, List.range.loop]

theorem concat2 (u v : Value) (xs ys : List Int) (w : World) (hu : IntsAt w u xs) (hv : IntsAt w v ys) (hx : xs.length ≤ 8192) (hy : ys.length ≤ 8192) (b : Nat) (hb : b = w.heap.size) :
    Calls Tryd.prog 99 #[.slice (some ⟨b, 0, none⟩) 2 2] (w.alloc (.cells #[u, v] 22)) (Ret1 (fun x w' => OwnI (w.heap.size + 1) w' x (xs ++ ys)) (w.alloc (.cells #[u, v] 22))) := by
  subst hb
  have hv2 : ValsAt (w.alloc (.cells #[u, v] 22)) (.slice (some ⟨w.heap.size, 0, none⟩) 2 2) [u, v] :=
    OwnV.at (E := 22) (B := 0) (World.ownsRow_lit (base := 0) (e := 22) (size := 1) w #[u, v] 2 (Nat.zero_le _) (by decide) rfl)
  have := concat_any _ _ (fun t => if t = 0 then xs else ys) _ hv2 (by
    intro t ht
    have : t = 0 ∨ t = 1 := by simp at ht; omega
    rcases this with rfl | rfl
    · exact hu.below (belowAlloc w _)
    · exact hv.below (belowAlloc w _)) (by simp) (by intro t _; split <;> assumption)
  rw [show [u, v].length = 2 from rfl, catN_two] at this
  simpa using this

theorem perm_fits (K R : Nat) (va : Option Addr) (vn vc : Nat) (xs : List Int) (rest W : Nat) (image : Int) (w : World) (h : IntsAt w (.slice va vn vc) xs) (hr : RuleOk K R xs) (hin : rest + (K - 1) * W < xs.length) :
    Calls Tryd.prog 57 #[.agg #[.int .i64 K, .int .i64 R, .slice va vn vc], .int .i64 rest, .int .i64 W, .int .i64 image] w fun e w' => e = .returned (.int .i64 (fit K xs rest W image)) ∧ w' = w.alloc (.cells #[.int .i64 K, .int .i64 R, .slice va vn vc] 24) := by
  have hb0 := belowAlloc w (.cells #[.int .i64 K, .int .i64 R, .slice va vn vc] 24)
  have hlen := hr.len_le
  have hk1 := hr.k1
  have hk4 := hr.k4
  replace h := Lib.hid (h.below hb0)
  go_enter Tryd.func57, Tryd.ntmps57
  go_wp2
  go_loop [12] (fun i => ∃ s : Nat, s ≤ K ∧ i = .int .i64 s ∧ fit K xs rest W image = fitP xs rest W image (K - s) s) (fun i => K - (intOf i).toNat)
  case atStart => exact ⟨0, by omega, rfl, rfl⟩
  case round =>
    obtain ⟨s, hs, rfl, hf⟩ := hrel
    by_cases hsl : s < K
    · have hsW : s * W ≤ (K - 1) * W := Nat.mul_le_mul_right _ (by omega)
      have hj : rest + s * W < xs.length := by omega
      have i1 : ∀ w', (Instr.indexAt 22 (.slice va vn vc) (.int .i64 ((rest : Int) + (s : Int) * (W : Int)))).run Tryd.prog w' = .ok (.pointer (some (valAt (.slice va vn vc) (rest + s * W)))) w' := by
        intro w'
        have := h.out.idx (rest + s * W) hj w'
        rwa [Int.natCast_add, Int.natCast_mul] at this
      have c1 := h.out.cellD (rest + s * W) hj
      have hsw0 : 0 ≤ (s : Int) * (W : Int) := Int.mul_nonneg (by omega) (by omega)
      have hsw1 : (s : Int) * (W : Int) ≤ 16384 := by
        have : s * W ≤ 16384 := by omega
        exact_mod_cast this
      have e : K - s = (K - (s + 1)) + 1 := by omega
      rw [e, fitP] at hf
      by_cases hq : xs.getD (rest + s * W) 0 = image
      · have hq2 : (xs.getD (rest + s * W) 0 == image) = true := by rw [beq_iff_eq]; exact hq
        rw [if_pos hq] at hf
        replace hf := Lib.hid hf
        clear hq
        generalize xs.getD (rest + s * W) 0 = y at hq2 c1
        go_wp2
        go_ret
        exact ⟨by rw [hf.out]; rfl, rfl⟩
      · have hq2 : (xs.getD (rest + s * W) 0 == image) = false := by rw [beq_eq_false_iff_ne]; exact hq
        rw [if_neg hq] at hf
        replace hf := Lib.hid hf
        clear hq
        generalize xs.getD (rest + s * W) 0 = y at hq2 c1
        go_wp2
        go_round
        case rel => exact ⟨s + 1, by omega, by go_num, hf.out⟩
        case measure => simp [intOf]; omega
    · obtain rfl : K = s := by omega
      rw [Nat.sub_self] at hf
      replace hf := Lib.hid hf
      go_wp2
      go_ret
      exact ⟨by rw [hf.out]; rfl, rfl⟩

set_option maxHeartbeats 1000000 in
theorem perm_check (r : Nat → Addr) (K R : Nat) (va : Option Addr) (vn vc : Nat) (u v : Value) (xs ys : List Int) (w : World) (hg : Glob r w) (hu : IntsAt w u xs) (hv : IntsAt w v ys) (hR : R ≤ 3) :
    Calls Tryd.prog 55 #[.agg #[.int .i64 K, .int .i64 R, .slice va vn vc], u, v] w (Ret1 (fun x w' => ErrIs r w' (checkM K R xs ys) x) w) := by
  have hb0 := belowAlloc w (.cells #[.int .i64 K, .int .i64 R, .slice va vn vc] 24)
  have l1 := hu.len
  have l2 := hv.len
  obtain ⟨a1, n1, c1, rfl⟩ := hu.shape
  obtain ⟨a2, n2, c2, rfl⟩ := hv.shape
  replace hg := Lib.hid (hg.below hb0)
  replace hu := Lib.hid (hu.below hb0)
  replace hv := Lib.hid (hv.below hb0)
  by_cases h1 : 4096 < xs.length
  · rw [checkM, if_pos h1]
    go_enter Tryd.func55, Tryd.ntmps55
    go_wp2_with fail
    refine (perm_wrong r _ _ _ hg.out (by decide) (by decide)).mono ?_
    rintro e w2 ⟨x, rfl, hb', he⟩
    go_wp2
    go_ret
    exact ⟨_, rfl, Below.step hb0 hb', he⟩
  by_cases h2 : ys.length ≠ 2 * R
  · rw [checkM, if_neg h1, if_pos h2]
    have hne : ((ys.length : Int) != 2 * (R : Int)) = true := by rw [bne_iff_ne]; omega
    clear h2
    go_enter Tryd.func55, Tryd.ntmps55
    go_wp2_with fail
    refine (perm_wrong r _ _ _ hg.out (by decide) (by decide)).mono ?_
    rintro e w2 ⟨x, rfl, hb', he⟩
    go_wp2
    go_ret
    exact ⟨_, rfl, Below.step hb0 hb', he⟩
  have hne : ((ys.length : Int) != 2 * (R : Int)) = false := by rw [bne_eq_false_iff_eq]; omega
  rw [checkM, if_neg h1, if_neg h2]
  have hy : ys.length ≤ 6 := by omega
  clear h2
  rcases idxOf_cases (odd1 K) (xs ++ ys) with ⟨hi, _⟩ | ⟨i, hi, hi', _⟩
  · rw [if_pos hi]
    replace hi := Lib.hid hi
    go_enter Tryd.func55, Tryd.ntmps55
    go_wp2_with fail
    refine (concat2 _ _ xs ys _ hu.out hv.out (by omega) (by omega) _ (by simp)).mono ?_
    rintro e w1 ⟨x, rfl, hb1, ho⟩
    have hb2 := Below.step hb0 (Below.step (belowAlloc _ _) hb1)
    have z0 : w1.cell? ⟨w.heap.size, 0, none⟩ = some (.int .i64 K) := by rw [hb1.cell (by simp; omega)]; simp
    replace ho := Lib.hid ho
    go_wp2_with fail
    refine (indexFunc_any x _ 100 (xs ++ ys) (odd1 K) _ ho.out.at eg_perm_check1 (fun x _ => perm_check1 x K _ _ z0)).mono ?_
    rintro e w' ⟨rfl, rfl⟩
    rw [hi.out]
    go_wp2
    go_ret
    exact ⟨_, rfl, hb2, rfl⟩
  · rw [if_neg (by omega), hi]
    replace hi := Lib.hid hi
    go_enter Tryd.func55, Tryd.ntmps55
    go_wp2_with fail
    refine (concat2 _ _ xs ys _ hu.out hv.out (by omega) (by omega) _ (by simp)).mono ?_
    rintro e w1 ⟨x, rfl, hb1, ho⟩
    have hb2 := Below.step hb0 (Below.step (belowAlloc _ _) hb1)
    have hb3 := Below.step (belowAlloc _ _) hb1
    have z0 : w1.cell? ⟨w.heap.size, 0, none⟩ = some (.int .i64 K) := by rw [hb1.cell (by simp; omega)]; simp
    replace ho := Lib.hid ho
    go_wp2_with fail
    refine (indexFunc_any x _ 100 (xs ++ ys) (odd1 K) _ ho.out.at eg_perm_check1 (fun x _ => perm_check1 x K _ _ z0)).mono ?_
    rintro e w' ⟨rfl, rfl⟩
    rw [hi.out]
    go_wp2_with fail
    refine (perm_wrong r _ _ _ (hg.out.below hb3) (by decide) (by decide)).mono ?_
    rintro e w2 ⟨x, rfl, hb', he⟩
    go_wp2
    go_ret
    exact ⟨_, rfl, Below.step hb2 hb', he⟩
end Go.Proofs.YtmddapkhipmlgaaDoor
