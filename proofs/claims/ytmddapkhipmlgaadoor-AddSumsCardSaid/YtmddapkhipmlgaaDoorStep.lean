/-
  Walk: rule.Step at a rule and a word of its symbols.
-/
import Derived.Test.YtmddapkhipmlgaaDoorRight
import Derived.Test.YtmddapkhipmlgaaDoorPureStep
namespace Go.Proofs.YtmddapkhipmlgaaDoor
open Go.RowKit
set_option maxRecDepth 100000

set_option maxHeartbeats 800000 in
theorem step_ok (K R : Nat) (va : Option Addr) (vn vc : Nat) (T : List Int) (u : Value) (ys : List Int) (w : World) (h : IntsAt w (.slice va vn vc) T) (hr : RuleOk K R T) (hu : IntsAt w u ys) (hy : Syms K ys) (hyl : ys.length ≤ 4096) :
    Calls Tryd.prog 26 #[.agg #[.int .i64 K, .int .i64 R, .slice va vn vc], u] w (Ret2 (fun x y w' => OwnI w.heap.size w' x (imgP K R T ys) ∧ y = .nilIface) w) := by
  have hb0 := belowAlloc w (.cells #[.int .i64 K, .int .i64 R, .slice va vn vc] 24)
  have hR := hr.r3
  have hk1 := hr.k1
  have hk4 := hr.k4
  have hlen := hr.len_le
  have hlp := hr.len_pos
  have hlT := Lib.hid hr.len
  have l1 := hu.len
  have lT := h.len
  have hodd := Lib.hid hy.odd
  replace h := Lib.hid (h.below hb0)
  replace hu := Lib.hid (hu.below hb0)
  replace hr := Lib.hid hr
  replace hy := Lib.hid hy
  obtain ⟨ua, un, uc, rfl⟩ := hu.out.shape
  have hL0 : ((T.length : Int) == 0) = false := by rw [beq_eq_false_iff_ne]; omega
  have hL1 : ¬ (T.length : Int) = 0 := by omega
  have hL2 : (0 : Int) < T.length := by omega
  go_enter Tryd.func26, Tryd.ntmps26
  go_wp2_with fail
  refine (check_ok K R _ T _ h.out hr.out).mono ?_
  rintro e w1 ⟨x, rfl, hb, rfl⟩
  obtain ⟨z0, z1, z2, -, -, -⟩ := cells3 hb
  go_wp2_with fail
  refine (rule_odd K _ ys _ (hu.out.below hb)).mono ?_
  rintro e w2 ⟨x, rfl, hb', rfl⟩
  rw [hodd.out]
  have zz := Lib.hid (And.intro z0 (And.intro z1 z2))
  clear z0 z1 z2
  have hb2 := Below.step hb hb'
  obtain ⟨z0, z1, z2⟩ := keep3 hb' zz.out
  have zz2 := Lib.hid (And.intro z0 (And.intro z1 z2))
  clear z0 z1 z2
  have hsz : w.heap.size < w2.heap.size := World.block_lt_of_cell? _ _ zz2.out.1
  have hT2 := Lib.hid (h.out.below hb2)
  have hu2 := Lib.hid (hu.out.below hb2)
  go_wp2
  go_loopw [8, 9, 31] (fun o n i wr => ∃ j : Nat, j ≤ ys.length ∧ i = .int .i64 j ∧ n = .int .i64 (numW K (ys.take j) % T.length : Nat) ∧ OwnI w2.heap.size wr o (imgP K R T (ys.take j)) ∧ Below w2.heap.size w2 wr) (fun _ _ i _ => ys.length - (intOf i).toNat)
  case atStart => exact ⟨0, by omega, rfl, by simp [numW], by simpa [imgP] using OwnI.nil _ _, Below.refl _ _⟩
  case round =>
    obtain ⟨j, hj, rfl, rfl, hO, hbO⟩ := hrel
    obtain ⟨wo, rfl⟩ : ∃ wo : World, wo = wr := ⟨_, rfl⟩
    by_cases hjl : j < ys.length
    · have hyi := hu2.out.below hbO
      have i1 := hyi.idx j hjl
      have c1 := hyi.cell j hjl
      have hx := hy.out ys[j] (by simp)
      obtain ⟨z0, z1, z2⟩ := keep3 hbO zz2.out
      have hst : Hid (numW K (ys.take (j + 1)) % T.length = (numW K (ys.take j) % T.length * K + ys[j].toNat) % T.length) := by
        show _ = _
        rw [take_snoc ys j hjl]; exact numW_step ..
      have hsy : Syms K (ys.take j ++ [ys[j]]) := by
        intro y hy'; exact hy.out y (by rw [← take_snoc ys j hjl] at hy'; exact List.mem_of_mem_take hy')
      have him := imgP_snoc (T := T) (R := R) hlT.out hsy
      rw [← take_snoc ys j hjl, hst.out] at him
      have htl : (ys.take j).length = j := by simp; omega
      rw [htl] at him
      have hol : (imgP K R T (ys.take j)).length ≤ 5000 := by rw [imgP_length]; omega
      have hNl : numW K (ys.take j) % T.length < T.length := Nat.mod_lt _ (by omega)
      generalize ys[j] = x at c1 hx hst him
      replace him := Lib.hid him
      generalize numW K (ys.take j) % T.length = N at hst him hNl
      generalize imgP K R T (ys.take j) = O at hO hol him
      have hm1 : 0 ≤ (N : Int) * (K : Int) := Int.mul_nonneg (by omega) (by omega)
      have hm2 : (N : Int) * (K : Int) ≤ 65536 := by
        have : N * K ≤ 65536 := Nat.mul_le_mul (show N ≤ 16384 by omega) hk4
        have h2 := Int.ofNat_le.2 this
        rw [Int.natCast_mul] at h2
        exact h2
      obtain ⟨X, rfl⟩ := Int.eq_ofNat_of_zero_le hx.1
      rw [Int.toNat_natCast] at him hst
      have hcast : Hid ((((N * K + X) % T.length : Nat) : Int) = ((N : Int) * (K : Int) + (X : Int)) % (T.length : Int)) := by show _ = _; simp
      have hMl : (N * K + X) % T.length < T.length := Nat.mod_lt _ (by omega)
      have hTw := hT2.out.below hbO
      have i2 : ∀ w', (Instr.indexAt 22 (.slice va vn vc) (.int .i64 (((N : Int) * (K : Int) + (X : Int)) % (T.length : Int)))).run Tryd.prog w' = .ok (.pointer (some (valAt (.slice va vn vc) ((N * K + X) % T.length)))) w' := by
        intro w'
        rw [← hcast.out]
        exact hTw.idx _ hMl w'
      have c2 := hTw.cellD _ hMl
      replace hO := Lib.hid hO
      clear hyi hTw
      generalize T.getD ((N * K + X) % T.length) 0 = y at c2 him
      by_cases hge : 2 * R ≤ j
      · replace him := Lib.hid (him.out.trans (if_pos hge))
        go_wp2_with (at_builtin; refine wpl_append1 rfl _ _ rfl w2.heap.size _ O y hO.out rfl rfl (by omega) hbO.size ?_)
        intro nv w4 hO4 hb4 _ _
        have hbT := hbO.trans hb4
        replace hO4 := Lib.hid hO4
        go_wp2
        go_roundw
        case rel => exact ⟨j + 1, by omega, by go_num, by rw [hst.out, hcast.out], by rw [him.out]; exact hO4.out, hbT⟩
        case measure => simp [intOf]; omega
      · replace him := Lib.hid (him.out.trans (if_neg hge))
        go_wp2
        go_roundw
        case rel => exact ⟨j + 1, by omega, by go_num, by rw [hst.out, hcast.out], by rw [him.out]; exact hO.out, hbO⟩
        case measure => simp [intOf]; omega
    · obtain rfl : j = ys.length := by omega
      rw [List.take_length] at hO
      go_wp2
      go_ret2
      exact ⟨_, _, rfl, Below.step hb0 (Below.step hb2 hbO), hO.mono (by omega), rfl⟩
end Go.Proofs.YtmddapkhipmlgaaDoor
