/-
  Walks: forms.symbol, forms.behind$1.
-/
import Derived.Test.YtmddapkhipmlgaaDoorStep
namespace Go.Proofs.YtmddapkhipmlgaaDoor
open Go.RowKit
set_option maxRecDepth 100000

theorem symbol_any (K R : Nat) (va : Option Addr) (vn vc : Nat) (T : List Int) (u : Value) (ys : List Int) (w : World) (h : IntsAt w (.slice va vn vc) T) (hr : RuleOk K R T) (hu : IntsAt w u ys) (hy : Syms K ys) (hyl : ys.length = 2 * R + 1) :
    Calls Tryd.prog 91 #[.agg #[.int .i64 K, .int .i64 R, .slice va vn vc], u] w (Ret1 (fun x _ => x = .int .i64 (T.getD (numW K ys) 0)) w) := by
  have hb0 := belowAlloc w (.cells #[.int .i64 K, .int .i64 R, .slice va vn vc] 24)
  have hR := hr.r3
  have hk1 := hr.k1
  have hk4 := hr.k4
  have l1 := hu.len
  have hb7 : ys.length ≤ 7 := by omega
  have hnl : numW K ys < T.length := by rw [hr.len, ← hyl]; exact numW_lt ys hy
  generalize hy0 : T.getD (numW K ys) 0 = y0
  replace hy0 := Lib.hid hy0
  replace hnl := Lib.hid hnl
  replace hyl := Lib.hid hyl
  replace h := Lib.hid (h.below hb0)
  replace hu := Lib.hid (hu.below hb0)
  replace hy := Lib.hid hy
  replace hr := Lib.hid hr
  obtain ⟨ua, un, uc, rfl⟩ := hu.out.shape
  go_enter Tryd.func91, Tryd.ntmps91
  go_wp2
  go_loop [5, 10] (fun n i => ∃ j : Nat, j ≤ ys.length ∧ i = .int .i64 j ∧ n = .int .i64 (numW K (ys.take j))) (fun _ i => ys.length - (intOf i).toNat)
  case atStart => exact ⟨0, by omega, rfl, rfl⟩
  case round =>
    obtain ⟨j, hj, rfl, rfl⟩ := hrel
    by_cases hjl : j < ys.length
    · have i1 := hu.out.idx j hjl
      have c1 := hu.out.cell j hjl
      have hx := hy.out ys[j] (by simp)
      have hn : Hid (numW K (ys.take (j + 1)) = numW K (ys.take j) * K + ys[j].toNat) := by
        show _ = _
        rw [take_snoc ys j hjl, numW_snoc]
      have hn2 : numW K (ys.take j) ≤ 16384 := by
        have h1 := numW_lt (ys.take j) (fun x hx => hy.out x (List.mem_of_mem_take hx))
        have h2 := pw_le hk1 hk4 (i := (ys.take j).length) (by simp; omega)
        omega
      generalize ys[j] = x at c1 hx hn
      generalize numW K (ys.take j) = N at hn hn2
      have hm1 : 0 ≤ (N : Int) * (K : Int) := Int.mul_nonneg (by omega) (by omega)
      have hm2 : (N : Int) * (K : Int) ≤ 65536 := by
        have : N * K ≤ 65536 := Nat.mul_le_mul hn2 hk4
        have h2 := Int.ofNat_le.2 this
        rw [Int.natCast_mul] at h2
        exact h2
      go_wp2
      go_round
      case rel => exact ⟨j + 1, by omega, by go_num, by rw [hn.out]; go_num⟩
      case measure => simp [intOf]; omega
    · obtain rfl : j = ys.length := by omega
      rw [List.take_length]
      have i2 := h.out.idx (numW K ys) hnl.out
      have c2 := h.out.cellD (numW K ys) hnl.out
      rw [hy0.out] at c2
      clear hy0 hnl
      generalize numW K ys = N at i2 c2
      go_wp2
      go_ret
      exact ⟨_, rfl, hb0, rfl⟩

theorem behind1_any (K R1 R2 : Nat) (va : Option Addr) (vn vc : Nat) (T1 : List Int) (ua : Option Addr) (un uc : Nat) (T2 : List Int) (p q : Nat) (v : Value) (ys : List Int) (w : World)
    (h1 : IntsAt w (.slice va vn vc) T1) (hr1 : RuleOk K R1 T1) (h2 : IntsAt w (.slice ua un uc) T2) (hr2 : RuleOk K R2 T2) (hv : IntsAt w v ys) (hy : Syms K ys) (hyl : ys.length = 2 * (R1 + R2) + 1)
    (x0 : w.cell? ⟨p, 0, none⟩ = some (.int .i64 K)) (x1 : w.cell? ⟨p, 1, none⟩ = some (.int .i64 R2)) (x2 : w.cell? ⟨p, 2, none⟩ = some (.slice ua un uc))
    (y0 : w.cell? ⟨q, 0, none⟩ = some (.int .i64 K)) (y1 : w.cell? ⟨q, 1, none⟩ = some (.int .i64 R1)) (y2 : w.cell? ⟨q, 2, none⟩ = some (.slice va vn vc)) :
    Calls Tryd.prog 101 #[v, .pointer (some ⟨p, 0, none⟩), .pointer (some ⟨q, 0, none⟩)] w (Ret1 (fun x _ => x = .int .i64 (T1.getD (numW K (imgP K R2 T2 ys)) 0)) w) := by
  have hR1 := hr1.r3
  have hR2 := hr2.r3
  have hk1 := hr1.k1
  have hsy : Syms K (imgP K R2 T2 ys) := imgP_syms hk1 hr2.syms
  have hil : (imgP K R2 T2 ys).length = 2 * R1 + 1 := by rw [imgP_length]; omega
  have hle : ys.length ≤ 4096 := by omega
  replace h1 := Lib.hid h1
  replace h2 := Lib.hid h2
  replace hv := Lib.hid hv
  replace hy := Lib.hid hy
  replace hyl := Lib.hid hyl
  replace hr1 := Lib.hid hr1
  replace hr2 := Lib.hid hr2
  replace hsy := Lib.hid hsy
  replace hil := Lib.hid hil
  generalize hY : T1.getD (numW K (imgP K R2 T2 ys)) 0 = Y
  replace hY := Lib.hid hY
  have yy := Lib.hid (And.intro y0 (And.intro y1 y2))
  clear y0 y1 y2
  go_enter Tryd.func101, Tryd.ntmps101
  go_wp2_with fail
  refine (step_ok K R2 ua un uc T2 v ys _ h2.out hr2.out hv.out hy.out hle).mono ?_
  rintro e w1 ⟨x, y, rfl, hb, ho, rfl⟩
  obtain ⟨y0, y1, y2⟩ := keep3 hb yy.out
  replace ho := Lib.hid ho
  go_wp2_with fail
  refine (symbol_any K R1 va vn vc T1 x _ _ (h1.out.below hb) hr1.out ho.out.at hsy.out hil.out).mono ?_
  rintro e w2 ⟨x, rfl, hb', rfl⟩
  rw [hY.out]
  go_wp2
  go_ret
  exact ⟨_, rfl, Below.step hb hb', rfl⟩
end Go.Proofs.YtmddapkhipmlgaaDoor
