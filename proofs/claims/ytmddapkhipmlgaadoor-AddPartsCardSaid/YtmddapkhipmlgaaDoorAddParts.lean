/-
  Walk: edenlaw18.AddParts returns true at every rule.
-/
import Derived.Test.YtmddapkhipmlgaaDoorLaw18
import Derived.Test.YtmddapkhipmlgaaDoorPureParts
namespace Go.Proofs.YtmddapkhipmlgaaDoor
open Go.RowKit
set_option maxRecDepth 100000

theorem addParts_bad (r : Nat → Addr) (k R : Int) (v : Value) (xs : List Int) (t : Int × List (ByteArray × Int)) (w : World) (hg : Glob r w) (h : IntsAt w v xs) (hc : checkP k R xs = some t) :
    Calls Tryd.prog 3 #[.agg #[.int .i64 k, .int .i64 R, v]] w (Ret1 (fun x _ => x = .bool true) w) := by
  obtain ⟨va, vn, vc, rfl⟩ := h.shape
  have hb0 := (Below.refl w.heap.size w).alloc (Nat.le_refl _) (.cells #[.int .i64 k, .int .i64 R, .slice va vn vc] 24)
  have hg0 := Lib.hid (hg.below hb0)
  have h0 := Lib.hid (h.below hb0)
  clear hg h
  replace hc := Lib.hid hc
  go_enter Tryd.func3, Tryd.ntmps3
  go_wp2_with fail
  refine (awake18 r _ hg0.out).mono ?_
  rintro e w1 ⟨x, rfl, hb1, rfl⟩
  obtain ⟨z0, z1, z2, f0, f1, f2⟩ := cells3 hb1
  go_wp2_with fail
  refine (of_bad r k R _ xs t _ (hg0.out.below hb1) (h0.out.below hb1) hc.out).mono ?_
  rintro e w2 ⟨x, y, z, rfl, hb2, rfl, rfl, he⟩
  obtain ⟨T, a, rfl⟩ := ErrIs.some_shape (t := (t.1, (sAdditive, 0) :: t.2)) he
  clear he
  go_wp2
  go_ret
  exact ⟨_, rfl, (hb0.trans (hb1.mono (by simp))).trans (hb2.mono (by have := hb1.size; simp at this; omega)), rfl⟩

set_option maxHeartbeats 2000000 in
theorem addParts_ok (r : Nat → Addr) (K R : Nat) (v : Value) (xs : List Int) (w : World) (hg : Glob r w) (h : IntsAt w v xs) (hr : RuleOk K R xs) :
    Calls Tryd.prog 3 #[.agg #[.int .i64 K, .int .i64 R, v]] w (Ret1 (fun x _ => x = .bool true) w) := by
  obtain ⟨va, vn, vc, rfl⟩ := h.shape
  have hb0 := (Below.refl w.heap.size w).alloc (Nat.le_refl _) (.cells #[.int .i64 K, .int .i64 R, .slice va vn vc] 24)
  have hg0 := Lib.hid (hg.below hb0)
  have h0 := Lib.hid (h.below hb0)
  have hxl := h.len
  have hk1 := hr.k1
  have hk4 := hr.k4
  have hr3 := hr.r3
  have hlen := hr.len_le
  clear hg h
  replace hr := Lib.hid hr
  go_enter Tryd.func3, Tryd.ntmps3
  go_wp2_with fail
  refine (awake18 r _ hg0.out).mono ?_
  rintro e w1 ⟨x, rfl, hb1, rfl⟩
  obtain ⟨z0, z1, z2, f0, f1, f2⟩ := cells3 hb1
  go_wp2_with fail
  refine (of_ok K R _ xs _ (h0.out.below hb1) hr.out).mono ?_
  rintro e w2 ⟨x, y, z, rfl, hb2, rfl, rfl, hs1, hs0⟩
  replace hb2 := hb1.trans (hb2.mono hb1.size)
  clear z0 z1 z2 f0 f1 f2
  obtain ⟨z0, z1, z2, f0, f1, f2⟩ := cells3 hb2
  have h2 := h0.out.below hb2
  replace hball := Lib.hid (hb0.trans (hb2.mono (by simp)))
  -- the length of what is told
  have hfl : ∀ w', (Builtin.len_ #[22] 3 #[x]).run Tryd.prog w' = .ok (.int .i64 (if isSum K R xs = true then 2 * (R : Int) + 1 else 0)) w' := by
    intro w'
    cases hs : isSum K R xs
    · rw [hs0 hs]
      exact (OwnI.nil 0 w').at.len w'
    · have := (hs1 hs).at.len w'
      rw [facs_length] at this
      rw [this]; simp
  clear hs1 hs0
  by_cases hbig : xs.length ≤ 256
  case neg =>
    have hbig' : 256 < xs.length := by omega
    clear hbig h2 hb2
    go_wp2
    go_ret
    exact ⟨_, rfl, hball.out, rfl⟩
  obtain ⟨b, hbE⟩ : ∃ b, isSum K R xs = b := ⟨_, rfl⟩
  rw [hbE] at hfl ⊢
  replace hbE := Lib.hid hbE
  have hT := Lib.hid h2
  clear h2
  have hbig1 : xs.length ≤ 256 := hbig
  clear hbig
  cases b
  all_goals simp only [if_true, Bool.false_eq_true, if_false] at hfl
  all_goals go_wp2
  all_goals clear hfl
  all_goals go_loopw [7, 8] (fun ad i wr => (∃ j : Nat, j ≤ xs.length ∧ i = .int .i64 j ∧ ((ad = .bool true ∧ ∀ t, t < j → Good K xs t) ∨ (ad = .bool false ∧ ∃ t, t < xs.length ∧ Bad K xs t))) ∧ ∃ n, wr = w2.drewN n) (fun _ i _ => xs.length - (intOf i).toNat)
  iterate 2 (case atStart => exact ⟨⟨0, by omega, rfl, .inl ⟨rfl, by intro t ht; omega⟩⟩, 0, rfl⟩)
  iterate 2 (case round =>
    obtain ⟨⟨j, hj, rfl, had⟩, n, rfl⟩ := hrel
    by_cases hlt : j < xs.length
    case neg =>
      have hend : Hid ((u7 = .bool true ∧ isSum K R xs = true) ∨ (u7 = .bool false ∧ isSum K R xs = false)) := by
        rcases had with ⟨ha, hgd⟩ | ⟨ha, t, ht, hbd⟩
        · exact .inl ⟨ha, sum_of_good hr.out fun t ht => hgd t (by omega)⟩
        · exact .inr ⟨ha, not_sum_of_bad hr.out t ht hbd⟩
      clear had
      obtain ⟨rfl, hs⟩ | ⟨rfl, hs⟩ := hend.out
      · rw [hbE.out] at hs
        first
        | (cases hs; done)
        | (clear hs; go_wp2; go_ret; exact ⟨_, rfl, below_drewN hball.out n, rfl⟩)
      · rw [hbE.out] at hs
        first
        | (cases hs; done)
        | (clear hs; go_wp2; go_ret; exact ⟨_, rfl, below_drewN hball.out n, rfl⟩)
    case pos =>
      rcases had with ⟨rfl, hgd⟩ | ⟨rfl, t, ht, hbd⟩
      case inr =>
        have hs := not_sum_of_bad hr.out t ht hbd
        rw [hbE.out] at hs
        clear hbd
        first
        | (cases hs; done)
        | (clear hs; go_wp2; go_ret; exact ⟨_, rfl, below_drewN hball.out n, rfl⟩)
      case inl =>
        replace hgd := Lib.hid hgd
        go_wp2
        go_loop [9, 10] (fun x wt => ∃ t q : Nat, x = .int .i64 q ∧ wt = .int .i64 (pw K t) ∧ q * pw K t = j) (fun x _ => (intOf x).toNat)
        case atStart => exact ⟨0, j, rfl, rfl, by rw [pw_zero]; omega⟩
        case round =>
          obtain ⟨t, q, rfl, rfl, hq⟩ := hrel
          by_cases hq0 : q = 0
          · subst hq0
            obtain rfl : j = 0 := by omega
            clear hq
            have i1 : ∀ w', (Instr.indexAt 22 (.slice va vn vc) (.int .i64 0)).run Tryd.prog w' = .ok (.pointer (some (valAt (.slice va vn vc) 0))) w' := hT.out.idx 0 hlt
            have c1 := hT.out.cellD 0 hlt
            by_cases hz : xs.getD 0 0 = 0
            · have hz1 : (xs.getD 0 0 == 0) = true := by rw [beq_iff_eq]; exact hz
              have hGd : Hid (∀ t, t < 0 + 1 → Good K xs t) := by
                intro t ht
                obtain rfl : t = 0 := by omega
                exact .inl ⟨rfl, hz⟩
              clear hz
              generalize xs.getD 0 0 = y0 at c1 hz1
              go_wp2
              go_roundw
              case rel => exact ⟨⟨0 + 1, by omega, by go_num, .inl ⟨rfl, hGd.out⟩⟩, n, rfl⟩
              case measure => simp [intOf]; omega
            · have hz1 : (xs.getD 0 0 == 0) = false := by rw [beq_eq_false_iff_ne]; exact hz
              have hBd : Hid (∃ t, t < xs.length ∧ Bad K xs t) := ⟨0, hlt, .inl ⟨rfl, hz⟩⟩
              clear hz
              generalize xs.getD 0 0 = y0 at c1 hz1
              go_wp2
              go_roundw
              case rel => exact ⟨⟨0 + 1, by omega, by go_num, .inr ⟨rfl, hBd.out⟩⟩, n, rfl⟩
              case measure => simp [intOf]; omega
          · have hp := pw_pos t hk1
            have hqp : pw K t ≤ q * pw K t := Nat.le_mul_of_pos_left _ (by omega)
            have hpj : pw K t ≤ j := by omega
            have hK2 : 2 ≤ K := by
              by_cases c : 2 ≤ K
              · exact c
              · have := hr.out.len
                rw [show K = 1 by omega] at this
                simp [pw] at this
                omega
            have hj1 : 1 ≤ j := by omega
            have hq1 : 1 ≤ q := by omega
            clear hq0
            by_cases hqm : q % K = 0
            · have hqd : q = q / K * K := by have := Nat.div_add_mod q K; rw [Nat.mul_comm] at this; omega
              have e1 : Hid (q / K * pw K (t + 1) = j) := by
                show _ = _
                rw [pw_succ, Nat.mul_comm (pw K t), ← Nat.mul_assoc, ← hqd]; exact hq
              have e2 : q / K < q := Nat.div_lt_self (by omega) (by omega)
              have hd : ((q : Int) % (K : Int) == 0) = true := by rw [beq_iff_eq]; omega
              have hm1 : 0 ≤ (pw K t : Int) * (K : Int) := Int.mul_nonneg (by omega) (by omega)
              have hm2 : (pw K t : Int) * (K : Int) ≤ 16384 := by
                have h1 : pw K t * K ≤ pw K t * q := Nat.mul_le_mul_left _ (Nat.le_of_dvd (by omega) (Nat.dvd_of_mod_eq_zero hqm))
                rw [Nat.mul_comm (pw K t) q] at h1
                have : pw K t * K ≤ 16384 := by omega
                exact_mod_cast this
              have hqj : q ≤ j := by rw [← hq]; exact Nat.le_mul_of_pos_right _ hp
              have hqb : (q : Int) / (K : Int) ≤ 16384 := by
                have : q / K ≤ 16384 := by omega
                exact_mod_cast this
              have hqb0 : 0 ≤ (q : Int) / (K : Int) := Int.ediv_nonneg (by omega) (by omega)
              clear hqd
              replace hq := Lib.hid hq
              replace hqm := Lib.hid hqm
              go_wp2
              go_round
              case rel => exact ⟨t + 1, q / K, by simp, by rw [pw_succ]; simp, e1.out⟩
              case measure =>
                simp only [intOf]
                show ((q : Int) / (K : Int)).toNat < (q : Int).toNat
                have : ((q : Int) / (K : Int)) = ((q / K : Nat) : Int) := by simp
                rw [this]; omega
            · have hd : ((q : Int) % (K : Int) == 0) = false := by rw [beq_eq_false_iff_ne]; omega
              have i1 := hT.out.idx j hlt
              have c1 := hT.out.cellD j hlt
              have i2 := hT.out.idx (pw K t) (by omega)
              have c2 := hT.out.cellD (pw K t) (by omega)
              have i3 : ∀ w', (Instr.indexAt 22 (.slice va vn vc) (.int .i64 ((j : Int) - (pw K t : Int)))).run Tryd.prog w' = .ok (.pointer (some (valAt (.slice va vn vc) (j - pw K t)))) w' := by
                intro w'
                have := hT.out.idxI ((j : Int) - (pw K t : Int)) (by omega) (by omega) w'
                rwa [show ((j : Int) - (pw K t : Int)).toNat = j - pw K t by omega] at this
              have c3 := hT.out.cellD (j - pw K t) (by omega)
              have hsy : ∀ i, 0 ≤ xs.getD i 0 ∧ xs.getD i 0 < K := by
                intro i
                by_cases c : i < xs.length
                · simp only [List.getD, List.getElem?_eq_getElem c, Option.getD_some]
                  exact hr.out.syms _ (by simp)
                · simp only [List.getD, List.getElem?_eq_none (Nat.le_of_not_lt c), Option.getD_none]
                  omega
              have s2 := hsy (pw K t)
              have s3 := hsy (j - pw K t)
              clear hsy
              have hG : Hid (xs.getD j 0 = (xs.getD (j - pw K t) 0 + xs.getD (pw K t) 0) % K → Good K xs j) := fun h => .inr ⟨t, q, hq, hqm, h⟩
              have hB : Hid (xs.getD j 0 ≠ (xs.getD (j - pw K t) 0 + xs.getD (pw K t) 0) % K → Bad K xs j) := fun h => .inr ⟨t, q, hq, hqm, h⟩
              replace hq := Lib.hid hq
              replace hqm := Lib.hid hqm
              generalize xs.getD j 0 = y1 at c1 hG hB
              generalize xs.getD (j - pw K t) 0 = y3 at c3 hG hB s3
              generalize xs.getD (pw K t) 0 = y2 at c2 hG hB s2
              by_cases hz : y1 = (y3 + y2) % (K : Int)
              · have hz1 : (y1 == (y3 + y2) % (K : Int)) = true := by rw [beq_iff_eq]; exact hz
                have hGd : Hid (∀ t, t < j + 1 → Good K xs t) := by
                  intro t ht
                  by_cases e : t = j
                  · rw [e]; exact hG.out hz
                  · exact hgd.out t (by omega)
                clear hz
                go_wp2
                go_quiet (fail)
                go_wp2
                go_roundw
                case rel => exact ⟨⟨j + 1, by omega, by go_num, .inl ⟨rfl, hGd.out⟩⟩, _, rfl⟩
                case measure => simp [intOf]; omega
              · have hz1 : (y1 == (y3 + y2) % (K : Int)) = false := by rw [beq_eq_false_iff_ne]; exact hz
                have hBd : Hid (∃ t, t < xs.length ∧ Bad K xs t) := ⟨j, hlt, hB.out hz⟩
                clear hz
                go_wp2
                go_quiet (fail)
                go_wp2
                go_roundw
                case rel => exact ⟨⟨j + 1, by omega, by go_num, .inr ⟨rfl, hBd.out⟩⟩, _, rfl⟩
                case measure => simp [intOf]; omega)

theorem addParts_any (r : Nat → Addr) (k R : Int) (v : Value) (xs : List Int) (w : World) (hg : Glob r w) (h : IntsAt w v xs) :
    Calls Tryd.prog 3 #[.agg #[.int .i64 k, .int .i64 R, v]] w (Ret1 (fun x _ => x = .bool true) w) := by
  cases hc : checkP k R xs with
  | none =>
    obtain ⟨K, R, rfl, rfl, hr⟩ := checkP_none hc
    exact addParts_ok r K R v xs w hg h hr
  | some t => exact addParts_bad r k R v xs t w hg h hc
end Go.Proofs.YtmddapkhipmlgaaDoor
