/-
  Walks: package permut.
-/
import Derived.Test.YtmddapkhipmlgaaDoorCheck
import Derived.Test.YtmddapkhipmlgaaDoorLib
import Derived.Test.YtmddapkhipmlgaaDoorOwn
import Derived.Test.YtmddapkhipmlgaaDoorFam
import Derived.Test.YtmddapkhipmlgaaDoorPurePermut
import Derived.Deep.RegionHeld3
import Derived.BigQuiet
import Derived.Deep.QuietTactic
namespace Go.Proofs.YtmddapkhipmlgaaDoor
open Go.RowKit
set_option maxRecDepth 100000

theorem perm_wrong (r : Nat → Addr) (at_ n : Int) (w : World) (hg : Glob r w) (h1 : 1 ≤ n) (h2 : n ≤ 11) :
    Calls Tryd.prog 54 #[.int .i64 at_, .int .i64 n] w (Ret1 (fun v w' => ErrIs r w' (fresh sPermut at_ n) v) w) := by
  go_enter Tryd.func54, Tryd.ntmps54
  go_wp2_with fail
  refine (new_any r _ at_ n w hg h1 h2).mono ?_
  rintro e w' ⟨v, rfl, hb, he⟩
  go_wp2
  go_ret
  exact ⟨_, rfl, hb, he⟩

theorem wrap64_nat (n : Nat) (h : n < 1048576) : wrap64 (n : Int) = n := wrap64_id (by omega) (by omega)
theorem wrap64_nat1 (n : Nat) (h1 : 1 ≤ n) (h : n < 1048576) : wrap64 ((n : Int) - 1) = ((n - 1 : Nat) : Int) := by
  rw [wrap64_id (by omega) (by omega)]; omega
theorem bits_or_nat (a b : Nat) (ha : a < 1024) (hb : b < 1024) : bits .or .i64 (a : Int) (b : Int) = ((a ||| b : Nat) : Int) := by
  have hx : a ||| b < 2 ^ 10 := Nat.or_lt_two_pow (by omega) (by omega)
  have h1 : (BitVec.ofInt 64 (a : Int)).toNat = a := by
    rw [BitVec.ofInt_natCast, BitVec.toNat_ofNat]; exact Nat.mod_eq_of_lt (by omega)
  have h2 : (BitVec.ofInt 64 (b : Int)).toNat = b := by
    rw [BitVec.ofInt_natCast, BitVec.toNat_ofNat]; exact Nat.mod_eq_of_lt (by omega)
  show IntKind.i64.wrap ((BitVec.ofInt 64 (a : Int) ||| BitVec.ofInt 64 (b : Int)).toNat : Int) = _
  rw [BitVec.toNat_or, h1, h2]
  exact wrapK (by omega) (by omega)

set_option maxHeartbeats 1000000 in
theorem unlike_any (K R : Nat) (va : Option Addr) (vn vc : Nat) (xs : List Int) (W : Nat) (w : World) (h : IntsAt w (.slice va vn vc) xs) (hr : RuleOk K R xs) (hW : 1 ≤ W) (q : Nat) (hdiv : xs.length = q * (W * K)) :
    Calls Tryd.prog 69 #[.agg #[.int .i64 K, .int .i64 R, .slice va vn vc], .int .i64 W] w (Ret1 (fun x _ => x = .bool (unlikeP K xs W)) w) := by
  have hb0 := belowAlloc w (.cells #[.int .i64 K, .int .i64 R, .slice va vn vc] 24)
  have h0 := Lib.hid h
  have hl := h.len
  have hk1 := hr.k1
  have hk4 := hr.k4
  have hlen := hr.len_le
  clear h
  replace hdiv := Lib.hid hdiv
  replace hr := Lib.hid hr
  go_enter Tryd.func69, Tryd.ntmps69
  go_wp2_with fail
  go_loopw [11] (fun i wr => (∃ j : Nat, j ≤ xs.length ∧ i = .int .i64 j ∧ ∀ t, t < j → t / W % K = 0 → fullP K xs W t = true) ∧ ∃ n, wr = (w.alloc (.cells #[.int .i64 K, .int .i64 R, .slice va vn vc] 24)).drewN n) (fun i _ => xs.length - (intOf i).toNat)
  case atStart => exact ⟨⟨0, by omega, rfl, by intro t ht; omega⟩, 0, rfl⟩
  case round =>
    obtain ⟨⟨j, hj, rfl, hp⟩, n, rfl⟩ := hrel
    replace hp := Lib.hid hp
    by_cases hlt : j < xs.length
    · by_cases hm : j / W % K = 0
      · have hqd : 0 ≤ (j : Int) / (W : Int) := Int.ediv_nonneg (by omega) (by omega)
        have hqu : (j : Int) / (W : Int) ≤ 16384 := by
          have : j / W ≤ j := Nat.div_le_self _ _
          have : j / W ≤ 16384 := by omega
          exact_mod_cast this
        have hq : ((j : Int) / (W : Int) % (K : Int) != 0) = false := by
          rw [bne_eq_false_iff_eq]
          exact_mod_cast hm
        replace hm := Lib.hid hm
        go_wp2
        go_quiet (fail)
        go_wp2
        go_loop [6, 23] (fun n i => ∃ s : Nat, s ≤ K ∧ i = .int .i64 s ∧ n = .int .i64 (seenP xs W j s)) (fun _ i => K - (intOf i).toNat)
        case atStart => exact ⟨0, by omega, rfl, rfl⟩
        case round =>
          obtain ⟨s, hs, rfl, rfl⟩ := hrel
          by_cases hsl : s < K
          · have hx := hr.out.syms.getD (by omega) (j + s * W)
            have hin : j + s * W < xs.length := group_lt hW hdiv.out hlt hm.out hsl
            have h1 := h0.out.below hb0
            have i1 : ∀ w', (Instr.indexAt 22 (.slice va vn vc) (.int .i64 ((j : Int) + (s : Int) * (W : Int)))).run Tryd.prog w' = .ok (.pointer (some (valAt (.slice va vn vc) (j + s * W)))) w' := by
              intro w'
              have := h1.idx (j + s * W) hin w'
              rwa [Int.natCast_add, Int.natCast_mul] at this
            have c1 := h1.cellD (j + s * W) hin
            have hsw0 : 0 ≤ (s : Int) * (W : Int) := Int.mul_nonneg (by omega) (by omega)
            have hsw1 : (s : Int) * (W : Int) ≤ 16384 := by
              have : s * W ≤ 16384 := by omega
              exact_mod_cast this
            have hst : Hid (seenP xs W j (s + 1) = seenP xs W j s ||| 2 ^ (xs.getD (j + s * W) 0).toNat) := rfl
            have hsl2 := seenP_lt hk1 hr.out.syms W j s
            have h16 := two_pow_K hk4
            generalize xs.getD (j + s * W) 0 = x at hx c1 hst
            have hbx : 2 ^ x.toNat < 1024 := Nat.lt_of_lt_of_le (Nat.pow_lt_pow_right (by decide) (show x.toNat < 4 by omega)) (by decide)
            have hbit : Hid (bits BinOp.or IntKind.i64 ((seenP xs W j s : Nat) : Int) (wrap64 (2 ^ x.toNat)) = ((seenP xs W j (s + 1) : Nat) : Int)) := by
              show _ = _
              have e : (2 : Int) ^ x.toNat = ((2 ^ x.toNat : Nat) : Int) := by simp
              rw [e, wrap64_nat _ (by omega), bits_or_nat _ _ (by omega) hbx, hst.out]
            go_wp2
            go_round
            case rel => exact ⟨s + 1, by omega, by go_num, by rw [hbit.out]⟩
            case measure => simp [intOf]; omega
          · obtain rfl : K = s := by omega
            have h16 := two_pow_K hk4
            have h1K : 1 ≤ 2 ^ K := Nat.two_pow_pos K
            have e : (2 : Int) ^ K = ((2 ^ K : Nat) : Int) := by simp
            have e2 : wrap64 (wrap64 ((2 : Int) ^ K) - 1) = ((2 ^ K - 1 : Nat) : Int) := by
              rw [e, wrap64_nat _ (by omega), wrap64_nat1 _ h1K (by omega)]
            have hT : Hid (((seenP xs W j K : Nat) : Int) != wrap64 (wrap64 ((2 : Int) ^ K) - 1)) = Hid (fullP K xs W j = false) := by
              show ((((seenP xs W j K : Nat) : Int) != wrap64 (wrap64 ((2 : Int) ^ K) - 1)) = true) = (fullP K xs W j = false)
              rw [e2]
              apply propext
              rw [bne_iff_ne, fullP, beq_eq_false_iff_ne]
              omega
            cases hf : fullP K xs W j
            · have ht : (((seenP xs W j K : Nat) : Int) != wrap64 (wrap64 ((2 : Int) ^ K) - 1)) = true := by
                have := Eq.mpr hT hf; exact this
              have hu := Lib.hid (unlikeP_false (K := K) j hlt hm.out hf)
              clear hT e e2 hf
              go_wp2
              go_ret
              exact ⟨_, rfl, below_drewN hb0 _, (by rw [hu.out]; rfl)⟩
            · have ht : (((seenP xs W j K : Nat) : Int) != wrap64 (wrap64 ((2 : Int) ^ K) - 1)) = false := by
                rw [Bool.eq_false_iff]
                intro c
                have := Eq.mp hT c
                rw [hf] at this
                cases this
              replace hf := Lib.hid hf
              clear hT e e2
              go_wp2
              go_roundw
              case rel =>
                refine ⟨⟨j + 1, by omega, by go_num, ?_⟩, _, rfl⟩
                intro t ht' htm
                by_cases e : t = j
                · subst e; exact hf.out
                · exact hp.out t (by omega) htm
              case measure => simp [intOf]; omega
      · have hqd : 0 ≤ (j : Int) / (W : Int) := Int.ediv_nonneg (by omega) (by omega)
        have hqu : (j : Int) / (W : Int) ≤ 16384 := by
          have : j / W ≤ j := Nat.div_le_self _ _
          have : j / W ≤ 16384 := by omega
          exact_mod_cast this
        have hq : ((j : Int) / (W : Int) % (K : Int) != 0) = true := by
          rw [bne_iff_ne]
          intro e
          apply hm
          exact_mod_cast e
        replace hm := Lib.hid hm
        go_wp2
        go_quiet (fail)
        go_wp2
        go_roundw
        case rel =>
          refine ⟨⟨j + 1, by omega, by go_num, ?_⟩, _, rfl⟩
          intro t ht htm
          by_cases e : t = j
          · subst e; exact absurd htm hm.out
          · exact hp.out t (by omega) htm
        case measure => simp [intOf]; omega
    · have hu : unlikeP K xs W = true := unlikeP_true fun i hi hm => hp.out i (by omega) hm
      replace hu := Lib.hid hu
      go_wp2
      go_ret
      exact ⟨_, rfl, below_drewN hb0 n, (by rw [hu.out]; rfl)⟩

theorem sides_bad (r : Nat → Addr) (k R : Int) (va : Option Addr) (vn vc : Nat) (xs : List Int) (t : Int × List (ByteArray × Int)) (w : World) (hg : Glob r w) (h : IntsAt w (.slice va vn vc) xs) (hc : checkP k R xs = some t) :
    Calls Tryd.prog 28 #[.agg #[.int .i64 k, .int .i64 R, .slice va vn vc]] w (Ret3 (fun x y z w' => x = .bool false ∧ y = .bool false ∧ ErrIs r w' (under sPermut 0 (some t)) z) w) := by
  have hb0 := belowAlloc w (.cells #[.int .i64 k, .int .i64 R, .slice va vn vc] 24)
  replace hg := Lib.hid (hg.below hb0)
  replace h := Lib.hid (h.below hb0)
  replace hc := Lib.hid hc
  go_enter Tryd.func28, Tryd.ntmps28
  go_wp2_with fail
  refine (check_any r k R _ xs _ hg.out h.out).mono ?_
  rintro e w1 ⟨x, rfl, hb, he⟩
  rw [hc.out] at he
  have he' := Lib.hid he
  obtain ⟨T, p, rfl⟩ := he.some_shape
  clear he
  go_wp2_with fail
  refine (under_any r _ _ _ _ _ he'.out).mono ?_
  rintro e w2 ⟨x, rfl, hb', he⟩
  go_wp2
  go_ret3
  exact ⟨_, _, _, rfl, Below.step hb0 (Below.step hb hb'), rfl, rfl, he⟩

theorem unlikeI (K R : Nat) (va : Option Addr) (vn vc : Nat) (xs : List Int) (Wi : Int) (w : World) (hW : 1 ≤ Wi) (hdiv : ∃ q, xs.length = q * (Wi.toNat * K)) (h : IntsAt w (.slice va vn vc) xs) (hr : RuleOk K R xs) :
    Calls Tryd.prog 69 #[.agg #[.int .i64 K, .int .i64 R, .slice va vn vc], .int .i64 Wi] w (Ret1 (fun x _ => x = .bool (unlikeP K xs Wi.toNat)) w) := by
  obtain ⟨W, rfl⟩ := Int.eq_ofNat_of_zero_le (show 0 ≤ Wi by omega)
  obtain ⟨q, hq⟩ := hdiv
  rw [Int.toNat_natCast] at hq ⊢
  exact unlike_any K R va vn vc xs W w h hr (by omega) q hq

set_option maxHeartbeats 1000000 in
theorem sides_ok (K R : Nat) (va : Option Addr) (vn vc : Nat) (xs : List Int) (w : World) (h : IntsAt w (.slice va vn vc) xs) (hr : RuleOk K R xs) :
    Calls Tryd.prog 28 #[.agg #[.int .i64 K, .int .i64 R, .slice va vn vc]] w (Ret3 (fun x y z _ => x = .bool (unlikeP K xs (xs.length / K)) ∧ y = .bool (unlikeP K xs 1) ∧ z = .nilIface) w) := by
  have hb0 := belowAlloc w (.cells #[.int .i64 K, .int .i64 R, .slice va vn vc] 24)
  have hl := h.len
  have hk1 := hr.k1
  have hlen := hr.len_le
  have hhf := hr.half
  have hp1 := pw_pos (2 * R) hk1
  replace h := Lib.hid (h.below hb0)
  replace hr := Lib.hid hr
  replace hhf := Lib.hid hhf
  have hq0 : 0 ≤ (xs.length : Int) / (K : Int) := Int.ediv_nonneg (by omega) (by omega)
  have hq1 : (xs.length : Int) / (K : Int) ≤ 16384 := by
    have : xs.length / K ≤ 16384 := Nat.le_trans (Nat.div_le_self _ _) hlen
    exact_mod_cast this
  have hqw : IntKind.i64.wrap ((xs.length : Int) / (K : Int)) = (xs.length : Int) / (K : Int) := wrapK (by omega) (by omega)
  have hdc : Hid ((xs.length : Int) / (K : Int) = ((xs.length / K : Nat) : Int)) := by show _ = _; simp
  go_enter Tryd.func28, Tryd.ntmps28
  go_wp2_with fail
  refine (check_ok K R _ xs _ h.out hr.out).mono ?_
  rintro e w1 ⟨x, rfl, hb, rfl⟩
  obtain ⟨z0, z1, z2, f0, f1, f2⟩ := cells3 hb
  have hx := h.out.below hb
  have hsz : w.heap.size < w1.heap.size := World.block_lt_of_cell? _ _ z0
  replace hx := Lib.hid hx
  have hK0 : ((K : Int) == 0) = false := by rw [beq_eq_false_iff_ne]; omega
  have hK1 : ¬ (K : Int) = 0 := by omega
  have hK2 : (0 : Int) < K := by omega
  have hK3 : ¬ K = 0 := by omega
  have hdc2 : Hid (((xs.length : Int) / (K : Int)).toNat = xs.length / K) := by show _ = _; rw [hdc.out, Int.toNat_natCast]
  have hW1 : 1 ≤ (xs.length : Int) / (K : Int) := by
    rw [hdc.out, hhf.out.1]; omega
  have hd1 : Hid (∃ q, xs.length = q * (((xs.length : Int) / (K : Int)).toNat * K)) := ⟨1, by rw [hdc.out, Int.toNat_natCast, hhf.out.1, Nat.one_mul]; exact hhf.out.2⟩
  have hd2 : Hid (∃ q, xs.length = q * ((1 : Int).toNat * K)) := ⟨pw K (2 * R), by simpa using hhf.out.2⟩
  go_wp2
  go_region_held3 (fun w' => w'.cell? ⟨w.heap.size, 0, none⟩ = some (.int .i64 K) ∧ w'.cell? ⟨w.heap.size, 1, none⟩ = some (.int .i64 R) ∧ w'.cell? ⟨w.heap.size, 2, none⟩ = some (.slice va vn vc)) (go_keep)
    (first | (go_at_call 69; refine (unlikeI K R va vn vc xs _ _ (by first | exact hW1 | decide) (by first | exact hd1.out | exact hd2.out) (by first | exact hx.out.drew | exact hx.out.drew.below hb') hr.out).mono ?_; rintro e w2 ⟨x2, rfl, hb', rfl⟩; have S := keep3 hb' (by first | exact S | exact ⟨z0, z1, z2⟩); have y0 := S.1; have y1 := S.2.1; have y2 := S.2.2; have bb : Below w1.heap.size w1 w2 := (by first | exact bb.trans (hb'.mono bb.size) | exact ((Below.refl _ _).drew).trans hb')))
  go_wp2
  go_ret3
  exact ⟨_, _, _, rfl, Below.step hb0 (Below.step hb bb), (by rw [← hdc2.out]; rfl), rfl, rfl⟩
end Go.Proofs.YtmddapkhipmlgaaDoor
