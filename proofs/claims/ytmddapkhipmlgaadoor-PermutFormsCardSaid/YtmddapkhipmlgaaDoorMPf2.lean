/-
  Walks: package permut.
  Walks: permut.check, permut.fits.
  Walk: permut.Right.
  Plain mathematics: one sum behind another is the sum of the product.
  Plain mathematics: the running number of rule.Step is the window's.
  Walk: rule.Step at a rule and a word of its symbols.
  Walks: forms.symbol, forms.behind$1.
  Walk: permut.Left.
  Walk: forms.made, with a function that holds two things.
  Walk: forms.made at a function that has captured one variable.
  Walks: forms.behind, forms.check, forms.wrong, forms.Compose.
  Walks: slices.Reverse (its contract off the shelf), word.Back.
-/
import Derived.Test.YtmddapkhipmlgaaDoorMPf1
import Derived.Deep.RegionHeld3
import Derived.BigQuiet
import Derived.Deep.QuietTactic
import Derived.Ground.NamesProg
import Derived.Shelf.Slices.Cells
namespace Go.Proofs.YtmddapkhipmlgaaDoor
open Go.RowKit
set_option maxRecDepth 100000

theorem perm_wrong (r : Nat → Addr) (at_ n : Int) (w : World) (hg : Glob r w) (h1 : 1 ≤ n) (h2 : n ≤ 11) :
    Calls Tryd.prog 54 #[.int .i64 at_, .int .i64 n] w (Ret1 (fun v w' => ErrIs r w' (fresh sPermut at_ n) v) w) := by
  go_enter Tryd.func54, Tryd.ntmps54
  go_wp2_with fail
  refine (new_any r _ at_ n w hg h1 h2).mono ?_
  rintro e w' ⟨v, rfl, hb, he⟩
  go_wp2
  go_ret
  exact ⟨_, rfl, hb, he⟩

theorem wrap64_nat (n : Nat) (h : n < 1048576) : wrap64 (n : Int) = n := wrap64_id (by omega) (by omega)
theorem wrap64_nat1 (n : Nat) (h1 : 1 ≤ n) (h : n < 1048576) : wrap64 ((n : Int) - 1) = ((n - 1 : Nat) : Int) := by
  rw [wrap64_id (by omega) (by omega)]; omega
theorem bits_or_nat (a b : Nat) (ha : a < 1024) (hb : b < 1024) : bits .or .i64 (a : Int) (b : Int) = ((a ||| b : Nat) : Int) := by
  have hx : a ||| b < 2 ^ 10 := Nat.or_lt_two_pow (by omega) (by omega)
  have h1 : (BitVec.ofInt 64 (a : Int)).toNat = a := by
    rw [BitVec.ofInt_natCast, BitVec.toNat_ofNat]; exact Nat.mod_eq_of_lt (by omega)
  have h2 : (BitVec.ofInt 64 (b : Int)).toNat = b := by
    rw [BitVec.ofInt_natCast, BitVec.toNat_ofNat]; exact Nat.mod_eq_of_lt (by omega)
  show IntKind.i64.wrap ((BitVec.ofInt 64 (a : Int) ||| BitVec.ofInt 64 (b : Int)).toNat : Int) = _
  rw [BitVec.toNat_or, h1, h2]
  exact wrapK (by omega) (by omega)

set_option maxHeartbeats 1000000 in
theorem unlike_any (K R : Nat) (va : Option Addr) (vn vc : Nat) (xs : List Int) (W : Nat) (w : World) (h : IntsAt w (.slice va vn vc) xs) (hr : RuleOk K R xs) (hW : 1 ≤ W) (q : Nat) (hdiv : xs.length = q * (W * K)) :
    Calls Tryd.prog 69 #[.agg #[.int .i64 K, .int .i64 R, .slice va vn vc], .int .i64 W] w (Ret1 (fun x _ => x = .bool (unlikeP K xs W)) w) := by
  have hb0 := belowAlloc w (.cells #[.int .i64 K, .int .i64 R, .slice va vn vc] 24)
  have h0 := Lib.hid h
  have hl := h.len
  have hk1 := hr.k1
  have hk4 := hr.k4
  have hlen := hr.len_le
  clear h
  replace hdiv := Lib.hid hdiv
  replace hr := Lib.hid hr
  go_enter Tryd.func69, Tryd.ntmps69
  go_wp2_with fail
  go_loopw [11] (fun i wr => (∃ j : Nat, j ≤ xs.length ∧ i = .int .i64 j ∧ ∀ t, t < j → t / W % K = 0 → fullP K xs W t = true) ∧ ∃ n, wr = (w.alloc (.cells #[.int .i64 K, .int .i64 R, .slice va vn vc] 24)).drewN n) (fun i _ => xs.length - (intOf i).toNat)
  case atStart => exact ⟨⟨0, by omega, rfl, by intro t ht; omega⟩, 0, rfl⟩
  case round =>
    obtain ⟨⟨j, hj, rfl, hp⟩, n, rfl⟩ := hrel
    replace hp := Lib.hid hp
    by_cases hlt : j < xs.length
    · by_cases hm : j / W % K = 0
      · have hqd : 0 ≤ (j : Int) / (W : Int) := Int.ediv_nonneg (by omega) (by omega)
        have hqu : (j : Int) / (W : Int) ≤ 16384 := by
          have : j / W ≤ j := Nat.div_le_self _ _
          have : j / W ≤ 16384 := by omega
          exact_mod_cast this
        have hq : ((j : Int) / (W : Int) % (K : Int) != 0) = false := by
          rw [bne_eq_false_iff_eq]
          exact_mod_cast hm
        replace hm := Lib.hid hm
        go_wp2
        go_quiet (fail)
        go_wp2
        go_loop [6, 23] (fun n i => ∃ s : Nat, s ≤ K ∧ i = .int .i64 s ∧ n = .int .i64 (seenP xs W j s)) (fun _ i => K - (intOf i).toNat)
        case atStart => exact ⟨0, by omega, rfl, rfl⟩
        case round =>
          obtain ⟨s, hs, rfl, rfl⟩ := hrel
          by_cases hsl : s < K
          · have hx := hr.out.syms.getD (by omega) (j + s * W)
            have hin : j + s * W < xs.length := group_lt hW hdiv.out hlt hm.out hsl
            have h1 := h0.out.below hb0
            have i1 : ∀ w', (Instr.indexAt 22 (.slice va vn vc) (.int .i64 ((j : Int) + (s : Int) * (W : Int)))).run Tryd.prog w' = .ok (.pointer (some (valAt (.slice va vn vc) (j + s * W)))) w' := by
              intro w'
              have := h1.idx (j + s * W) hin w'
              rwa [Int.natCast_add, Int.natCast_mul] at this
            have c1 := h1.cellD (j + s * W) hin
            have hsw0 : 0 ≤ (s : Int) * (W : Int) := Int.mul_nonneg (by omega) (by omega)
            have hsw1 : (s : Int) * (W : Int) ≤ 16384 := by
              have : s * W ≤ 16384 := by omega
              exact_mod_cast this
            have hst : Hid (seenP xs W j (s + 1) = seenP xs W j s ||| 2 ^ (xs.getD (j + s * W) 0).toNat) := rfl
            have hsl2 := seenP_lt hk1 hr.out.syms W j s
            have h16 := two_pow_K hk4
            generalize xs.getD (j + s * W) 0 = x at hx c1 hst
            have hbx : 2 ^ x.toNat < 1024 := Nat.lt_of_lt_of_le (Nat.pow_lt_pow_right (by decide) (show x.toNat < 4 by omega)) (by decide)
            have hbit : Hid (bits BinOp.or IntKind.i64 ((seenP xs W j s : Nat) : Int) (wrap64 (2 ^ x.toNat)) = ((seenP xs W j (s + 1) : Nat) : Int)) := by
              show _ = _
              have e : (2 : Int) ^ x.toNat = ((2 ^ x.toNat : Nat) : Int) := by simp
              rw [e, wrap64_nat _ (by omega), bits_or_nat _ _ (by omega) hbx, hst.out]
            go_wp2
            go_round
            case rel => exact ⟨s + 1, by omega, by go_num, by rw [hbit.out]⟩
            case measure => simp [intOf]; omega
          · obtain rfl : K = s := by omega
            have h16 := two_pow_K hk4
            have h1K : 1 ≤ 2 ^ K := Nat.two_pow_pos K
            have e : (2 : Int) ^ K = ((2 ^ K : Nat) : Int) := by simp
            have e2 : wrap64 (wrap64 ((2 : Int) ^ K) - 1) = ((2 ^ K - 1 : Nat) : Int) := by
              rw [e, wrap64_nat _ (by omega), wrap64_nat1 _ h1K (by omega)]
            have hT : Hid (((seenP xs W j K : Nat) : Int) != wrap64 (wrap64 ((2 : Int) ^ K) - 1)) = Hid (fullP K xs W j = false) := by
              show ((((seenP xs W j K : Nat) : Int) != wrap64 (wrap64 ((2 : Int) ^ K) - 1)) = true) = (fullP K xs W j = false)
              rw [e2]
              apply propext
              rw [bne_iff_ne, fullP, beq_eq_false_iff_ne]
              omega
            cases hf : fullP K xs W j
            · have ht : (((seenP xs W j K : Nat) : Int) != wrap64 (wrap64 ((2 : Int) ^ K) - 1)) = true := by
                have := Eq.mpr hT hf; exact this
              have hu := Lib.hid (unlikeP_false (K := K) j hlt hm.out hf)
              clear hT e e2 hf
              go_wp2
              go_ret
              exact ⟨_, rfl, below_drewN hb0 _, (by rw [hu.out]; rfl)⟩
            · have ht : (((seenP xs W j K : Nat) : Int) != wrap64 (wrap64 ((2 : Int) ^ K) - 1)) = false := by
                rw [Bool.eq_false_iff]
                intro c
                have := Eq.mp hT c
                rw [hf] at this
                cases this
              replace hf := Lib.hid hf
              clear hT e e2
              go_wp2
              go_roundw
              case rel =>
                refine ⟨⟨j + 1, by omega, by go_num, ?_⟩, _, rfl⟩
                intro t ht' htm
                by_cases e : t = j
                · subst e; exact hf.out
                · exact hp.out t (by omega) htm
              case measure => simp [intOf]; omega
      · have hqd : 0 ≤ (j : Int) / (W : Int) := Int.ediv_nonneg (by omega) (by omega)
        have hqu : (j : Int) / (W : Int) ≤ 16384 := by
          have : j / W ≤ j := Nat.div_le_self _ _
          have : j / W ≤ 16384 := by omega
          exact_mod_cast this
        have hq : ((j : Int) / (W : Int) % (K : Int) != 0) = true := by
          rw [bne_iff_ne]
          intro e
          apply hm
          exact_mod_cast e
        replace hm := Lib.hid hm
        go_wp2
        go_quiet (fail)
        go_wp2
        go_roundw
        case rel =>
          refine ⟨⟨j + 1, by omega, by go_num, ?_⟩, _, rfl⟩
          intro t ht htm
          by_cases e : t = j
          · subst e; exact absurd htm hm.out
          · exact hp.out t (by omega) htm
        case measure => simp [intOf]; omega
    · have hu : unlikeP K xs W = true := unlikeP_true fun i hi hm => hp.out i (by omega) hm
      replace hu := Lib.hid hu
      go_wp2
      go_ret
      exact ⟨_, rfl, below_drewN hb0 n, (by rw [hu.out]; rfl)⟩

theorem sides_bad (r : Nat → Addr) (k R : Int) (va : Option Addr) (vn vc : Nat) (xs : List Int) (t : Int × List (ByteArray × Int)) (w : World) (hg : Glob r w) (h : IntsAt w (.slice va vn vc) xs) (hc : checkP k R xs = some t) :
    Calls Tryd.prog 28 #[.agg #[.int .i64 k, .int .i64 R, .slice va vn vc]] w (Ret3 (fun x y z w' => x = .bool false ∧ y = .bool false ∧ ErrIs r w' (under sPermut 0 (some t)) z) w) := by
  have hb0 := belowAlloc w (.cells #[.int .i64 k, .int .i64 R, .slice va vn vc] 24)
  replace hg := Lib.hid (hg.below hb0)
  replace h := Lib.hid (h.below hb0)
  replace hc := Lib.hid hc
  go_enter Tryd.func28, Tryd.ntmps28
  go_wp2_with fail
  refine (check_any r k R _ xs _ hg.out h.out).mono ?_
  rintro e w1 ⟨x, rfl, hb, he⟩
  rw [hc.out] at he
  have he' := Lib.hid he
  obtain ⟨T, p, rfl⟩ := he.some_shape
  clear he
  go_wp2_with fail
  refine (under_any r _ _ _ _ _ he'.out).mono ?_
  rintro e w2 ⟨x, rfl, hb', he⟩
  go_wp2
  go_ret3
  exact ⟨_, _, _, rfl, Below.step hb0 (Below.step hb hb'), rfl, rfl, he⟩

theorem unlikeI (K R : Nat) (va : Option Addr) (vn vc : Nat) (xs : List Int) (Wi : Int) (w : World) (hW : 1 ≤ Wi) (hdiv : ∃ q, xs.length = q * (Wi.toNat * K)) (h : IntsAt w (.slice va vn vc) xs) (hr : RuleOk K R xs) :
    Calls Tryd.prog 69 #[.agg #[.int .i64 K, .int .i64 R, .slice va vn vc], .int .i64 Wi] w (Ret1 (fun x _ => x = .bool (unlikeP K xs Wi.toNat)) w) := by
  obtain ⟨W, rfl⟩ := Int.eq_ofNat_of_zero_le (show 0 ≤ Wi by omega)
  obtain ⟨q, hq⟩ := hdiv
  rw [Int.toNat_natCast] at hq ⊢
  exact unlike_any K R va vn vc xs W w h hr (by omega) q hq

set_option maxHeartbeats 1000000 in
theorem sides_ok (K R : Nat) (va : Option Addr) (vn vc : Nat) (xs : List Int) (w : World) (h : IntsAt w (.slice va vn vc) xs) (hr : RuleOk K R xs) :
    Calls Tryd.prog 28 #[.agg #[.int .i64 K, .int .i64 R, .slice va vn vc]] w (Ret3 (fun x y z _ => x = .bool (unlikeP K xs (xs.length / K)) ∧ y = .bool (unlikeP K xs 1) ∧ z = .nilIface) w) := by
  have hb0 := belowAlloc w (.cells #[.int .i64 K, .int .i64 R, .slice va vn vc] 24)
  have hl := h.len
  have hk1 := hr.k1
  have hlen := hr.len_le
  have hhf := hr.half
  have hp1 := pw_pos (2 * R) hk1
  replace h := Lib.hid (h.below hb0)
  replace hr := Lib.hid hr
  replace hhf := Lib.hid hhf
  have hq0 : 0 ≤ (xs.length : Int) / (K : Int) := Int.ediv_nonneg (by omega) (by omega)
  have hq1 : (xs.length : Int) / (K : Int) ≤ 16384 := by
    have : xs.length / K ≤ 16384 := Nat.le_trans (Nat.div_le_self _ _) hlen
    exact_mod_cast this
  have hqw : IntKind.i64.wrap ((xs.length : Int) / (K : Int)) = (xs.length : Int) / (K : Int) := wrapK (by omega) (by omega)
  have hdc : Hid ((xs.length : Int) / (K : Int) = ((xs.length / K : Nat) : Int)) := by show _ = _; simp
  go_enter Tryd.func28, Tryd.ntmps28
  go_wp2_with fail
  refine (check_ok K R _ xs _ h.out hr.out).mono ?_
  rintro e w1 ⟨x, rfl, hb, rfl⟩
  obtain ⟨z0, z1, z2, f0, f1, f2⟩ := cells3 hb
  have hx := h.out.below hb
  have hsz : w.heap.size < w1.heap.size := World.block_lt_of_cell? _ _ z0
  replace hx := Lib.hid hx
  have hK0 : ((K : Int) == 0) = false := by rw [beq_eq_false_iff_ne]; omega
  have hK1 : ¬ (K : Int) = 0 := by omega
  have hK2 : (0 : Int) < K := by omega
  have hK3 : ¬ K = 0 := by omega
  have hdc2 : Hid (((xs.length : Int) / (K : Int)).toNat = xs.length / K) := by show _ = _; rw [hdc.out, Int.toNat_natCast]
  have hW1 : 1 ≤ (xs.length : Int) / (K : Int) := by
    rw [hdc.out, hhf.out.1]; omega
  have hd1 : Hid (∃ q, xs.length = q * (((xs.length : Int) / (K : Int)).toNat * K)) := ⟨1, by rw [hdc.out, Int.toNat_natCast, hhf.out.1, Nat.one_mul]; exact hhf.out.2⟩
  have hd2 : Hid (∃ q, xs.length = q * ((1 : Int).toNat * K)) := ⟨pw K (2 * R), by simpa using hhf.out.2⟩
  go_wp2
  go_region_held3 (fun w' => w'.cell? ⟨w.heap.size, 0, none⟩ = some (.int .i64 K) ∧ w'.cell? ⟨w.heap.size, 1, none⟩ = some (.int .i64 R) ∧ w'.cell? ⟨w.heap.size, 2, none⟩ = some (.slice va vn vc)) (go_keep)
    (first | (go_at_call 69; refine (unlikeI K R va vn vc xs _ _ (by first | exact hW1 | decide) (by first | exact hd1.out | exact hd2.out) (by first | exact hx.out.drew | exact hx.out.drew.below hb') hr.out).mono ?_; rintro e w2 ⟨x2, rfl, hb', rfl⟩; have S := keep3 hb' (by first | exact S | exact ⟨z0, z1, z2⟩); have y0 := S.1; have y1 := S.2.1; have y2 := S.2.2; have bb : Below w1.heap.size w1 w2 := (by first | exact bb.trans (hb'.mono bb.size) | exact ((Below.refl _ _).drew).trans hb')))
  go_wp2
  go_ret3
  exact ⟨_, _, _, rfl, Below.step hb0 (Below.step hb bb), (by rw [← hdc2.out]; rfl), rfl, rfl⟩
end Go.Proofs.YtmddapkhipmlgaaDoor

namespace Go.Proofs.YtmddapkhipmlgaaDoor
open Go.RowKit
set_option maxRecDepth 100000

theorem perm_check1 (x k : Int) (b : Nat) (w : World) (hb : w.cell? ⟨b, 0, none⟩ = some (.int .i64 k)) :
    Calls Tryd.prog 100 #[.int .i64 x, .pointer (some ⟨b, 0, none⟩)] w fun e w' => e = .returned (.bool (odd1 k x)) ∧ w = w' := by
  by_cases h : x < 0
  · have e : odd1 k x = true := by simp [odd1, h]
    rw [e]
    go_enter Tryd.func100, Tryd.ntmps100
    go_wp2
    go_ret
    exact ⟨rfl, rfl⟩
  · have e : odd1 k x = decide (k ≤ x) := by simp [odd1, h]
    rw [e]
    go_enter Tryd.func100, Tryd.ntmps100
    go_wp2
    go_ret
    exact ⟨ret_bool (by simp), rfl⟩
theorem eg_perm_check1 (args : Array Value) (w : World) : (callFunc 100 args).run Tryd.prog w = .ok (.enter 100 args) w := by kernel_rfl

theorem catN_two (vs : Nat → List Int) : catN vs 2 = vs 0 ++ vs 1 := by simp [catN, List.range, List.range.loop]

theorem concat2 (u v : Value) (xs ys : List Int) (w : World) (hu : IntsAt w u xs) (hv : IntsAt w v ys) (hx : xs.length ≤ 8192) (hy : ys.length ≤ 8192) (b : Nat) (hb : b = w.heap.size) :
    Calls Tryd.prog 99 #[.slice (some ⟨b, 0, none⟩) 2 2] (w.alloc (.cells #[u, v] 22)) (Ret1 (fun x w' => OwnI (w.heap.size + 1) w' x (xs ++ ys)) (w.alloc (.cells #[u, v] 22))) := by
  subst hb
  have hv2 : ValsAt (w.alloc (.cells #[u, v] 22)) (.slice (some ⟨w.heap.size, 0, none⟩) 2 2) [u, v] :=
    OwnV.at (E := 22) (B := 0) (World.ownsRow_lit (base := 0) (e := 22) (size := 1) w #[u, v] 2 (Nat.zero_le _) (by decide) rfl)
  have := concat_any _ _ (fun t => if t = 0 then xs else ys) _ hv2 (by
    intro t ht
    have : t = 0 ∨ t = 1 := by simp at ht; omega
    rcases this with rfl | rfl
    · exact hu.below (belowAlloc w _)
    · exact hv.below (belowAlloc w _)) (by simp) (by intro t _; split <;> assumption)
  rw [show [u, v].length = 2 from rfl, catN_two] at this
  simpa using this

theorem perm_fits (K R : Nat) (va : Option Addr) (vn vc : Nat) (xs : List Int) (rest W : Nat) (image : Int) (w : World) (h : IntsAt w (.slice va vn vc) xs) (hr : RuleOk K R xs) (hin : rest + (K - 1) * W < xs.length) :
    Calls Tryd.prog 57 #[.agg #[.int .i64 K, .int .i64 R, .slice va vn vc], .int .i64 rest, .int .i64 W, .int .i64 image] w fun e w' => e = .returned (.int .i64 (fit K xs rest W image)) ∧ w' = w.alloc (.cells #[.int .i64 K, .int .i64 R, .slice va vn vc] 24) := by
  have hb0 := belowAlloc w (.cells #[.int .i64 K, .int .i64 R, .slice va vn vc] 24)
  have hlen := hr.len_le
  have hk1 := hr.k1
  have hk4 := hr.k4
  replace h := Lib.hid (h.below hb0)
  go_enter Tryd.func57, Tryd.ntmps57
  go_wp2
  go_loop [12] (fun i => ∃ s : Nat, s ≤ K ∧ i = .int .i64 s ∧ fit K xs rest W image = fitP xs rest W image (K - s) s) (fun i => K - (intOf i).toNat)
  case atStart => exact ⟨0, by omega, rfl, rfl⟩
  case round =>
    obtain ⟨s, hs, rfl, hf⟩ := hrel
    by_cases hsl : s < K
    · have hsW : s * W ≤ (K - 1) * W := Nat.mul_le_mul_right _ (by omega)
      have hj : rest + s * W < xs.length := by omega
      have i1 : ∀ w', (Instr.indexAt 22 (.slice va vn vc) (.int .i64 ((rest : Int) + (s : Int) * (W : Int)))).run Tryd.prog w' = .ok (.pointer (some (valAt (.slice va vn vc) (rest + s * W)))) w' := by
        intro w'
        have := h.out.idx (rest + s * W) hj w'
        rwa [Int.natCast_add, Int.natCast_mul] at this
      have c1 := h.out.cellD (rest + s * W) hj
      have hsw0 : 0 ≤ (s : Int) * (W : Int) := Int.mul_nonneg (by omega) (by omega)
      have hsw1 : (s : Int) * (W : Int) ≤ 16384 := by
        have : s * W ≤ 16384 := by omega
        exact_mod_cast this
      have e : K - s = (K - (s + 1)) + 1 := by omega
      rw [e, fitP] at hf
      by_cases hq : xs.getD (rest + s * W) 0 = image
      · have hq2 : (xs.getD (rest + s * W) 0 == image) = true := by rw [beq_iff_eq]; exact hq
        rw [if_pos hq] at hf
        replace hf := Lib.hid hf
        clear hq
        generalize xs.getD (rest + s * W) 0 = y at hq2 c1
        go_wp2
        go_ret
        exact ⟨by rw [hf.out]; rfl, rfl⟩
      · have hq2 : (xs.getD (rest + s * W) 0 == image) = false := by rw [beq_eq_false_iff_ne]; exact hq
        rw [if_neg hq] at hf
        replace hf := Lib.hid hf
        clear hq
        generalize xs.getD (rest + s * W) 0 = y at hq2 c1
        go_wp2
        go_round
        case rel => exact ⟨s + 1, by omega, by go_num, hf.out⟩
        case measure => simp [intOf]; omega
    · obtain rfl : K = s := by omega
      rw [Nat.sub_self] at hf
      replace hf := Lib.hid hf
      go_wp2
      go_ret
      exact ⟨by rw [hf.out]; rfl, rfl⟩

set_option maxHeartbeats 1000000 in
theorem perm_check (r : Nat → Addr) (K R : Nat) (va : Option Addr) (vn vc : Nat) (u v : Value) (xs ys : List Int) (w : World) (hg : Glob r w) (hu : IntsAt w u xs) (hv : IntsAt w v ys) (hR : R ≤ 3) :
    Calls Tryd.prog 55 #[.agg #[.int .i64 K, .int .i64 R, .slice va vn vc], u, v] w (Ret1 (fun x w' => ErrIs r w' (checkM K R xs ys) x) w) := by
  have hb0 := belowAlloc w (.cells #[.int .i64 K, .int .i64 R, .slice va vn vc] 24)
  have l1 := hu.len
  have l2 := hv.len
  obtain ⟨a1, n1, c1, rfl⟩ := hu.shape
  obtain ⟨a2, n2, c2, rfl⟩ := hv.shape
  replace hg := Lib.hid (hg.below hb0)
  replace hu := Lib.hid (hu.below hb0)
  replace hv := Lib.hid (hv.below hb0)
  by_cases h1 : 4096 < xs.length
  · rw [checkM, if_pos h1]
    go_enter Tryd.func55, Tryd.ntmps55
    go_wp2_with fail
    refine (perm_wrong r _ _ _ hg.out (by decide) (by decide)).mono ?_
    rintro e w2 ⟨x, rfl, hb', he⟩
    go_wp2
    go_ret
    exact ⟨_, rfl, Below.step hb0 hb', he⟩
  by_cases h2 : ys.length ≠ 2 * R
  · rw [checkM, if_neg h1, if_pos h2]
    have hne : ((ys.length : Int) != 2 * (R : Int)) = true := by rw [bne_iff_ne]; omega
    clear h2
    go_enter Tryd.func55, Tryd.ntmps55
    go_wp2_with fail
    refine (perm_wrong r _ _ _ hg.out (by decide) (by decide)).mono ?_
    rintro e w2 ⟨x, rfl, hb', he⟩
    go_wp2
    go_ret
    exact ⟨_, rfl, Below.step hb0 hb', he⟩
  have hne : ((ys.length : Int) != 2 * (R : Int)) = false := by rw [bne_eq_false_iff_eq]; omega
  rw [checkM, if_neg h1, if_neg h2]
  have hy : ys.length ≤ 6 := by omega
  clear h2
  rcases idxOf_cases (odd1 K) (xs ++ ys) with ⟨hi, _⟩ | ⟨i, hi, hi', _⟩
  · rw [if_pos hi]
    replace hi := Lib.hid hi
    go_enter Tryd.func55, Tryd.ntmps55
    go_wp2_with fail
    refine (concat2 _ _ xs ys _ hu.out hv.out (by omega) (by omega) _ (by simp)).mono ?_
    rintro e w1 ⟨x, rfl, hb1, ho⟩
    have hb2 := Below.step hb0 (Below.step (belowAlloc _ _) hb1)
    have z0 : w1.cell? ⟨w.heap.size, 0, none⟩ = some (.int .i64 K) := by rw [hb1.cell (by simp; omega)]; simp
    replace ho := Lib.hid ho
    go_wp2_with fail
    refine (indexFunc_any x _ 100 (xs ++ ys) (odd1 K) _ ho.out.at eg_perm_check1 (fun x _ => perm_check1 x K _ _ z0)).mono ?_
    rintro e w' ⟨rfl, rfl⟩
    rw [hi.out]
    go_wp2
    go_ret
    exact ⟨_, rfl, hb2, rfl⟩
  · rw [if_neg (by omega), hi]
    replace hi := Lib.hid hi
    go_enter Tryd.func55, Tryd.ntmps55
    go_wp2_with fail
    refine (concat2 _ _ xs ys _ hu.out hv.out (by omega) (by omega) _ (by simp)).mono ?_
    rintro e w1 ⟨x, rfl, hb1, ho⟩
    have hb2 := Below.step hb0 (Below.step (belowAlloc _ _) hb1)
    have hb3 := Below.step (belowAlloc _ _) hb1
    have z0 : w1.cell? ⟨w.heap.size, 0, none⟩ = some (.int .i64 K) := by rw [hb1.cell (by simp; omega)]; simp
    replace ho := Lib.hid ho
    go_wp2_with fail
    refine (indexFunc_any x _ 100 (xs ++ ys) (odd1 K) _ ho.out.at eg_perm_check1 (fun x _ => perm_check1 x K _ _ z0)).mono ?_
    rintro e w' ⟨rfl, rfl⟩
    rw [hi.out]
    go_wp2_with fail
    refine (perm_wrong r _ _ _ (hg.out.below hb3) (by decide) (by decide)).mono ?_
    rintro e w2 ⟨x, rfl, hb', he⟩
    go_wp2
    go_ret
    exact ⟨_, rfl, Below.step hb2 hb', he⟩
end Go.Proofs.YtmddapkhipmlgaaDoor

namespace Go.Proofs.YtmddapkhipmlgaaDoor
open Go.RowKit
set_option maxRecDepth 100000

theorem right_bad1 (r : Nat → Addr) (k R : Int) (va : Option Addr) (vn vc : Nat) (xs : List Int) (u v : Value) (t : Int × List (ByteArray × Int)) (w : World) (hg : Glob r w) (h : IntsAt w (.slice va vn vc) xs) (hc : checkP k R xs = some t) :
    Calls Tryd.prog 21 #[.agg #[.int .i64 k, .int .i64 R, .slice va vn vc], u, v] w (Ret2 (fun x y w' => x = .slice none 0 0 ∧ ErrIs r w' (under sPermut 0 (some t)) y) w) := by
  have hb0 := belowAlloc w (.cells #[.int .i64 k, .int .i64 R, .slice va vn vc] 24)
  replace hg := Lib.hid (hg.below hb0)
  replace h := Lib.hid (h.below hb0)
  replace hc := Lib.hid hc
  go_enter Tryd.func21, Tryd.ntmps21
  go_wp2_with fail
  refine (sides_bad r k R va vn vc xs t _ hg.out h.out hc.out).mono ?_
  rintro e w1 ⟨x, y, z, rfl, hb, rfl, rfl, he⟩
  have he' := Lib.hid he
  obtain ⟨T, p, rfl⟩ := he.some_shape
  clear he
  go_wp2
  go_ret2
  exact ⟨_, _, rfl, Below.step hb0 hb, rfl, he'.out⟩

theorem right_bad2 (r : Nat → Addr) (K R : Nat) (va : Option Addr) (vn vc : Nat) (xs : List Int) (u v : Value) (w : World) (hg : Glob r w) (h : IntsAt w (.slice va vn vc) xs) (hr : RuleOk K R xs) (hu : unlikeP K xs 1 = false) :
    Calls Tryd.prog 21 #[.agg #[.int .i64 K, .int .i64 R, .slice va vn vc], u, v] w (Ret2 (fun x y w' => x = .slice none 0 0 ∧ ErrIs r w' (fresh sPermut 0 3) y) w) := by
  have hb0 := belowAlloc w (.cells #[.int .i64 K, .int .i64 R, .slice va vn vc] 24)
  replace hg := Lib.hid (hg.below hb0)
  replace h := Lib.hid (h.below hb0)
  replace hr := Lib.hid hr
  replace hu := Lib.hid hu
  go_enter Tryd.func21, Tryd.ntmps21
  go_wp2_with fail
  refine (sides_ok K R va vn vc xs _ h.out hr.out).mono ?_
  rintro e w1 ⟨x, y, z, rfl, hb, rfl, rfl, rfl⟩
  rw [hu.out]
  generalize unlikeP K xs (xs.length / K) = q
  go_wp2_with fail
  refine (perm_wrong r _ _ _ (hg.out.below hb) (by decide) (by decide)).mono ?_
  rintro e w2 ⟨x, rfl, hb', he⟩
  go_wp2
  go_ret2
  exact ⟨_, _, rfl, Below.step hb0 (Below.step hb hb'), rfl, he⟩

theorem right_bad3 (r : Nat → Addr) (K R : Nat) (va : Option Addr) (vn vc : Nat) (xs : List Int) (u v : Value) (ys zs : List Int) (t : Int × List (ByteArray × Int)) (w : World) (hg : Glob r w) (h : IntsAt w (.slice va vn vc) xs) (hr : RuleOk K R xs) (hp : unlikeP K xs 1 = true)
    (hu : IntsAt w u ys) (hv : IntsAt w v zs) (hc : checkM K R ys zs = some t) :
    Calls Tryd.prog 21 #[.agg #[.int .i64 K, .int .i64 R, .slice va vn vc], u, v] w (Ret2 (fun x y w' => x = .slice none 0 0 ∧ ErrIs r w' (some t) y) w) := by
  have hb0 := belowAlloc w (.cells #[.int .i64 K, .int .i64 R, .slice va vn vc] 24)
  have hR := hr.r3
  replace hg := Lib.hid (hg.below hb0)
  replace h := Lib.hid (h.below hb0)
  replace hr := Lib.hid hr
  replace hp := Lib.hid hp
  replace hc := Lib.hid hc
  replace hu := Lib.hid (hu.below hb0)
  replace hv := Lib.hid (hv.below hb0)
  go_enter Tryd.func21, Tryd.ntmps21
  go_wp2_with fail
  refine (sides_ok K R va vn vc xs _ h.out hr.out).mono ?_
  rintro e w1 ⟨x, y, z, rfl, hb, rfl, rfl, rfl⟩
  rw [hp.out]
  obtain ⟨z0, z1, z2, f0, f1, f2⟩ := cells3 hb
  generalize unlikeP K xs (xs.length / K) = q
  go_wp2_with fail
  refine (perm_check r K R va vn vc u v ys zs _ (hg.out.below hb) (hu.out.below hb) (hv.out.below hb) hR).mono ?_
  rintro e w2 ⟨x, rfl, hb', he⟩
  rw [hc.out] at he
  have he' := Lib.hid he
  obtain ⟨T, p, rfl⟩ := he.some_shape
  clear he
  go_wp2
  go_ret2
  exact ⟨_, _, rfl, Below.step hb0 (Below.step hb hb'), rfl, he'.out⟩

theorem wpl_append1b {w : World} {ops : Array Oper} {rest : List Oper} {o : Oper} {a : Act} {Q : Exit → Act → World → Prop} (hgd : o.guard = none) (s x : Operand)
    (ho : o.op = .call { callee := .builtin .append, args := #[s, x], argTypes := #[22, 22] })
    (B : Nat) (v : Value) (xs : List Int) (y : Int) (hown : OwnI B w v xs) (hs : a.eval s = v) (b : Nat) (hx : a.eval x = .slice (some ⟨b, 0, none⟩) 1 1) (hb : b = w.heap.size)
    (hlen : xs.length < 17592186044415) (hB : B ≤ w.heap.size)
    (h : ∀ v' w', OwnI B w' v' (xs ++ [y]) → Below B w w' → w.grownBy w' v.ownBlock → (v'.ownBlock = v.ownBlock ∨ ∃ k, v'.ownBlock = some k ∧ w.heap.size ≤ k) → wpList Tryd.prog ops Q rest (a.put o.dst v') w') :
    wpList Tryd.prog ops Q (o :: rest) a (w.alloc (.cells #[.int .i64 y] 3)) := by
  subst hb
  exact wpl_append1 hgd s x ho B v xs y hown hs hx hlen hB h

set_option maxHeartbeats 2000000 in
theorem right_ok (r : Nat → Addr) (K R : Nat) (va : Option Addr) (vn vc : Nat) (xs : List Int) (u v : Value) (ys zs : List Int) (w : World) (hg : Glob r w) (h : IntsAt w (.slice va vn vc) xs) (hr : RuleOk K R xs) (hp : unlikeP K xs 1 = true)
    (hu : IntsAt w u ys) (hv : IntsAt w v zs) (hc : checkM K R ys zs = none) :
    Calls Tryd.prog 21 #[.agg #[.int .i64 K, .int .i64 R, .slice va vn vc], u, v] w (Ret2 (fun x y w' => OwnI w.heap.size w' x (zs ++ rightP K xs (numW K zs) ys) ∧ y = .nilIface) w) := by
  have hb0 := belowAlloc w (.cells #[.int .i64 K, .int .i64 R, .slice va vn vc] 24)
  have hR := hr.r3
  have hk1 := hr.k1
  have hk4 := hr.k4
  have hlen := hr.len_le
  have hhf := hr.half
  obtain ⟨hy4, hzl, hys, hzs⟩ := checkM_none hc
  have l1 := hu.len
  have l2 := hv.len
  replace hg := Lib.hid (hg.below hb0)
  replace h := Lib.hid (h.below hb0)
  replace hr := Lib.hid hr
  replace hhf := Lib.hid hhf
  replace hp := Lib.hid hp
  replace hc := Lib.hid hc
  have hz6 : zs.length ≤ 6 := by omega
  replace hzl := Lib.hid hzl
  replace hys := Lib.hid hys
  replace hzs := Lib.hid hzs
  obtain ⟨a1, n1, c1, rfl⟩ := hu.shape
  obtain ⟨a2, n2, c2, rfl⟩ := hv.shape
  replace hu := Lib.hid (hu.below hb0)
  replace hv := Lib.hid (hv.below hb0)
  go_enter Tryd.func21, Tryd.ntmps21
  go_wp2_with fail
  refine (sides_ok K R va vn vc xs _ h.out hr.out).mono ?_
  rintro e w1 ⟨x, y, z, rfl, hb, rfl, rfl, rfl⟩
  rw [hp.out]
  obtain ⟨z0, z1, z2, f0, f1, f2⟩ := cells3 hb
  generalize unlikeP K xs (xs.length / K) = q
  go_wp2_with fail
  refine (perm_check r K R va vn vc _ _ ys zs _ (hg.out.below hb) (hu.out.below hb) (hv.out.below hb) hR).mono ?_
  rintro e w2 ⟨x, rfl, hb', he⟩
  rw [hc.out] at he
  obtain rfl := he.none_eq
  clear he z0 z1 z2 f0 f1 f2
  replace hb := Below.step hb hb'
  clear hb'
  obtain ⟨z0, z1, z2, f0, f1, f2⟩ := cells3 hb
  go_wp2_with fail
  refine (clone_any _ zs _ (hv.out.below hb) (by omega)).mono ?_
  rintro e w3 ⟨x, rfl, hb', ho⟩
  have hsz : w.heap.size < w2.heap.size := World.block_lt_of_cell? _ _ z0
  have hvi := Lib.hid ((hv.out.below hb).below hb')
  have hui := Lib.hid (hu.out.below hb)
  have zz := Lib.hid (And.intro z0 (And.intro z1 z2))
  clear z0 z1 z2 f0 f1 f2
  obtain ⟨z0, z1, z2⟩ := keep3 hb' zz.out
  replace ho := Lib.hid ho
  go_wp2
  go_loop [13, 42] (fun n i => ∃ j : Nat, j ≤ zs.length ∧ i = .int .i64 j ∧ n = .int .i64 (numW K (zs.take j))) (fun _ i => zs.length - (intOf i).toNat)
  case atStart => exact ⟨0, by omega, rfl, rfl⟩
  case round =>
    obtain ⟨j, hj, rfl, rfl⟩ := hrel
    by_cases hjl : j < zs.length
    · have i1 := hvi.out.idx j hjl
      have c1 := hvi.out.cell j hjl
      have hx := hzs.out zs[j] (by simp)
      have hn : Hid (numW K (zs.take (j + 1)) = numW K (zs.take j) * K + zs[j].toNat) := by
        show _ = _
        rw [take_snoc zs j hjl, numW_snoc]
      have hn2 : numW K (zs.take j) ≤ 16384 := by
        have h1 := numW_lt (zs.take j) (fun x hx => hzs.out x (List.mem_of_mem_take hx))
        have h2 := pw_le hk1 hk4 (i := (zs.take j).length) (by simp; omega)
        omega
      generalize zs[j] = x at c1 hx hn
      generalize numW K (zs.take j) = N at hn hn2
      have hm1 : 0 ≤ (N : Int) * (K : Int) := Int.mul_nonneg (by omega) (by omega)
      have hm2 : (N : Int) * (K : Int) ≤ 65536 := by
        have : N * K ≤ 65536 := Nat.mul_le_mul hn2 hk4
        have h2 := Int.ofNat_le.2 this
        rw [Int.natCast_mul] at h2
        exact h2
      go_wp2
      go_round
      case rel => exact ⟨j + 1, by omega, by go_num, by rw [hn.out]; go_num⟩
      case measure => simp [intOf]; omega
    · obtain rfl : j = zs.length := by omega
      rw [List.take_length]
      have hN : numW K zs < xs.length / K := by
        rw [hhf.out.1, ← hzl.out]; exact numW_lt zs hzs.out
      have hlK : xs.length / K ≤ 16384 := Nat.le_trans (Nat.div_le_self _ _) hlen
      have hlKK : xs.length / K * K = xs.length := by rw [hhf.out.1]; exact hhf.out.2.symm
      have hlx := h.out.len
      have hK0 : ((K : Int) == 0) = false := by rw [beq_eq_false_iff_ne]; omega
      have hK1 : ¬ (K : Int) = 0 := by omega
      have hK2 : (0 : Int) < K := by omega
      have hK3 : ¬ K = 0 := by omega
      generalize hN0 : numW K zs = N at hN
      replace hN0 := Lib.hid hN0
      have hq0 : 0 ≤ (xs.length : Int) / (K : Int) := Int.ediv_nonneg (by omega) (by omega)
      have hqc : (xs.length : Int) / (K : Int) = ((xs.length / K : Nat) : Int) := by simp
      have hq1 : (xs.length : Int) / (K : Int) ≤ 16384 := by rw [hqc]; omega
      have hq2 : 0 < (xs.length : Int) / (K : Int) := by rw [hqc]; omega
      have hq3 : ((xs.length : Int) / (K : Int) == 0) = false := by rw [beq_eq_false_iff_ne]; omega
      replace hqc := Lib.hid hqc
      have hul := hui.out.len
      replace hN := Lib.hid hN
      have hlK0 := Lib.hid hlK
      replace hlKK := Lib.hid hlKK
      clear z0 z1 z2 hlK
      go_wp2
      go_loopw [12, 13, 55] (fun o n i wr => ∃ j : Nat, j ≤ ys.length ∧ i = .int .i64 j ∧ n = .int .i64 (rightN K xs N (ys.take j)) ∧ OwnI w2.heap.size wr o (zs ++ rightP K xs N (ys.take j)) ∧ Below w2.heap.size w2 wr) (fun _ _ i _ => ys.length - (intOf i).toNat)
      case atStart => exact ⟨0, by omega, rfl, rfl, by simpa [rightP] using ho.out, hb'⟩
      case round =>
        obtain ⟨j, hj, rfl, rfl, hO, hbO⟩ := hrel
        obtain ⟨wo, rfl⟩ : ∃ wo : World, wo = wr := ⟨_, rfl⟩
        by_cases hjl : j < ys.length
        · have hyi := hui.out.below hbO
          have i1 := hyi.idx j hjl
          have c1 := hyi.cell j hjl
          obtain ⟨z0, z1, z2⟩ := keep3 hbO zz.out
          have hN' : rightN K xs N (ys.take j) < xs.length / K := rightN_lt (by have := hN.out; omega) N hN.out _
          have hP : Hid (zs ++ rightP K xs N (ys.take (j + 1)) = (zs ++ rightP K xs N (ys.take j)) ++ [(fit K xs (rightN K xs N (ys.take j) * K) 1 ys[j] : Int)]) := by
            show _ = _
            rw [take_snoc ys j hjl, rightP_snoc, List.append_assoc]
          have hN2 : Hid (rightN K xs N (ys.take (j + 1)) = (rightN K xs N (ys.take j) * K + fit K xs (rightN K xs N (ys.take j) * K) 1 ys[j]) % (xs.length / K)) := by
            show _ = _
            rw [take_snoc ys j hjl, rightN_snoc]
          have hPl : (zs ++ rightP K xs N (ys.take j)).length ≤ 5000 := by simp [rightP_length]; omega
          generalize ys[j] = x at c1 hP hN2
          have hfl := fit_lt hk1 xs (rightN K xs N (ys.take j) * K) 1 x
          generalize rightN K xs N (ys.take j) = M at hN' hP hN2 hfl
          have hin : M * K + (K - 1) * 1 < xs.length := by
            have h1 : (M + 1) * K ≤ xs.length / K * K := Nat.mul_le_mul_right _ hN'
            rw [hlKK.out, Nat.succ_mul] at h1
            omega
          have hM1 : M ≤ 16384 := by have := hlK0.out; omega
          have hm1 : 0 ≤ (M : Int) * (K : Int) := Int.mul_nonneg (by omega) (by omega)
          have hm2 : (M : Int) * (K : Int) ≤ 65536 := by
            have : M * K ≤ 65536 := Nat.mul_le_mul hM1 hk4
            have h2 := Int.ofNat_le.2 this
            rw [Int.natCast_mul] at h2
            exact h2
          have hf := perm_fits K R va vn vc xs (M * K) 1 x wo ((h.out.below hb).below hbO) hr.out hin
          rw [Int.natCast_mul] at hf
          generalize fit K xs (M * K) 1 x = s at hP hN2 hfl hf
          have hmod : Hid (((M : Int) * (K : Int) + (s : Int)) % ((xs.length : Int) / (K : Int)) = (((M * K + s) % (xs.length / K) : Nat) : Int)) := by show _ = _; simp
          replace hN' := Lib.hid hN'
          replace hO := Lib.hid hO
          replace hf := Lib.hid hf
          replace hin := Lib.hid hin
          generalize zs ++ rightP K xs N (ys.take j) = O at hO hPl hP
          go_wp2_with fail
          refine hf.out.mono ?_
          rintro e w' ⟨rfl, rfl⟩
          go_wp2_with (at_builtin; refine wpl_append1b rfl _ _ rfl w2.heap.size _ O (s : Int) (hO.out.alloc _) rfl _ rfl (by simp) (by omega) (by have := hbO.size; simp; omega) ?_)
          intro nv w4 hO4 hb4 _ _
          have hbT : Below w2.heap.size w2 w4 := (hbO.alloc hbO.size _).trans hb4
          clear z0 z1 z2
          obtain ⟨z0, z1, z2⟩ := keep3 hbT zz.out
          replace hO4 := Lib.hid hO4
          go_wp2
          go_quiet (fail)
          go_wp2
          go_roundw
          case rel =>
            refine ⟨j + 1, by omega, by go_num, ?_, by rw [hP.out]; exact hO4.out, below_drewN hbT _⟩
            rw [hN2.out, ← hmod.out]
          case measure => simp [intOf]; omega
        · obtain rfl : j = ys.length := by omega
          go_wp2
          go_ret2
          rw [List.take_length] at hO
          exact ⟨_, _, rfl, Below.step hb0 (Below.step hb hbO), (by rw [hN0.out]; exact hO.mono (by omega)), rfl⟩

/-- permut.Right at all operands. -/
theorem right_any (r : Nat → Addr) (k R : Int) (va : Option Addr) (vn vc : Nat) (xs : List Int) (u v : Value) (ys zs : List Int) (w : World) (hg : Glob r w) (h : IntsAt w (.slice va vn vc) xs) (hu : IntsAt w u ys) (hv : IntsAt w v zs) :
    Calls Tryd.prog 21 #[.agg #[.int .i64 k, .int .i64 R, .slice va vn vc], u, v] w (Ret2 (fun x y w' => ErrIs r w' (permF k R xs 1 ys zs) y ∧ (permF k R xs 1 ys zs = none → OwnI w.heap.size w' x (zs ++ rightP k.toNat xs (numW k.toNat zs) ys)) ∧ (permF k R xs 1 ys zs ≠ none → x = .slice none 0 0)) w) := by
  cases hc : checkP k R xs with
  | some t =>
    have e : permF k R xs 1 ys zs = under sPermut 0 (some t) := by simp [permF, hc]
    refine (right_bad1 r k R va vn vc xs u v t w hg h hc).mono ?_
    rintro e1 w' ⟨x, y, he, hb, hx, hy⟩
    exact ⟨x, y, he, hb, by rw [e]; exact hy, (fun h => by rw [e] at h; cases h), fun _ => hx⟩
  | none =>
    obtain ⟨K, R, rfl, rfl, hr⟩ := checkP_none hc
    cases hp : unlikeP K xs 1 with
    | false =>
      have e : permF K R xs 1 ys zs = fresh sPermut 0 3 := by simp [permF, hc, hp]
      refine (right_bad2 r K R va vn vc xs u v w hg h hr hp).mono ?_
      rintro e1 w' ⟨x, y, he, hb, hx, hy⟩
      exact ⟨x, y, he, hb, by rw [e]; exact hy, (fun h => by rw [e] at h; cases h), fun _ => hx⟩
    | true =>
      have e : permF K R xs 1 ys zs = checkM K R ys zs := by simp [permF, hc, hp]
      cases hm : checkM K R ys zs with
      | some t =>
        rw [hm] at e
        refine (right_bad3 r K R va vn vc xs u v ys zs t w hg h hr hp hu hv hm).mono ?_
        rintro e1 w' ⟨x, y, he, hb, hx, hy⟩
        exact ⟨x, y, he, hb, by rw [e]; exact hy, (fun h => by rw [e] at h; cases h), fun _ => hx⟩
      | none =>
        rw [hm] at e
        refine (right_ok r K R va vn vc xs u v ys zs w hg h hr hp hu hv hm).mono ?_
        rintro e1 w' ⟨x, y, he, hb, hx, hy⟩
        exact ⟨x, y, he, hb, by rw [e]; exact hy, fun _ => by rw [Int.toNat_natCast]; exact hx, fun h => absurd e h⟩
end Go.Proofs.YtmddapkhipmlgaaDoor

namespace Go.Proofs.YtmddapkhipmlgaaDoor

/-- f 0 + .. + f (n - 1). -/
def Sm (f : Nat → Int) : Nat → Int
  | 0 => 0
  | n + 1 => Sm f n + f n
theorem Sm_congr {f g : Nat → Int} (n : Nat) (h : ∀ i, i < n → f i = g i) : Sm f n = Sm g n := by
  induction n with
  | zero => rfl
  | succ n ih => rw [Sm, Sm, ih fun i hi => h i (by omega), h n (by omega)]
theorem Sm_zero {f : Nat → Int} (n : Nat) (h : ∀ i, i < n → f i = 0) : Sm f n = 0 := by
  induction n with
  | zero => rfl
  | succ n ih => rw [Sm, ih fun i hi => h i (by omega), h n (by omega)]; rfl
theorem Sm_mod {f g : Nat → Int} {K : Int} (n : Nat) (h : ∀ i, i < n → f i % K = g i % K) : Sm f n % K = Sm g n % K := by
  induction n with
  | zero => rfl
  | succ n ih => rw [Sm, Sm, Int.add_emod, ih fun i hi => h i (by omega), h n (by omega), ← Int.add_emod]

/-- A cell set changes the sum by what it is more. -/
theorem Sm_set (O : List Int) (p : Nat) (v : Int) (hp : p < O.length) (u : Nat → Int) (n : Nat) :
    Sm (fun i => (O.set p v).getD i 0 * u i) n = Sm (fun i => O.getD i 0 * u i) n + if p < n then (v - O.getD p 0) * u p else 0 := by
  induction n with
  | zero => simp [Sm]
  | succ n ih =>
    rw [Sm, Sm, ih]
    by_cases e : n = p
    · subst e
      rw [if_neg (by omega), if_pos (by omega)]
      have : (O.set n v).getD n 0 = v := by simp [List.getD, hp]
      rw [this, Int.sub_mul]
      omega
    · have : (O.set p v).getD n 0 = O.getD n 0 := by simp [List.getD, show ¬ p = n by omega]
      rw [this]
      by_cases c : p < n
      · rw [if_pos c, if_pos (by omega)]; omega
      · rw [if_neg c, if_neg (by omega)]; omega

theorem mulRow_sum (K i : Nat) (x : Int) (b : List Int) (u : Nat → Int) (q : Nat) (O : List Int) (hq : i + q ≤ O.length) :
    Sm (fun t => (mulRow K i x b q O).getD t 0 * u t) O.length % K = (Sm (fun t => O.getD t 0 * u t) O.length + x * Sm (fun j => b.getD j 0 * u (i + j)) q) % K := by
  induction q with
  | zero => simp [mulRow, Sm]
  | succ q ih =>
    have ih' := ih (by omega)
    rw [mulRow, addAt, Sm_set _ _ _ (by rw [mulRow_length]; omega), if_pos (by omega), Int.add_emod, ih', ← Int.add_emod, Sm]
    generalize (mulRow K i x b q O).getD (i + q) 0 = z
    generalize Sm (fun j => b.getD j 0 * u (i + j)) q = A
    generalize Sm (fun t => O.getD t 0 * u t) O.length = B
    have e : (((z + x * b.getD q 0) % (K : Int) - z) * u (i + q)) % K = (x * b.getD q 0 * u (i + q)) % K := by
      rw [Int.mul_emod, Int.sub_emod, Int.emod_emod, ← Int.sub_emod, ← Int.mul_emod]
      congr 2
      omega
    rw [Int.add_emod, e, ← Int.add_emod]
    congr 1
    rw [Int.mul_add, Int.mul_assoc]
    omega

theorem mulAll_length' (K : Nat) (a b : List Int) (i : Nat) : (mulAll K a b i).length = a.length + b.length - 1 := mulAll_length ..

theorem mulAll_sum (K : Nat) (a b : List Int) (u : Nat → Int) (hb : 1 ≤ b.length) (i : Nat) (hi : i ≤ a.length) :
    Sm (fun t => (mulAll K a b i).getD t 0 * u t) (a.length + b.length - 1) % K = Sm (fun i => a.getD i 0 * Sm (fun j => b.getD j 0 * u (i + j)) b.length) i % K := by
  induction i with
  | zero =>
    rw [mulAll, Sm_zero]
    · rfl
    · intro t _
      by_cases c : t < a.length + b.length - 1
      · simp [List.getD, c]
      · simp [List.getD, c]
  | succ i ih =>
    have h := mulRow_sum K i (a.getD i 0) b u b.length (mulAll K a b i) (by rw [mulAll_length]; omega)
    rw [mulAll_length] at h
    rw [mulAll, h, Int.add_emod, ih (by omega), ← Int.add_emod, Sm]

/-- The product's sum. -/
theorem mulL_sum (K : Nat) (a b : List Int) (u : Nat → Int) (hb : 1 ≤ b.length) :
    Sm (fun t => (mulL K a b).getD t 0 * u t) (a.length + b.length - 1) % K = Sm (fun i => a.getD i 0 * (Sm (fun j => b.getD j 0 * u (i + j)) b.length % K)) a.length % K := by
  rw [mulL, mulAll_sum K a b u hb a.length (Nat.le_refl _)]
  refine Sm_mod _ fun i _ => ?_
  rw [Int.mul_emod, ← Int.mul_emod, Int.mul_emod (a.getD i 0) (_ % _), Int.emod_emod, ← Int.mul_emod]

theorem sumStep_at (K : Nat) (x : Int) (T : List Int) (n s : Nat) (hn : n < T.length) (hs : s < K) : (sumStep K x T).getD (n * K + s) 0 = (T.getD n 0 + x * s) % K := by
  induction T generalizing n with
  | nil => simp at hn
  | cons y T ih =>
    have e : sumStep K x (y :: T) = sumRow K x y K ++ sumStep K x T := by simp [sumStep]
    rw [e]
    cases n with
    | zero =>
      have h : s < (sumRow K x y K).length := by rw [sumRow_length]; exact hs
      rw [Nat.zero_mul, Nat.zero_add]
      simp only [List.getD, List.getElem?_append_left h]
      simp [sumRow, hs]
    | succ n =>
      have h : (sumRow K x y K).length ≤ (n + 1) * K + s := by rw [sumRow_length, Nat.succ_mul]; omega
      have e2 : (n + 1) * K + s - (sumRow K x y K).length = n * K + s := by rw [sumRow_length, Nat.succ_mul]; omega
      have := ih n (by simpa using hn)
      simp only [List.getD, List.getElem?_append_right h, e2, List.getElem?_cons_succ] at this ⊢
      exact this

theorem numW_bound {K : Nat} {w : List Int} (h : Syms K w) {f : List Int} (hl : f.length = w.length) : numW K w < (sumT K f).length := by
  rw [sumT_length, hl]; exact numW_lt w h

/-- A sum's symbol at a window. -/
theorem sumT_at (K : Nat) (f w : List Int) (hl : f.length = w.length) (hw : Syms K w) :
    (sumT K f).getD (numW K w) 0 = Sm (fun i => f.getD i 0 * w.getD i 0) f.length % K := by
  induction hn : f.length generalizing f w with
  | zero =>
    obtain rfl := List.eq_nil_of_length_eq_zero hn
    obtain rfl := List.eq_nil_of_length_eq_zero (hl.symm.trans hn)
    simp [sumT, sumTable, numW, Sm]
  | succ n ih =>
    have hf : f ≠ [] := by intro e; subst e; simp at hn
    have hwe : w ≠ [] := by intro e; subst e; simp at hl; exact hf hl
    obtain ⟨g, x, rfl⟩ : ∃ g x, f = g ++ [x] := ⟨f.dropLast, f.getLast hf, (List.dropLast_concat_getLast hf).symm⟩
    obtain ⟨v, y, rfl⟩ : ∃ v y, w = v ++ [y] := ⟨w.dropLast, w.getLast hwe, (List.dropLast_concat_getLast hwe).symm⟩
    have hgn : g.length = n := by simpa using hn
    have hgv : g.length = v.length := by simpa using hl
    have hv : Syms K v := fun z hz => hw z (by simp [hz])
    have hy := hw y (by simp)
    rw [numW_snoc, sumT, sumTable_snoc]
    have := sumStep_at K x (sumTable K [0] g) (numW K v) y.toNat (numW_bound hv hgv) (by omega)
    rw [this, show (sumTable K [0] g).getD (numW K v) 0 = (sumT K g).getD (numW K v) 0 from rfl, ih g v hgv hv hgn, Int.emod_add_emod, Sm]
    congr 2
    · refine Sm_congr _ fun i hi => ?_
      rw [← hgn] at hi
      simp only [List.getD, List.getElem?_append_left hi, List.getElem?_append_left (show i < v.length by omega)]
    · have e1 : (g ++ [x]).getD n 0 = x := by rw [← hgn]; simp [List.getD]
      have e2 : (v ++ [y]).getD n 0 = y := by rw [← hgn, hgv]; simp [List.getD]
      rw [e1, e2]
      rw [show ((y.toNat : Nat) : Int) = y by omega]

/-- The window of a number. -/
def digs (K : Nat) : Nat → Nat → List Int
  | 0, _ => []
  | n + 1, x => digs K n (x / K) ++ [((x % K : Nat) : Int)]
theorem digs_length (K n x : Nat) : (digs K n x).length = n := by
  induction n generalizing x with
  | zero => rfl
  | succ n ih => simp [digs, ih]
theorem digs_syms {K : Nat} (hK : 1 ≤ K) (n x : Nat) : Syms K (digs K n x) := by
  induction n generalizing x with
  | zero => intro y hy; simp [digs] at hy
  | succ n ih =>
    intro y hy
    rw [digs, List.mem_append, List.mem_singleton] at hy
    rcases hy with hy | rfl
    · exact ih _ y hy
    · have := Nat.mod_lt x (show 0 < K by omega); omega
theorem numW_digs {K : Nat} (hK : 1 ≤ K) (n x : Nat) (hx : x < pw K n) : numW K (digs K n x) = x := by
  induction n generalizing x with
  | zero => simp [pw] at hx; subst hx; rfl
  | succ n ih =>
    rw [digs, numW_snoc, ih _ (by rw [Nat.div_lt_iff_lt_mul (by omega), ← pw_succ]; exact hx), Int.toNat_natCast]
    exact Nat.div_add_mod' x K

/-- The image of a word, window by window. -/
def imgP (K R : Nat) (T : List Int) (w : List Int) : List Int := (List.range (w.length - 2 * R)).map fun i => T.getD (numW K ((w.drop i).take (2 * R + 1))) 0
/-- The table of one rule behind another. -/
def behindT (K R1 : Nat) (T1 : List Int) (R2 : Nat) (T2 : List Int) : List Int :=
  (List.range (pw K (2 * (R1 + R2) + 1))).map fun x => T1.getD (numW K (imgP K R2 T2 (digs K (2 * (R1 + R2) + 1) x))) 0

theorem imgP_length (K R : Nat) (T w : List Int) : (imgP K R T w).length = w.length - 2 * R := by simp [imgP]
theorem imgP_getD (K R : Nat) (T w : List Int) (i : Nat) (hi : i < w.length - 2 * R) : (imgP K R T w).getD i 0 = T.getD (numW K ((w.drop i).take (2 * R + 1))) 0 := by
  simp [imgP, List.getD, hi]
theorem imgP_syms {K : Nat} (hK : 1 ≤ K) {R : Nat} {T w : List Int} (hT : Syms K T) : Syms K (imgP K R T w) := by
  intro y hy
  obtain ⟨i, _, rfl⟩ := List.mem_map.1 hy
  exact hT.getD (by omega) _

theorem window_sum {K R1 R2 : Nat} (hK : 1 ≤ K) {a b w : List Int} (ha : a.length = 2 * R1 + 1) (hb : b.length = 2 * R2 + 1) (hw : Syms K w) (hl : w.length = 2 * (R1 + R2) + 1) :
    (sumT K a).getD (numW K (imgP K R2 (sumT K b) w)) 0 = (sumT K (mulL K a b)).getD (numW K w) 0 := by
  have hml : (mulL K a b).length = a.length + b.length - 1 := mulL_length ..
  rw [sumT_at K a _ (by rw [imgP_length]; omega) (imgP_syms hK (sumT_syms hK b)), sumT_at K (mulL K a b) w (by omega) hw, hml, mulL_sum K a b (fun i => w.getD i 0) (by omega)]
  refine Sm_mod _ fun i hi => ?_
  rw [imgP_getD _ _ _ _ _ (by omega)]
  congr 2
  have hwl : ((w.drop i).take (2 * R2 + 1)).length = 2 * R2 + 1 := by simp; omega
  rw [sumT_at K b _ (by omega) (fun x hx => hw x (List.mem_of_mem_drop (List.mem_of_mem_take hx)))]
  congr 1
  refine Sm_congr _ fun j hj => ?_
  congr 1
  simp [List.getD, List.getElem?_drop, show j < 2 * R2 + 1 by omega]

/-- One sum behind another is the sum of the product. -/
theorem behind_sum {K R1 R2 : Nat} (hK : 1 ≤ K) {a b : List Int} (ha : a.length = 2 * R1 + 1) (hb : b.length = 2 * R2 + 1) :
    behindT K R1 (sumT K a) R2 (sumT K b) = sumT K (mulL K a b) := by
  have hml : (mulL K a b).length = 2 * (R1 + R2) + 1 := by rw [mulL_length]; omega
  refine List.ext_getElem (by simp [behindT, sumT_length, hml]) fun x h1 h2 => ?_
  have hx : x < pw K (2 * (R1 + R2) + 1) := by simpa [behindT] using h1
  simp only [behindT, List.getElem_map, List.getElem_range]
  rw [window_sum hK ha hb (digs_syms hK _ _) (digs_length ..), numW_digs hK _ _ hx]
  simp [List.getD, h2]
end Go.Proofs.YtmddapkhipmlgaaDoor

namespace Go.Proofs.YtmddapkhipmlgaaDoor

theorem numW_append (K : Nat) (u v : List Int) : numW K (u ++ v) = numW K u * pw K v.length + numW K v := by
  induction hn : v.length generalizing v with
  | zero =>
    obtain rfl := List.eq_nil_of_length_eq_zero hn
    simp [numW, pw]
  | succ n ih =>
    have hne : v ≠ [] := by intro e; subst e; simp at hn
    obtain ⟨b, x, rfl⟩ : ∃ b x, v = b ++ [x] := ⟨v.dropLast, v.getLast hne, (List.dropLast_concat_getLast hne).symm⟩
    have hb : b.length = n := by simpa using hn
    rw [← List.append_assoc, numW_snoc, numW_snoc, ih b hb, pw_succ, Nat.add_mul, Nat.mul_assoc]
    omega
theorem numW_mod {K : Nat} {u v : List Int} (h : Syms K v) : numW K (u ++ v) % pw K v.length = numW K v := by
  rw [numW_append, Nat.mul_comm, Nat.mul_add_mod, Nat.mod_eq_of_lt (numW_lt v h)]

/-- One symbol more. -/
theorem imgP_snoc {K R : Nat} {T w : List Int} {x : Int} (hT : T.length = pw K (2 * R + 1)) (hw : Syms K (w ++ [x])) :
    imgP K R T (w ++ [x]) = if 2 * R ≤ w.length then imgP K R T w ++ [T.getD (numW K (w ++ [x]) % T.length) 0] else imgP K R T w := by
  by_cases h : 2 * R ≤ w.length
  · rw [if_pos h]
    unfold imgP
    rw [show (w ++ [x]).length - 2 * R = (w.length - 2 * R) + 1 by simp; omega, List.range_succ, List.map_append]
    congr 1
    · refine List.map_congr_left fun i hi => ?_
      have hi' := List.mem_range.1 hi
      congr 2
      rw [List.drop_append_of_le_length (by omega), List.take_append_of_le_length (by simp; omega)]
    · simp only [List.map_cons, List.map_nil]
      congr 2
      have e : ((w ++ [x]).drop (w.length - 2 * R)).take (2 * R + 1) = (w ++ [x]).drop (w.length - 2 * R) := List.take_of_length_le (by simp; omega)
      rw [e, hT]
      have hl : ((w ++ [x]).drop (w.length - 2 * R)).length = 2 * R + 1 := by simp; omega
      have := numW_mod (K := K) (u := (w ++ [x]).take (w.length - 2 * R)) (v := (w ++ [x]).drop (w.length - 2 * R)) (fun y hy => hw y (List.mem_of_mem_drop hy))
      rw [List.take_append_drop, hl] at this
      exact this.symm
  · rw [if_neg h]
    unfold imgP
    rw [show (w ++ [x]).length - 2 * R = 0 by simp; omega, show w.length - 2 * R = 0 by omega]
    rfl
theorem numW_step (K : Nat) (w : List Int) (x : Int) (L : Nat) : numW K (w ++ [x]) % L = (numW K w % L * K + x.toNat) % L := by
  rw [numW_snoc, Nat.add_mod, Nat.mul_mod, ← Nat.mod_mod (numW K w) L, ← Nat.mul_mod, ← Nat.add_mod, Nat.mod_mod]

/-- A window's digits, from the last on. -/
theorem digs_getD (K n x j : Nat) (hj : j < n) : (digs K n x).getD (n - 1 - j) 0 = ((x / pw K j % K : Nat) : Int) := by
  induction n generalizing x j with
  | zero => omega
  | succ n ih =>
    rw [digs]
    cases j with
    | zero =>
      rw [pw_zero, Nat.div_one, show n + 1 - 1 - 0 = (digs K n (x / K)).length by rw [digs_length]; omega]
      simp [List.getD]
    | succ j =>
      have h := ih (x / K) j (by omega)
      have hl : n + 1 - 1 - (j + 1) < (digs K n (x / K)).length := by rw [digs_length]; omega
      simp only [List.getD, List.getElem?_append_left hl] at h ⊢
      rw [show n + 1 - 1 - (j + 1) = n - 1 - j by omega, h, pw_succ, Nat.div_div_eq_div_mul, Nat.mul_comm]

/-- The window's list while it is filled from its end. -/
theorem digs_fill (K n x j : Nat) (hj : j < n) (p : List Int) (hp : p.length = n) :
    (p.take (n - j) ++ (digs K n x).drop (n - j)).set (n - 1 - j) ((x / pw K j % K : Nat) : Int) = p.take (n - (j + 1)) ++ (digs K n x).drop (n - (j + 1)) := by
  have hd := digs_getD K n x j hj
  have hdl := digs_length K n x
  rw [show n - (j + 1) = n - 1 - j by omega, show n - j = n - 1 - j + 1 by omega]
  have hm : n - 1 - j < n := by omega
  generalize n - 1 - j = m at hd hm
  rw [← hd, take_snoc p m (by omega), List.drop_eq_getElem_cons (show m < (digs K n x).length by omega), List.append_assoc, List.set_append_right _ _ (by simp; omega)]
  have e : m - (p.take m).length = 0 := by simp; omega
  rw [e]
  simp [List.getD, show m < (digs K n x).length by omega]
end Go.Proofs.YtmddapkhipmlgaaDoor

namespace Go.Proofs.YtmddapkhipmlgaaDoor
open Go.RowKit
set_option maxRecDepth 100000

set_option maxHeartbeats 800000 in
theorem step_ok (K R : Nat) (va : Option Addr) (vn vc : Nat) (T : List Int) (u : Value) (ys : List Int) (w : World) (h : IntsAt w (.slice va vn vc) T) (hr : RuleOk K R T) (hu : IntsAt w u ys) (hy : Syms K ys) (hyl : ys.length ≤ 4096) :
    Calls Tryd.prog 26 #[.agg #[.int .i64 K, .int .i64 R, .slice va vn vc], u] w (Ret2 (fun x y w' => OwnI w.heap.size w' x (imgP K R T ys) ∧ y = .nilIface) w) := by
  have hb0 := belowAlloc w (.cells #[.int .i64 K, .int .i64 R, .slice va vn vc] 24)
  have hR := hr.r3
  have hk1 := hr.k1
  have hk4 := hr.k4
  have hlen := hr.len_le
  have hlp := hr.len_pos
  have hlT := Lib.hid hr.len
  have l1 := hu.len
  have lT := h.len
  have hodd := Lib.hid hy.odd
  replace h := Lib.hid (h.below hb0)
  replace hu := Lib.hid (hu.below hb0)
  replace hr := Lib.hid hr
  replace hy := Lib.hid hy
  obtain ⟨ua, un, uc, rfl⟩ := hu.out.shape
  have hL0 : ((T.length : Int) == 0) = false := by rw [beq_eq_false_iff_ne]; omega
  have hL1 : ¬ (T.length : Int) = 0 := by omega
  have hL2 : (0 : Int) < T.length := by omega
  go_enter Tryd.func26, Tryd.ntmps26
  go_wp2_with fail
  refine (check_ok K R _ T _ h.out hr.out).mono ?_
  rintro e w1 ⟨x, rfl, hb, rfl⟩
  obtain ⟨z0, z1, z2, -, -, -⟩ := cells3 hb
  go_wp2_with fail
  refine (rule_odd K _ ys _ (hu.out.below hb)).mono ?_
  rintro e w2 ⟨x, rfl, hb', rfl⟩
  rw [hodd.out]
  have zz := Lib.hid (And.intro z0 (And.intro z1 z2))
  clear z0 z1 z2
  have hb2 := Below.step hb hb'
  obtain ⟨z0, z1, z2⟩ := keep3 hb' zz.out
  have zz2 := Lib.hid (And.intro z0 (And.intro z1 z2))
  clear z0 z1 z2
  have hsz : w.heap.size < w2.heap.size := World.block_lt_of_cell? _ _ zz2.out.1
  have hT2 := Lib.hid (h.out.below hb2)
  have hu2 := Lib.hid (hu.out.below hb2)
  go_wp2
  go_loopw [8, 9, 31] (fun o n i wr => ∃ j : Nat, j ≤ ys.length ∧ i = .int .i64 j ∧ n = .int .i64 (numW K (ys.take j) % T.length : Nat) ∧ OwnI w2.heap.size wr o (imgP K R T (ys.take j)) ∧ Below w2.heap.size w2 wr) (fun _ _ i _ => ys.length - (intOf i).toNat)
  case atStart => exact ⟨0, by omega, rfl, by simp [numW], by simpa [imgP] using OwnI.nil _ _, Below.refl _ _⟩
  case round =>
    obtain ⟨j, hj, rfl, rfl, hO, hbO⟩ := hrel
    obtain ⟨wo, rfl⟩ : ∃ wo : World, wo = wr := ⟨_, rfl⟩
    by_cases hjl : j < ys.length
    · have hyi := hu2.out.below hbO
      have i1 := hyi.idx j hjl
      have c1 := hyi.cell j hjl
      have hx := hy.out ys[j] (by simp)
      obtain ⟨z0, z1, z2⟩ := keep3 hbO zz2.out
      have hst : Hid (numW K (ys.take (j + 1)) % T.length = (numW K (ys.take j) % T.length * K + ys[j].toNat) % T.length) := by
        show _ = _
        rw [take_snoc ys j hjl]; exact numW_step ..
      have hsy : Syms K (ys.take j ++ [ys[j]]) := by
        intro y hy'; exact hy.out y (by rw [← take_snoc ys j hjl] at hy'; exact List.mem_of_mem_take hy')
      have him := imgP_snoc (T := T) (R := R) hlT.out hsy
      rw [← take_snoc ys j hjl, hst.out] at him
      have htl : (ys.take j).length = j := by simp; omega
      rw [htl] at him
      have hol : (imgP K R T (ys.take j)).length ≤ 5000 := by rw [imgP_length]; omega
      have hNl : numW K (ys.take j) % T.length < T.length := Nat.mod_lt _ (by omega)
      generalize ys[j] = x at c1 hx hst him
      replace him := Lib.hid him
      generalize numW K (ys.take j) % T.length = N at hst him hNl
      generalize imgP K R T (ys.take j) = O at hO hol him
      have hm1 : 0 ≤ (N : Int) * (K : Int) := Int.mul_nonneg (by omega) (by omega)
      have hm2 : (N : Int) * (K : Int) ≤ 65536 := by
        have : N * K ≤ 65536 := Nat.mul_le_mul (show N ≤ 16384 by omega) hk4
        have h2 := Int.ofNat_le.2 this
        rw [Int.natCast_mul] at h2
        exact h2
      obtain ⟨X, rfl⟩ := Int.eq_ofNat_of_zero_le hx.1
      rw [Int.toNat_natCast] at him hst
      have hcast : Hid ((((N * K + X) % T.length : Nat) : Int) = ((N : Int) * (K : Int) + (X : Int)) % (T.length : Int)) := by show _ = _; simp
      have hMl : (N * K + X) % T.length < T.length := Nat.mod_lt _ (by omega)
      have hTw := hT2.out.below hbO
      have i2 : ∀ w', (Instr.indexAt 22 (.slice va vn vc) (.int .i64 (((N : Int) * (K : Int) + (X : Int)) % (T.length : Int)))).run Tryd.prog w' = .ok (.pointer (some (valAt (.slice va vn vc) ((N * K + X) % T.length)))) w' := by
        intro w'
        rw [← hcast.out]
        exact hTw.idx _ hMl w'
      have c2 := hTw.cellD _ hMl
      replace hO := Lib.hid hO
      clear hyi hTw
      generalize T.getD ((N * K + X) % T.length) 0 = y at c2 him
      by_cases hge : 2 * R ≤ j
      · replace him := Lib.hid (him.out.trans (if_pos hge))
        go_wp2_with (at_builtin; refine wpl_append1 rfl _ _ rfl w2.heap.size _ O y hO.out rfl rfl (by omega) hbO.size ?_)
        intro nv w4 hO4 hb4 _ _
        have hbT := hbO.trans hb4
        replace hO4 := Lib.hid hO4
        go_wp2
        go_roundw
        case rel => exact ⟨j + 1, by omega, by go_num, by rw [hst.out, hcast.out], by rw [him.out]; exact hO4.out, hbT⟩
        case measure => simp [intOf]; omega
      · replace him := Lib.hid (him.out.trans (if_neg hge))
        go_wp2
        go_roundw
        case rel => exact ⟨j + 1, by omega, by go_num, by rw [hst.out, hcast.out], by rw [him.out]; exact hO.out, hbO⟩
        case measure => simp [intOf]; omega
    · obtain rfl : j = ys.length := by omega
      rw [List.take_length] at hO
      go_wp2
      go_ret2
      exact ⟨_, _, rfl, Below.step hb0 (Below.step hb2 hbO), hO.mono (by omega), rfl⟩
end Go.Proofs.YtmddapkhipmlgaaDoor

namespace Go.Proofs.YtmddapkhipmlgaaDoor
open Go.RowKit
set_option maxRecDepth 100000

theorem symbol_any (K R : Nat) (va : Option Addr) (vn vc : Nat) (T : List Int) (u : Value) (ys : List Int) (w : World) (h : IntsAt w (.slice va vn vc) T) (hr : RuleOk K R T) (hu : IntsAt w u ys) (hy : Syms K ys) (hyl : ys.length = 2 * R + 1) :
    Calls Tryd.prog 91 #[.agg #[.int .i64 K, .int .i64 R, .slice va vn vc], u] w (Ret1 (fun x _ => x = .int .i64 (T.getD (numW K ys) 0)) w) := by
  have hb0 := belowAlloc w (.cells #[.int .i64 K, .int .i64 R, .slice va vn vc] 24)
  have hR := hr.r3
  have hk1 := hr.k1
  have hk4 := hr.k4
  have l1 := hu.len
  have hb7 : ys.length ≤ 7 := by omega
  have hnl : numW K ys < T.length := by rw [hr.len, ← hyl]; exact numW_lt ys hy
  generalize hy0 : T.getD (numW K ys) 0 = y0
  replace hy0 := Lib.hid hy0
  replace hnl := Lib.hid hnl
  replace hyl := Lib.hid hyl
  replace h := Lib.hid (h.below hb0)
  replace hu := Lib.hid (hu.below hb0)
  replace hy := Lib.hid hy
  replace hr := Lib.hid hr
  obtain ⟨ua, un, uc, rfl⟩ := hu.out.shape
  go_enter Tryd.func91, Tryd.ntmps91
  go_wp2
  go_loop [5, 10] (fun n i => ∃ j : Nat, j ≤ ys.length ∧ i = .int .i64 j ∧ n = .int .i64 (numW K (ys.take j))) (fun _ i => ys.length - (intOf i).toNat)
  case atStart => exact ⟨0, by omega, rfl, rfl⟩
  case round =>
    obtain ⟨j, hj, rfl, rfl⟩ := hrel
    by_cases hjl : j < ys.length
    · have i1 := hu.out.idx j hjl
      have c1 := hu.out.cell j hjl
      have hx := hy.out ys[j] (by simp)
      have hn : Hid (numW K (ys.take (j + 1)) = numW K (ys.take j) * K + ys[j].toNat) := by
        show _ = _
        rw [take_snoc ys j hjl, numW_snoc]
      have hn2 : numW K (ys.take j) ≤ 16384 := by
        have h1 := numW_lt (ys.take j) (fun x hx => hy.out x (List.mem_of_mem_take hx))
        have h2 := pw_le hk1 hk4 (i := (ys.take j).length) (by simp; omega)
        omega
      generalize ys[j] = x at c1 hx hn
      generalize numW K (ys.take j) = N at hn hn2
      have hm1 : 0 ≤ (N : Int) * (K : Int) := Int.mul_nonneg (by omega) (by omega)
      have hm2 : (N : Int) * (K : Int) ≤ 65536 := by
        have : N * K ≤ 65536 := Nat.mul_le_mul hn2 hk4
        have h2 := Int.ofNat_le.2 this
        rw [Int.natCast_mul] at h2
        exact h2
      go_wp2
      go_round
      case rel => exact ⟨j + 1, by omega, by go_num, by rw [hn.out]; go_num⟩
      case measure => simp [intOf]; omega
    · obtain rfl : j = ys.length := by omega
      rw [List.take_length]
      have i2 := h.out.idx (numW K ys) hnl.out
      have c2 := h.out.cellD (numW K ys) hnl.out
      rw [hy0.out] at c2
      clear hy0 hnl
      generalize numW K ys = N at i2 c2
      go_wp2
      go_ret
      exact ⟨_, rfl, hb0, rfl⟩

theorem behind1_any (K R1 R2 : Nat) (va : Option Addr) (vn vc : Nat) (T1 : List Int) (ua : Option Addr) (un uc : Nat) (T2 : List Int) (p q : Nat) (v : Value) (ys : List Int) (w : World)
    (h1 : IntsAt w (.slice va vn vc) T1) (hr1 : RuleOk K R1 T1) (h2 : IntsAt w (.slice ua un uc) T2) (hr2 : RuleOk K R2 T2) (hv : IntsAt w v ys) (hy : Syms K ys) (hyl : ys.length = 2 * (R1 + R2) + 1)
    (x0 : w.cell? ⟨p, 0, none⟩ = some (.int .i64 K)) (x1 : w.cell? ⟨p, 1, none⟩ = some (.int .i64 R2)) (x2 : w.cell? ⟨p, 2, none⟩ = some (.slice ua un uc))
    (y0 : w.cell? ⟨q, 0, none⟩ = some (.int .i64 K)) (y1 : w.cell? ⟨q, 1, none⟩ = some (.int .i64 R1)) (y2 : w.cell? ⟨q, 2, none⟩ = some (.slice va vn vc)) :
    Calls Tryd.prog 101 #[v, .pointer (some ⟨p, 0, none⟩), .pointer (some ⟨q, 0, none⟩)] w (Ret1 (fun x _ => x = .int .i64 (T1.getD (numW K (imgP K R2 T2 ys)) 0)) w) := by
  have hR1 := hr1.r3
  have hR2 := hr2.r3
  have hk1 := hr1.k1
  have hsy : Syms K (imgP K R2 T2 ys) := imgP_syms hk1 hr2.syms
  have hil : (imgP K R2 T2 ys).length = 2 * R1 + 1 := by rw [imgP_length]; omega
  have hle : ys.length ≤ 4096 := by omega
  replace h1 := Lib.hid h1
  replace h2 := Lib.hid h2
  replace hv := Lib.hid hv
  replace hy := Lib.hid hy
  replace hyl := Lib.hid hyl
  replace hr1 := Lib.hid hr1
  replace hr2 := Lib.hid hr2
  replace hsy := Lib.hid hsy
  replace hil := Lib.hid hil
  generalize hY : T1.getD (numW K (imgP K R2 T2 ys)) 0 = Y
  replace hY := Lib.hid hY
  have yy := Lib.hid (And.intro y0 (And.intro y1 y2))
  clear y0 y1 y2
  go_enter Tryd.func101, Tryd.ntmps101
  go_wp2_with fail
  refine (step_ok K R2 ua un uc T2 v ys _ h2.out hr2.out hv.out hy.out hle).mono ?_
  rintro e w1 ⟨x, y, rfl, hb, ho, rfl⟩
  obtain ⟨y0, y1, y2⟩ := keep3 hb yy.out
  replace ho := Lib.hid ho
  go_wp2_with fail
  refine (symbol_any K R1 va vn vc T1 x _ _ (h1.out.below hb) hr1.out ho.out.at hsy.out hil.out).mono ?_
  rintro e w2 ⟨x, rfl, hb', rfl⟩
  rw [hY.out]
  go_wp2
  go_ret
  exact ⟨_, rfl, Below.step hb hb', rfl⟩
end Go.Proofs.YtmddapkhipmlgaaDoor

namespace Go.Proofs.YtmddapkhipmlgaaDoor
open Go.RowKit
set_option maxRecDepth 100000

theorem leftS_lt {K : Nat} {T : List Int} (hK : 1 ≤ K) (node : Nat) (hn : node < T.length / K) (w : List Int) : (leftS K T node w).1 < T.length / K := by
  induction w with
  | nil => exact hn
  | cons y w ih =>
    have hf := fit_lt hK T (leftS K T node w).1 (T.length / K) y
    show (fit K T (leftS K T node w).1 (T.length / K) y * (T.length / K) + (leftS K T node w).1) / K < T.length / K
    rw [Nat.div_lt_iff_lt_mul hK]
    have h1 : (fit K T (leftS K T node w).1 (T.length / K) y + 1) * (T.length / K) ≤ K * (T.length / K) := Nat.mul_le_mul_right _ hf
    rw [Nat.succ_mul] at h1
    rw [Nat.mul_comm (T.length / K) K]
    omega

theorem run_makeI (C : Int) (n : Nat) (w : World) (hC : C = n) (hn : n ≤ 17592186044416) :
    ∃ v w', (Instr.makeSlice 22 (.int .i64 C) (.int .i64 C)).run Tryd.prog w = .ok v w' ∧ OwnI w.heap.size w' v (List.replicate n 0) ∧ Below w.heap.size w w' := by
  subst hC
  obtain ⟨i, hi, hz0, hz1, hz2⟩ := info_parts iInt
  obtain ⟨w', hrun, r1, r2⟩ := run_make_full (P := Tryd.prog) w w.heap.size 22 3 i (.int .i64 0) 1 uInts hi hz0 hz1 .i64 .i64 n (by rw [hz2]; omega) (by unfold maxLen; omega) (Nat.le_refl _)
  refine ⟨_, w', hrun, ?_, (Below.refl _ _).grown r2 (Nat.le_refl _) (by intro k hk; cases hk)⟩
  have e : (madeCells (Value.cells (.int .i64 0)) (n * 1)).toList = (List.replicate n (0 : Int)).map (Value.int .i64) := by
    rw [show Value.cells (.int .i64 0) = #[.int .i64 0] from rfl, toList_madeCells_one]; simp
  rw [e] at r1
  simpa [OwnI] using r1

/-- What is left of an owned slice from a place on. -/
theorem OwnI.post {B : Nat} {w : World} {v : Value} {xs : List Int} (h : OwnI B w v xs) (off : Nat) (ho : off ≤ xs.length) :
    ∃ dp dLen dCap, (∀ w', (Instr.slice 22 v (some (.int .i64 off)) none none).run Tryd.prog w' = .ok (.slice dp dLen dCap) w') ∧ dLen = xs.length - off ∧ (0 < xs.length - off → dp = some (valAt v off)) := by
  rcases h.2 with ⟨rfl, hn⟩ | ⟨g, cap, cur, rfl, hB, hg, hn, hm, hs, ht⟩
  · have hr : ∀ w', (Instr.slice 22 (.slice none 0 0) (some (.int .i64 off)) none none).run Tryd.prog w' = .ok (sliced none off 0 0 1) w' := by
      intro w'
      rw [run_slice_l w' 22 none 0 0 uIntsE .i64 off (by omega) (by omega), eInts, sInt]
      rfl
    exact ⟨_, _, _, hr, by omega, by intro hh; omega⟩
  · have hr : ∀ w', (Instr.slice 22 (.slice (some ⟨g, 0, none⟩) xs.length cap) (some (.int .i64 off)) none none).run Tryd.prog w' = .ok (sliced (some ⟨g, 0, none⟩) off xs.length cap 1) w' := by
      intro w'
      rw [run_slice_l w' 22 (some ⟨g, 0, none⟩) xs.length cap uIntsE .i64 off (by omega) (by omega), eInts, sInt]
      rfl
    refine ⟨_, _, _, hr, rfl, fun hh => ?_⟩
    rw [if_neg (by omega), valAt_row]
    simp [Addr.add]
    intro e; exact e.symm

theorem left_bad1 (r : Nat → Addr) (k R : Int) (va : Option Addr) (vn vc : Nat) (xs : List Int) (u v : Value) (t : Int × List (ByteArray × Int)) (w : World) (hg : Glob r w) (h : IntsAt w (.slice va vn vc) xs) (hc : checkP k R xs = some t) :
    Calls Tryd.prog 22 #[.agg #[.int .i64 k, .int .i64 R, .slice va vn vc], u, v] w (Ret2 (fun x y w' => x = .slice none 0 0 ∧ ErrIs r w' (under sPermut 0 (some t)) y) w) := by
  have hb0 := belowAlloc w (.cells #[.int .i64 k, .int .i64 R, .slice va vn vc] 24)
  replace hg := Lib.hid (hg.below hb0)
  replace h := Lib.hid (h.below hb0)
  replace hc := Lib.hid hc
  go_enter Tryd.func22, Tryd.ntmps22
  go_wp2_with fail
  refine (sides_bad r k R va vn vc xs t _ hg.out h.out hc.out).mono ?_
  rintro e w1 ⟨x, y, z, rfl, hb, rfl, rfl, he⟩
  have he' := Lib.hid he
  obtain ⟨T, p, rfl⟩ := he.some_shape
  clear he
  go_wp2
  go_ret2
  exact ⟨_, _, rfl, Below.step hb0 hb, rfl, he'.out⟩

theorem left_bad2 (r : Nat → Addr) (K R : Nat) (va : Option Addr) (vn vc : Nat) (xs : List Int) (u v : Value) (w : World) (hg : Glob r w) (h : IntsAt w (.slice va vn vc) xs) (hr : RuleOk K R xs) (hu : unlikeP K xs (xs.length / K) = false) :
    Calls Tryd.prog 22 #[.agg #[.int .i64 K, .int .i64 R, .slice va vn vc], u, v] w (Ret2 (fun x y w' => x = .slice none 0 0 ∧ ErrIs r w' (fresh sPermut 0 3) y) w) := by
  have hb0 := belowAlloc w (.cells #[.int .i64 K, .int .i64 R, .slice va vn vc] 24)
  replace hg := Lib.hid (hg.below hb0)
  replace h := Lib.hid (h.below hb0)
  replace hr := Lib.hid hr
  replace hu := Lib.hid hu
  go_enter Tryd.func22, Tryd.ntmps22
  go_wp2_with fail
  refine (sides_ok K R va vn vc xs _ h.out hr.out).mono ?_
  rintro e w1 ⟨x, y, z, rfl, hb, rfl, rfl, rfl⟩
  rw [hu.out]
  generalize unlikeP K xs 1 = q
  go_wp2_with fail
  refine (perm_wrong r _ _ _ (hg.out.below hb) (by decide) (by decide)).mono ?_
  rintro e w2 ⟨x, rfl, hb', he⟩
  go_wp2
  go_ret2
  exact ⟨_, _, rfl, Below.step hb0 (Below.step hb hb'), rfl, he⟩

theorem left_bad3 (r : Nat → Addr) (K R : Nat) (va : Option Addr) (vn vc : Nat) (xs : List Int) (u v : Value) (ys zs : List Int) (t : Int × List (ByteArray × Int)) (w : World) (hg : Glob r w) (h : IntsAt w (.slice va vn vc) xs) (hr : RuleOk K R xs) (hp : unlikeP K xs (xs.length / K) = true)
    (hu : IntsAt w u ys) (hv : IntsAt w v zs) (hc : checkM K R ys zs = some t) :
    Calls Tryd.prog 22 #[.agg #[.int .i64 K, .int .i64 R, .slice va vn vc], u, v] w (Ret2 (fun x y w' => x = .slice none 0 0 ∧ ErrIs r w' (some t) y) w) := by
  have hb0 := belowAlloc w (.cells #[.int .i64 K, .int .i64 R, .slice va vn vc] 24)
  have hR := hr.r3
  replace hg := Lib.hid (hg.below hb0)
  replace h := Lib.hid (h.below hb0)
  replace hr := Lib.hid hr
  replace hp := Lib.hid hp
  replace hc := Lib.hid hc
  replace hu := Lib.hid (hu.below hb0)
  replace hv := Lib.hid (hv.below hb0)
  go_enter Tryd.func22, Tryd.ntmps22
  go_wp2_with fail
  refine (sides_ok K R va vn vc xs _ h.out hr.out).mono ?_
  rintro e w1 ⟨x, y, z, rfl, hb, rfl, rfl, rfl⟩
  rw [hp.out]
  obtain ⟨z0, z1, z2, f0, f1, f2⟩ := cells3 hb
  generalize unlikeP K xs 1 = q
  go_wp2_with fail
  refine (perm_check r K R va vn vc u v ys zs _ (hg.out.below hb) (hu.out.below hb) (hv.out.below hb) hR).mono ?_
  rintro e w2 ⟨x, rfl, hb', he⟩
  rw [hc.out] at he
  have he' := Lib.hid he
  obtain ⟨T, p, rfl⟩ := he.some_shape
  clear he
  go_wp2
  go_ret2
  exact ⟨_, _, rfl, Below.step hb0 (Below.step hb hb'), rfl, he'.out⟩

set_option maxHeartbeats 2000000 in
theorem left_ok (r : Nat → Addr) (K R : Nat) (va : Option Addr) (vn vc : Nat) (xs : List Int) (u v : Value) (ys zs : List Int) (w : World) (hg : Glob r w) (h : IntsAt w (.slice va vn vc) xs) (hr : RuleOk K R xs) (hp : unlikeP K xs (xs.length / K) = true)
    (hu : IntsAt w u ys) (hv : IntsAt w v zs) (hc : checkM K R ys zs = none) :
    Calls Tryd.prog 22 #[.agg #[.int .i64 K, .int .i64 R, .slice va vn vc], u, v] w (Ret2 (fun x y w' => OwnI w.heap.size w' x ((leftS K xs (numW K zs) ys).2 ++ zs) ∧ y = .nilIface) w) := by
  have hb0 := belowAlloc w (.cells #[.int .i64 K, .int .i64 R, .slice va vn vc] 24)
  have hR := hr.r3
  have hk1 := hr.k1
  have hk4 := hr.k4
  have hlen := hr.len_le
  have hhf := hr.half
  obtain ⟨hy4, hzl, hys, hzs⟩ := checkM_none hc
  have l1 := hu.len
  have l2 := hv.len
  replace hg := Lib.hid (hg.below hb0)
  replace h := Lib.hid (h.below hb0)
  replace hr := Lib.hid hr
  replace hhf := Lib.hid hhf
  replace hp := Lib.hid hp
  replace hc := Lib.hid hc
  have hz6 : zs.length ≤ 6 := by omega
  replace hzl := Lib.hid hzl
  replace hys := Lib.hid hys
  replace hzs := Lib.hid hzs
  obtain ⟨ua, un, uc, rfl⟩ := hu.shape
  obtain ⟨a2, n2, c2, rfl⟩ := hv.shape
  replace hu := Lib.hid (hu.below hb0)
  replace hv := Lib.hid (hv.below hb0)
  go_enter Tryd.func22, Tryd.ntmps22
  go_wp2_with fail
  refine (sides_ok K R va vn vc xs _ h.out hr.out).mono ?_
  rintro e w1 ⟨x, y, z, rfl, hb, rfl, rfl, rfl⟩
  rw [hp.out]
  obtain ⟨z0, z1, z2, f0, f1, f2⟩ := cells3 hb
  generalize unlikeP K xs 1 = q
  go_wp2_with fail
  refine (perm_check r K R va vn vc _ _ ys zs _ (hg.out.below hb) (hu.out.below hb) (hv.out.below hb) hR).mono ?_
  rintro e w2 ⟨x, rfl, hb', he⟩
  rw [hc.out] at he
  obtain rfl := he.none_eq
  clear he z0 z1 z2 f0 f1 f2
  replace hb := Below.step hb hb'
  clear hb'
  obtain ⟨z0, z1, z2, f0, f1, f2⟩ := cells3 hb
  go_wp2_with fail
  have hsz : w.heap.size < w2.heap.size := World.block_lt_of_cell? _ _ z0
  have hv2 := Lib.hid (hv.out.below hb)
  have hui := Lib.hid (hu.out.below hb)
  have hxi := Lib.hid (h.out.below hb)
  have zz := Lib.hid (And.intro z0 (And.intro z1 z2))
  clear z0 z1 z2 f0 f1 f2
  obtain ⟨ov, w3, hmk, hout, hb3⟩ := run_makeI ((ys.length : Int) + (zs.length : Int)) (ys.length + zs.length) w2 (by omega) (by omega)
  have hK0 : ((K : Int) == 0) = false := by rw [beq_eq_false_iff_ne]; omega
  have hK1 : ¬ (K : Int) = 0 := by omega
  have hK2 : (0 : Int) < K := by omega
  have hK3 : ¬ K = 0 := by omega
  have hq0 : 0 ≤ (xs.length : Int) / (K : Int) := Int.ediv_nonneg (by omega) (by omega)
  have hqc : (xs.length : Int) / (K : Int) = ((xs.length / K : Nat) : Int) := by simp
  have hqw : IntKind.i64.wrap ((xs.length : Int) / (K : Int)) = (xs.length : Int) / (K : Int) := by
    have : xs.length / K ≤ 16384 := Nat.le_trans (Nat.div_le_self _ _) hlen
    exact wrapK (by omega) (by rw [hqc]; omega)
  replace hqc := Lib.hid hqc
  have hlx := h.out.len
  have hol : (List.replicate (ys.length + zs.length) (0 : Int)).length = ys.length + zs.length := by simp
  obtain ⟨dp, dLen, dCap, hsl, hd1, hd2⟩ := hout.post ys.length (by omega)
  obtain ⟨w4, hcp, ho4, hb4, _⟩ := run_copyI ys.length 3 dp dLen dCap hout (hv2.out.below hb3) rfl (by omega) (by omega) (fun hh => hd2 (by omega))
  have e1 : (List.replicate (ys.length + zs.length) (0 : Int)).take ys.length ++ zs ++ (List.replicate (ys.length + zs.length) (0 : Int)).drop (ys.length + zs.length) = List.replicate ys.length 0 ++ zs := by
    rw [List.take_replicate, List.drop_replicate]; simp
  rw [e1] at ho4
  clear e1 hol hd1 hd2 hout
  have hbA : Below w2.heap.size w2 w4 := hb3.trans hb4
  replace ho4 := Lib.hid ho4
  clear hb3 hb4
  obtain ⟨z0, z1, z2⟩ := keep3 hbA zz.out
  have hvi := Lib.hid (hv2.out.below hbA)
  go_wp2_with fail
  rw [hmk]
  simp only [Result.andThen]
  go_wp2
  go_loop [14, 58] (fun n i => ∃ j : Nat, j ≤ zs.length ∧ i = .int .i64 j ∧ n = .int .i64 (numW K (zs.take j))) (fun _ i => zs.length - (intOf i).toNat)
  case atStart => exact ⟨0, by omega, rfl, rfl⟩
  case round =>
    obtain ⟨j, hj, rfl, rfl⟩ := hrel
    by_cases hjl : j < zs.length
    · have i1 := hvi.out.idx j hjl
      have c1 := hvi.out.cell j hjl
      have hx := hzs.out zs[j] (by simp)
      have hn : Hid (numW K (zs.take (j + 1)) = numW K (zs.take j) * K + zs[j].toNat) := by
        show _ = _
        rw [take_snoc zs j hjl, numW_snoc]
      have hn2 : numW K (zs.take j) ≤ 16384 := by
        have h1 := numW_lt (zs.take j) (fun x hx => hzs.out x (List.mem_of_mem_take hx))
        have h2 := pw_le hk1 hk4 (i := (zs.take j).length) (by simp; omega)
        omega
      generalize zs[j] = x at c1 hx hn
      generalize numW K (zs.take j) = N at hn hn2
      have hm1 : 0 ≤ (N : Int) * (K : Int) := Int.mul_nonneg (by omega) (by omega)
      have hm2 : (N : Int) * (K : Int) ≤ 65536 := by
        have : N * K ≤ 65536 := Nat.mul_le_mul hn2 hk4
        have h2 := Int.ofNat_le.2 this
        rw [Int.natCast_mul] at h2
        exact h2
      go_wp2
      go_round
      case rel => exact ⟨j + 1, by omega, by go_num, by rw [hn.out]; go_num⟩
      case measure => simp [intOf]; omega
    · obtain rfl : j = zs.length := by omega
      rw [List.take_length]
      have hN : numW K zs < xs.length / K := by
        rw [hhf.out.1, ← hzl.out]; exact numW_lt zs hzs.out
      have hlK : xs.length / K ≤ 16384 := Nat.le_trans (Nat.div_le_self _ _) hlen
      have hlKK : xs.length / K * K = xs.length := by rw [hhf.out.1]; exact hhf.out.2.symm
      have hlx := h.out.len
      generalize hN0 : numW K zs = N at hN
      replace hN0 := Lib.hid hN0
      have hq1 : (xs.length : Int) / (K : Int) ≤ 16384 := by rw [hqc.out]; omega
      have hq2 : 0 < (xs.length : Int) / (K : Int) := by rw [hqc.out]; omega
      replace hN := Lib.hid hN
      have hlK0 := Lib.hid hlK
      replace hlKK := Lib.hid hlKK
      clear z0 z1 z2 hlK hcp hsl hmk
      have hul := hui.out.len
      go_wp2
      go_loopw [14, 17] (fun n i wr => ∃ j : Nat, j ≤ ys.length ∧ i = .int .i64 ((j : Int) - 1) ∧ n = .int .i64 (leftS K xs N (ys.drop j)).1 ∧ OwnI w2.heap.size wr ov (List.replicate j 0 ++ (leftS K xs N (ys.drop j)).2 ++ zs) ∧ Below w2.heap.size w2 wr) (fun _ i _ => (intOf i + 1).toNat)
      case atStart => exact ⟨ys.length, by omega, rfl, by rw [List.drop_length]; rfl, by rw [List.drop_length]; simpa [leftS] using ho4.out, hbA⟩
      case round =>
        obtain ⟨j, hj, rfl, rfl, hO, hbO⟩ := hrel
        obtain ⟨wo, rfl⟩ : ∃ wo : World, wo = wr := ⟨_, rfl⟩
        cases j with
        | zero =>
          rw [show ((0 : Nat) : Int) - 1 = -1 from rfl]
          rw [List.drop_zero, List.replicate_zero, List.nil_append] at hO
          go_wp2
          go_ret2
          exact ⟨_, _, rfl, Below.step hb0 (Below.step hb hbO), (by rw [hN0.out]; exact hO.mono (by omega)), rfl⟩
        | succ j =>
          rw [show ((j + 1 : Nat) : Int) - 1 = (j : Int) by omega]
          have hjl : j < ys.length := by omega
          have hyi := hui.out.below hbO
          have i1 := hyi.idx j hjl
          have c1 := hyi.cell j hjl
          have b1 := hyi.blk j hjl
          obtain ⟨z0, z1, z2⟩ := keep3 hbO zz.out
          have hM := leftS_lt (T := xs) hk1 N hN.out (ys.drop (j + 1))
          have hD : Hid (leftS K xs N (ys.drop j) = ((fit K xs (leftS K xs N (ys.drop (j + 1))).1 (xs.length / K) ys[j] * (xs.length / K) + (leftS K xs N (ys.drop (j + 1))).1) / K, (fit K xs (leftS K xs N (ys.drop (j + 1))).1 (xs.length / K) ys[j] : Int) :: (leftS K xs N (ys.drop (j + 1))).2)) := by
            show _ = _
            rw [List.drop_eq_getElem_cons hjl]; rfl
          generalize ys[j] = x at c1 hD
          have hfl := fit_lt hk1 xs (leftS K xs N (ys.drop (j + 1))).1 (xs.length / K) x
          have hPl : (leftS K xs N (ys.drop (j + 1))).2.length ≤ 4096 := by rw [leftS_length]; simp; omega
          generalize leftS K xs N (ys.drop (j + 1)) = p at hO hM hD hfl hPl
          obtain ⟨M, P⟩ := p
          simp only [] at hO hM hD hfl hPl
          have hOl : j < (List.replicate (j + 1) (0 : Int) ++ P ++ zs).length := by simp; omega
          have hset : (List.replicate (j + 1) (0 : Int) ++ P ++ zs).set j (fit K xs M (xs.length / K) x : Int) = List.replicate j 0 ++ ((fit K xs M (xs.length / K) x : Int) :: P) ++ zs := by
            rw [List.replicate_succ', List.append_assoc, List.append_assoc, List.append_assoc, List.set_append_right _ _ (by simp)]
            simp
          have hin : M + (K - 1) * (xs.length / K) < xs.length := by
            have h1 : (K - 1 + 1) * (xs.length / K) = xs.length := by rw [Nat.sub_add_cancel hk1, Nat.mul_comm]; exact hlKK.out
            rw [Nat.succ_mul] at h1
            omega
          have hM1 : M ≤ 16384 := by have := hlK0.out; omega
          have hsm : fit K xs M (xs.length / K) x * (xs.length / K) ≤ 65536 := Nat.mul_le_mul (show _ ≤ 4 by omega) hlK0.out
          have hf : ∀ w_, IntsAt w_ (.slice va vn vc) xs → Calls Tryd.prog 57 #[.agg #[.int .i64 K, .int .i64 R, .slice va vn vc], .int .i64 M, .int .i64 ((xs.length : Int) / (K : Int)), .int .i64 x] w_ fun e w' => e = .returned (.int .i64 (fit K xs M (xs.length / K) x)) ∧ Below w_.heap.size w_ w' := by
            intro w_ h_
            rw [hqc.out]
            refine (perm_fits K R va vn vc xs M (xs.length / K) x w_ h_ hr.out hin).mono ?_
            rintro e w' ⟨h1, rfl⟩
            exact ⟨h1, belowAlloc _ _⟩
          generalize fit K xs M (xs.length / K) x = s at hset hD hfl hf hsm
          have hm1 : 0 ≤ (s : Int) * ((xs.length : Int) / (K : Int)) := Int.mul_nonneg (by omega) (by omega)
          have hm2 : (s : Int) * ((xs.length : Int) / (K : Int)) ≤ 65536 := by
            rw [hqc.out]
            have h2 := Int.ofNat_le.2 hsm
            rw [Int.natCast_mul] at h2
            exact h2
          have hdv0 : 0 ≤ ((s : Int) * ((xs.length : Int) / (K : Int)) + (M : Int)) / (K : Int) := Int.ediv_nonneg (by omega) (by omega)
          have hdvc : ((s : Int) * ((xs.length : Int) / (K : Int)) + (M : Int)) / (K : Int) = (((s * (xs.length / K) + M) / K : Nat) : Int) := by simp
          have hdv1 : ((s : Int) * ((xs.length : Int) / (K : Int)) + (M : Int)) / (K : Int) ≤ 131072 := by
            rw [hdvc]
            have : (s * (xs.length / K) + M) / K ≤ s * (xs.length / K) + M := Nat.div_le_self _ _
            omega
          have hdvw : IntKind.i64.wrap (((s : Int) * ((xs.length : Int) / (K : Int)) + (M : Int)) / (K : Int)) = ((s : Int) * ((xs.length : Int) / (K : Int)) + (M : Int)) / (K : Int) := wrapK (by omega) (by omega)
          replace hdvc := Lib.hid hdvc
          replace hset := Lib.hid hset
          replace hM := Lib.hid hM
          replace hO := Lib.hid hO
          replace hf := Lib.hid hf
          replace hin := Lib.hid hin
          have hxw := Lib.hid (hxi.out.below hbO)
          generalize List.replicate (j + 1) (0 : Int) ++ P ++ zs = O at hO hOl hset
          go_wp2
          go_region_held3 (fun w' => w'.cell? ⟨w.heap.size, 0, none⟩ = some (.int .i64 K) ∧ w'.cell? ⟨w.heap.size, 1, none⟩ = some (.int .i64 R) ∧ w'.cell? ⟨w.heap.size, 2, none⟩ = some (.slice va vn vc) ∧ w'.cell? (valAt (.slice ua un uc) j) = some (.int .i64 x)) (go_keep)
            (first | (go_at_call 57; refine (hf.out _ (by first | exact hxw.out.drew | exact hxw.out)).mono ?_; rintro e w5 ⟨rfl, hb'⟩; have S := keep3 hb' ⟨z0, z1, z2⟩; have y0 := S.1; have y1 := S.2.1; have y2 := S.2.2; have y3 := (hb'.cell b1).trans c1; have bb : Below wo.heap.size wo w5 := ((Below.refl _ _).drew).trans hb'))
          have hO5 := hO.out.below bb
          have hbT := hbO.trans (bb.mono hbO.size)
          have i3 := hO5.at.idx j hOl
          have c3 := hO5.at.cell j hOl
          have f3 := hO5.frz j hOl
          have hO6 := hO5.set j hOl (s : Int)
          have hb6 := hO5.setBelow hbT j hOl (.int .i64 (s : Int))
          obtain ⟨x0, x1, x2⟩ := keep3 hb6 zz.out
          rw [hset.out] at hO6
          replace hO6 := Lib.hid hO6
          generalize O[j] = o at c3
          clear hset hO5 hO y1 y2 y3 z0 z1 z2 c1 i1 x1 x2
          go_wp2
          go_roundw
          case rel =>
            refine ⟨j, by omega, by go_num, ?_, by rw [hD.out]; exact hO6.out, hb6⟩
            rw [hD.out, ← hdvc.out]
          case measure => simp [intOf]

/-- permut.Left at all operands. -/
theorem left_any (r : Nat → Addr) (k R : Int) (va : Option Addr) (vn vc : Nat) (xs : List Int) (u v : Value) (ys zs : List Int) (w : World) (hg : Glob r w) (h : IntsAt w (.slice va vn vc) xs) (hu : IntsAt w u ys) (hv : IntsAt w v zs) :
    Calls Tryd.prog 22 #[.agg #[.int .i64 k, .int .i64 R, .slice va vn vc], u, v] w (Ret2 (fun x y w' => ErrIs r w' (permF k R xs (xs.length / k.toNat) ys zs) y ∧ (permF k R xs (xs.length / k.toNat) ys zs = none → OwnI w.heap.size w' x ((leftS k.toNat xs (numW k.toNat zs) ys).2 ++ zs)) ∧ (permF k R xs (xs.length / k.toNat) ys zs ≠ none → x = .slice none 0 0)) w) := by
  cases hc : checkP k R xs with
  | some t =>
    have e : permF k R xs (xs.length / k.toNat) ys zs = under sPermut 0 (some t) := by simp [permF, hc]
    refine (left_bad1 r k R va vn vc xs u v t w hg h hc).mono ?_
    rintro e1 w' ⟨x, y, he, hb, hx, hy⟩
    exact ⟨x, y, he, hb, by rw [e]; exact hy, (fun h => by rw [e] at h; cases h), fun _ => hx⟩
  | none =>
    obtain ⟨K, R, rfl, rfl, hr⟩ := checkP_none hc
    rw [Int.toNat_natCast]
    cases hp : unlikeP K xs (xs.length / K) with
    | false =>
      have e : permF K R xs (xs.length / K) ys zs = fresh sPermut 0 3 := by simp [permF, hc, hp]
      refine (left_bad2 r K R va vn vc xs u v w hg h hr hp).mono ?_
      rintro e1 w' ⟨x, y, he, hb, hx, hy⟩
      exact ⟨x, y, he, hb, by rw [e]; exact hy, (fun h => by rw [e] at h; cases h), fun _ => hx⟩
    | true =>
      have e : permF K R xs (xs.length / K) ys zs = checkM K R ys zs := by simp [permF, hc, hp]
      cases hm : checkM K R ys zs with
      | some t =>
        rw [hm] at e
        refine (left_bad3 r K R va vn vc xs u v ys zs t w hg h hr hp hu hv hm).mono ?_
        rintro e1 w' ⟨x, y, he, hb, hx, hy⟩
        exact ⟨x, y, he, hb, by rw [e]; exact hy, (fun h => by rw [e] at h; cases h), fun _ => hx⟩
      | none =>
        rw [hm] at e
        refine (left_ok r K R va vn vc xs u v ys zs w hg h hr hp hu hv hm).mono ?_
        rintro e1 w' ⟨x, y, he, hb, hx, hy⟩
        exact ⟨x, y, he, hb, by rw [e]; exact hy, fun _ => hx, fun h => absurd e h⟩
end Go.Proofs.YtmddapkhipmlgaaDoor

namespace Go.Proofs.YtmddapkhipmlgaaDoor
open Go.RowKit
set_option maxRecDepth 100000

/-- The table of a function of windows. -/
def madeP (K n : Nat) (s : List Int → Int) (m : Nat) : List Int := (List.range m).map fun x => s (digs K n x)
theorem madeP_length (K n : Nat) (s : List Int → Int) (m : Nat) : (madeP K n s m).length = m := by simp [madeP]

theorem madeP_set (K n : Nat) (s : List Int → Int) (m P : Nat) (h : m < P) : (madeP K n s m ++ List.replicate (P - m) (0 : Int)).set m (s (digs K n m)) = madeP K n s (m + 1) ++ List.replicate (P - (m + 1)) 0 := by
  rw [List.set_append_right _ _ (by rw [madeP_length]; exact Nat.le_refl _), madeP_length, Nat.sub_self, show P - m = (P - (m + 1)) + 1 by omega, List.replicate_succ, List.set_cons_zero, madeP, madeP, List.range_succ, List.map_append, List.append_assoc]
  rfl

set_option maxHeartbeats 800000 in
theorem made_two0 (K R F : Nat) (c1 c2 : Value) (s : List Int → Int) (w : World) (hk1 : 1 ≤ K) (hk4 : K ≤ 4) (hR : R ≤ 3)
    (eg : ∀ args w, (callFunc F args).run Tryd.prog w = .ok (.enter F args) w)
    (hF : ∀ (v : Value) (ys : List Int) (w' : World), Below w.heap.size w w' → IntsAt w' v ys → Syms K ys → ys.length = 2 * R + 1 → Calls Tryd.prog F #[v, c1, c2] w' (Ret1 (fun x _ => x = .int .i64 (s ys)) w')) :
    Calls Tryd.prog 89 #[.int .i64 K, .int .i64 R, .func (.func F) #[] #[c1, c2]] w (Ret1 (fun x w' => ∃ a n c, x = .agg #[.int .i64 K, .int .i64 R, .slice a n c] ∧ OwnI w.heap.size w' (.slice a n c) (madeP K (2 * R + 1) s (pw K (2 * R + 1)))) w) := by
  have hpl := pw_le hk1 hk4 (i := 2 * R + 1) (by omega)
  replace hF := Lib.hid hF
  go_enter Tryd.func89, Tryd.ntmps89
  go_wp2_with fail
  refine (size_ok K R _ hk1 hk4 hR).mono ?_
  rintro e w' ⟨rfl, rfl⟩
  go_wp2_with fail
  have hb0 := belowAlloc w (.cells #[.int .i64 0, .int .i64 0, .slice none 0 0] 24)
  obtain ⟨tv, w1, hmk, ho1, hb1⟩ := run_makeI ((pw K (2 * R + 1) : Nat) : Int) (pw K (2 * R + 1)) (w.alloc (.cells #[.int .i64 0, .int .i64 0, .slice none 0 0] 24)) rfl (by omega)
  obtain ⟨ta, tn, tc, rfl⟩ := ho1.at.shape
  rw [hmk]
  simp only [Result.andThen]
  clear hmk
  generalize hN : 2 * R + 1 = N at *
  go_wp2_with fail
  obtain ⟨wv, w2, hmk2, ho2, hb2⟩ := run_makeI (2 * (R : Int) + 1) N (w1.alloc (.cells #[.int .i64 K, .int .i64 R, .slice ta tn tc] 24)) (by omega) (by omega)
  obtain ⟨wa, wn, wc, rfl⟩ := ho2.at.shape
  rw [hmk2]
  simp only [Result.andThen]
  clear hmk2
  obtain ⟨z0, z1, z2, -, -, -⟩ := cells3 hb2
  have lt := (ho1.at.len)
  rw [List.length_replicate] at lt
  have hN7 : N ≤ 7 := by omega
  replace hN := Lib.hid hN
  have ltb : ∀ k, (Value.slice ta tn tc).ownBlock = some k → k < w1.heap.size := fun k hk => (ho1.lt k hk).2
  have lwn := ho2.at.len
  rw [List.length_replicate] at lwn
  have ho1' := Lib.hid ((ho1.alloc (.cells #[.int .i64 K, .int .i64 R, .slice ta tn tc] 24)).below hb2)
  have zz := Lib.hid (And.intro z0 (And.intro z1 z2))
  have hbw := Lib.hid (hb1.trans ((Below.step (belowAlloc w1 (.cells #[.int .i64 K, .int .i64 R, .slice ta tn tc] 24)) hb2).mono hb1.size))
  replace ho2 := Lib.hid ho2
  replace ltb := Lib.hid ltb
  have hsz1 := hb1.size
  simp at hsz1
  have hM : pw K N = pw K N := rfl
  clear hM
  go_wp2
  go_loopw [32] (fun i wr => ∃ m : Nat, m ≤ pw K N ∧ i = .int .i64 m ∧ OwnI (w.heap.size + 1) wr (.slice ta tn tc) (madeP K N s m ++ List.replicate (pw K N - m) 0) ∧ (∃ p : List Int, p.length = N ∧ OwnI (w1.heap.size + 1) wr (.slice wa wn wc) p) ∧
      (wr.cell? ⟨w1.heap.size, 0, none⟩ = some (.int .i64 K) ∧ wr.cell? ⟨w1.heap.size, 1, none⟩ = some (.int .i64 R) ∧ wr.cell? ⟨w1.heap.size, 2, none⟩ = some (.slice ta tn tc)) ∧
      Below (w.heap.size + 1) (w.alloc (.cells #[.int .i64 0, .int .i64 0, .slice none 0 0] 24)) wr) (fun i _ => pw K N - (intOf i).toNat)
  case atStart => exact ⟨0, by omega, rfl, by simpa [madeP] using ho1'.out, ⟨List.replicate N 0, by simp, by simpa using ho2.out⟩, zz.out, by simpa using hbw.out⟩
  case round =>
    obtain ⟨m, hm, rfl, hT, ⟨p, hp, hP⟩, hz, hbO⟩ := hrel
    obtain ⟨wo, rfl⟩ : ∃ wo : World, wo = wr := ⟨_, rfl⟩
    replace hz := Lib.hid hz
    replace hT := Lib.hid hT
    by_cases hml : m < pw K N
    · have hsz2 : w1.heap.size < wo.heap.size := World.block_lt_of_cell? _ _ hz.out.1
      have hK0 : ((K : Int) == 0) = false := by rw [beq_eq_false_iff_ne]; omega
      have hK1 : ¬ (K : Int) = 0 := by omega
      have hK2 : (0 : Int) < K := by omega
      go_wp2
      go_loopw [12, 38] (fun x i wr => ∃ j : Nat, j ≤ N ∧ i = .int .i64 j ∧ x = .int .i64 (m / pw K j : Nat) ∧ OwnI (w1.heap.size + 1) wr (.slice wa wn wc) (p.take (N - j) ++ (digs K N m).drop (N - j)) ∧ Below (w1.heap.size + 1) wo wr) (fun _ i _ => N - (intOf i).toNat)
      case atStart => exact ⟨0, by omega, rfl, by simp [pw], by rw [Nat.sub_zero, List.drop_of_length_le (by rw [digs_length]; exact Nat.le_refl _), List.append_nil, List.take_of_length_le (by omega)]; exact hP, Below.refl _ _⟩
      case round =>
        obtain ⟨j, hj, rfl, rfl, hO, hbI⟩ := hrel
        obtain ⟨wi, rfl⟩ : ∃ wi : World, wi = wr := ⟨_, rfl⟩
        by_cases hjl : j < N
        · have hXl : (p.take (N - j) ++ (digs K N m).drop (N - j)).length = N := by simp [digs_length]; omega
          have i1 : ∀ w', (Instr.indexAt 22 (.slice wa wn wc) (.int .i64 ((N : Int) - 1 - (j : Int)))).run Tryd.prog w' = .ok (.pointer (some (valAt (.slice wa wn wc) (N - 1 - j)))) w' := by
            intro w'
            have := hO.at.idxI ((N : Int) - 1 - (j : Int)) (by omega) (by rw [hXl]; omega) w'
            rwa [show ((N : Int) - 1 - (j : Int)).toNat = N - 1 - j by omega] at this
          have c1 := hO.at.cellD (N - 1 - j) (by rw [hXl]; omega)
          have f1 := hO.frz (N - 1 - j) (by rw [hXl]; omega)
          have hS := hO.set (N - 1 - j) (by rw [hXl]; omega) ((m / pw K j % K : Nat) : Int)
          have hbS := hO.setBelow hbI (N - 1 - j) (by rw [hXl]; omega) (.int .i64 ((m / pw K j % K : Nat) : Int))
          rw [digs_fill K N m j hjl p hp] at hS
          replace hS := Lib.hid hS
          replace hbS := Lib.hid hbS
          have hqd : m / pw K j / K = m / pw K (j + 1) := by rw [Nat.div_div_eq_div_mul, ← pw_succ]
          replace hqd := Lib.hid hqd
          have hql : m / pw K j ≤ 16384 := Nat.le_trans (Nat.div_le_self _ _) (by omega)
          generalize (p.take (N - j) ++ (digs K N m).drop (N - j)).getD (N - 1 - j) 0 = y at c1
          clear hXl hO
          generalize m / pw K j = q at *
          rw [Int.natCast_emod] at hS hbS
          have hd0 : 0 ≤ (q : Int) / (K : Int) := Int.ediv_nonneg (by omega) (by omega)
          have hd1 : (q : Int) / (K : Int) ≤ 16384 := by
            have h1 : q / K ≤ q := Nat.div_le_self _ _
            have h2 : q / K ≤ 16384 := by omega
            exact_mod_cast h2
          have hdw : IntKind.i64.wrap ((q : Int) / (K : Int)) = (q : Int) / (K : Int) := wrapK (by omega) (by omega)
          go_wp2
          go_roundw
          case rel => exact ⟨j + 1, by omega, by go_num, by rw [← hqd.out]; simp, hS.out, hbS.out⟩
          case measure => simp [intOf]; omega
        · have hjN : j = N := by omega
          subst hjN
          rw [Nat.sub_self, List.take_zero, List.drop_zero, List.nil_append] at hO
          have hbW : Below w.heap.size w wi := ((belowAlloc w _).trans (hbO.mono (by omega))).trans (hbI.mono (by omega))
          have hz2 := hbI.cell (p := ⟨w1.heap.size, 2, none⟩) (by simp)
          have hTl : m < (madeP K j s m ++ List.replicate (pw K j - m) (0 : Int)).length := by simp [madeP_length]; omega
          have hTi := hT.out.belowB hbI (fun k hk => by have := ltb.out k hk; omega)
          have i2 := hTi.at.idx m hTl
          have c2 := hTi.at.cellD m hTl
          have f2 := hTi.frz m hTl
          have b2 := hTi.at.blk m hTl
          have z2i := hz2.trans hz.out.2.2
          have zbi : (⟨w1.heap.size, 2, none⟩ : Addr).block < wi.heap.size := World.block_lt_of_cell? _ _ z2i
          generalize (madeP K j s m ++ List.replicate (pw K j - m) (0 : Int)).getD m 0 = o at c2
          replace hTi := Lib.hid hTi
          replace hO := Lib.hid hO
          replace hbW := Lib.hid hbW
          replace hTl := Lib.hid hTl
          clear hz2
          have hvb : (valAt (.slice ta tn tc) m).block ≠ w1.heap.size := by
            have := ltb.out _ (hT.out.toV.blkB m (by simpa using hTl.out)).1
            omega
          have hdl : m + 1 ≤ pw K j := hml
          go_wp2
          go_region_held3 (fun w' => w'.cell? ⟨w1.heap.size, 2, none⟩ = some (.slice ta tn tc)) (go_keep)
            (first | (refine (hF.out _ (digs K j m) _ (by first | exact hbW.out.drew | exact hbW.out) (by first | exact hO.out.at.drew | exact hO.out.at) (digs_syms hk1 _ _) (by rw [digs_length])).mono ?_; rintro e w5 ⟨x5, rfl, hb5, rfl⟩; have y1 := (hb5.cell zbi).trans z2i; have y2 := (hb5.cell b2).trans c2; have y3 := (hb5.frozen b2).trans f2; have bb : Below wi.heap.size wi w5 := ((Below.refl _ _).drew).trans hb5))
          have hT5 := (hTi.out.drew.below hb5).set m hTl.out (s (digs K j m))
          rw [madeP_set K j s m _ hml] at hT5
          have hO5 := (hO.out.drew.below hb5).setOther (hTi.out.drew.below hb5) (by
            intro e
            have e1 := (hT.out.toV.blkB m (by simpa using hTl.out)).1
            have e2 := (hO.out.lt _ (e.trans e1)).1
            have e3 := ltb.out _ e1
            omega) m hTl.out (.int .i64 (s (digs K j m)))
          have hB5 := ((hbO.trans (hbI.mono (by omega))).trans (bb.mono (by omega))).setCell ((hTi.out.blkB m hTl.out)) (.int .i64 (s (digs K j m)))
          have x0 := (World.cell?_setCell_far w5 (valAt (.slice ta tn tc) m) ⟨w1.heap.size, 0, none⟩ (.int .i64 (s (digs K j m))) hvb).trans (((bb.cell (p := ⟨w1.heap.size, 0, none⟩) zbi)).trans ((hbI.cell (p := ⟨w1.heap.size, 0, none⟩) (by simp)).trans hz.out.1))
          have x1 := (World.cell?_setCell_far w5 (valAt (.slice ta tn tc) m) ⟨w1.heap.size, 1, none⟩ (.int .i64 (s (digs K j m))) hvb).trans (((bb.cell (p := ⟨w1.heap.size, 1, none⟩) zbi)).trans ((hbI.cell (p := ⟨w1.heap.size, 1, none⟩) (by simp)).trans hz.out.2.1))
          have x2 := (World.cell?_setCell_far w5 (valAt (.slice ta tn tc) m) ⟨w1.heap.size, 2, none⟩ (.int .i64 (s (digs K j m))) hvb).trans y1
          have xx := Lib.hid (And.intro x0 (And.intro x1 x2))
          clear x0 x1 x2
          replace hT5 := Lib.hid hT5
          replace hO5 := Lib.hid hO5
          replace hB5 := Lib.hid hB5
          go_wp2
          go_roundw
          case rel => exact ⟨m + 1, by omega, by go_num, hT5.out, ⟨digs K j m, digs_length .., hO5.out⟩, xx.out, hB5.out⟩
          case measure => simp [intOf]; omega
    · obtain rfl : m = pw K N := by omega
      rw [Nat.sub_self, List.replicate_zero, List.append_nil] at hT
      obtain ⟨z0, z1, z2⟩ := hz.out
      obtain ⟨y0, y1, y2, f0, f1, f2⟩ := cells3 (w := w) (show Below (w.alloc (.cells #[.int .i64 0, .int .i64 0, .slice none 0 0] 24)).heap.size _ wo by simpa using hbO)
      replace hbO := Lib.hid hbO
      go_wp2
      refine bodyPost_ret (v := .agg #[.int .i64 K, .int .i64 R, .slice ta tn tc]) (by simp [results, Tryd.results89, go_sem, y0, y1, y2]) rfl ⟨_, rfl, ?_, ta, tn, tc, rfl, ?_⟩
      · exact (((belowAlloc w _).trans (hbO.out.mono (by omega))).setCell (by simp) _).setCell (by simp) _ |>.setCell (by simp) _
      · rw [hN.out]; exact (((hT.out.setBelowBase (a := ⟨w.heap.size, 0, none⟩) (by simp) _).setBelowBase (a := ⟨w.heap.size, 1, none⟩) (by simp) _).setBelowBase (a := ⟨w.heap.size, 2, none⟩) (by simp) _).mono (Nat.le_succ _)

theorem made_two (K R F : Nat) (c1 c2 : Value) (s : List Int → Int) (w : World) (hk1 : 1 ≤ K) (hk4 : K ≤ 4) (hR : R ≤ 3) (Ri : Int) (hRi : Ri = R)
    (eg : ∀ args w, (callFunc F args).run Tryd.prog w = .ok (.enter F args) w)
    (hF : ∀ (v : Value) (ys : List Int) (w' : World), Below w.heap.size w w' → IntsAt w' v ys → Syms K ys → ys.length = 2 * R + 1 → Calls Tryd.prog F #[v, c1, c2] w' (Ret1 (fun x _ => x = .int .i64 (s ys)) w')) :
    Calls Tryd.prog 89 #[.int .i64 K, .int .i64 Ri, .func (.func F) #[] #[c1, c2]] w (Ret1 (fun x w' => ∃ a n c, x = .agg #[.int .i64 K, .int .i64 R, .slice a n c] ∧ OwnI w.heap.size w' (.slice a n c) (madeP K (2 * R + 1) s (pw K (2 * R + 1)))) w) := by
  subst hRi
  exact made_two0 K R F c1 c2 s w hk1 hk4 hR eg hF
end Go.Proofs.YtmddapkhipmlgaaDoor

namespace Go.Proofs.YtmddapkhipmlgaaDoor
open Go.RowKit
set_option maxRecDepth 100000

set_option maxHeartbeats 800000 in
theorem made_one0 (K R F : Nat) (c1 : Value) (s : List Int → Int) (w : World) (hk1 : 1 ≤ K) (hk4 : K ≤ 4) (hR : R ≤ 3)
    (eg : ∀ args w, (callFunc F args).run Tryd.prog w = .ok (.enter F args) w)
    (hF : ∀ (v : Value) (ys : List Int) (w' : World), Below w.heap.size w w' → IntsAt w' v ys → Syms K ys → ys.length = 2 * R + 1 → Calls Tryd.prog F #[v, c1] w' (Ret1 (fun x _ => x = .int .i64 (s ys)) w')) :
    Calls Tryd.prog 89 #[.int .i64 K, .int .i64 R, .func (.func F) #[] #[c1]] w (Ret1 (fun x w' => ∃ a n c, x = .agg #[.int .i64 K, .int .i64 R, .slice a n c] ∧ OwnI w.heap.size w' (.slice a n c) (madeP K (2 * R + 1) s (pw K (2 * R + 1)))) w) := by
  have hpl := pw_le hk1 hk4 (i := 2 * R + 1) (by omega)
  replace hF := Lib.hid hF
  go_enter Tryd.func89, Tryd.ntmps89
  go_wp2_with fail
  refine (size_ok K R _ hk1 hk4 hR).mono ?_
  rintro e w' ⟨rfl, rfl⟩
  go_wp2_with fail
  have hb0 := belowAlloc w (.cells #[.int .i64 0, .int .i64 0, .slice none 0 0] 24)
  obtain ⟨tv, w1, hmk, ho1, hb1⟩ := run_makeI ((pw K (2 * R + 1) : Nat) : Int) (pw K (2 * R + 1)) (w.alloc (.cells #[.int .i64 0, .int .i64 0, .slice none 0 0] 24)) rfl (by omega)
  obtain ⟨ta, tn, tc, rfl⟩ := ho1.at.shape
  rw [hmk]
  simp only [Result.andThen]
  clear hmk
  generalize hN : 2 * R + 1 = N at *
  go_wp2_with fail
  obtain ⟨wv, w2, hmk2, ho2, hb2⟩ := run_makeI (2 * (R : Int) + 1) N (w1.alloc (.cells #[.int .i64 K, .int .i64 R, .slice ta tn tc] 24)) (by omega) (by omega)
  obtain ⟨wa, wn, wc, rfl⟩ := ho2.at.shape
  rw [hmk2]
  simp only [Result.andThen]
  clear hmk2
  obtain ⟨z0, z1, z2, -, -, -⟩ := cells3 hb2
  have lt := (ho1.at.len)
  rw [List.length_replicate] at lt
  have hN7 : N ≤ 7 := by omega
  replace hN := Lib.hid hN
  have ltb : ∀ k, (Value.slice ta tn tc).ownBlock = some k → k < w1.heap.size := fun k hk => (ho1.lt k hk).2
  have lwn := ho2.at.len
  rw [List.length_replicate] at lwn
  have ho1' := Lib.hid ((ho1.alloc (.cells #[.int .i64 K, .int .i64 R, .slice ta tn tc] 24)).below hb2)
  have zz := Lib.hid (And.intro z0 (And.intro z1 z2))
  have hbw := Lib.hid (hb1.trans ((Below.step (belowAlloc w1 (.cells #[.int .i64 K, .int .i64 R, .slice ta tn tc] 24)) hb2).mono hb1.size))
  replace ho2 := Lib.hid ho2
  replace ltb := Lib.hid ltb
  have hsz1 := hb1.size
  simp at hsz1
  have hM : pw K N = pw K N := rfl
  clear hM
  go_wp2
  go_loopw [32] (fun i wr => ∃ m : Nat, m ≤ pw K N ∧ i = .int .i64 m ∧ OwnI (w.heap.size + 1) wr (.slice ta tn tc) (madeP K N s m ++ List.replicate (pw K N - m) 0) ∧ (∃ p : List Int, p.length = N ∧ OwnI (w1.heap.size + 1) wr (.slice wa wn wc) p) ∧
      (wr.cell? ⟨w1.heap.size, 0, none⟩ = some (.int .i64 K) ∧ wr.cell? ⟨w1.heap.size, 1, none⟩ = some (.int .i64 R) ∧ wr.cell? ⟨w1.heap.size, 2, none⟩ = some (.slice ta tn tc)) ∧
      Below (w.heap.size + 1) (w.alloc (.cells #[.int .i64 0, .int .i64 0, .slice none 0 0] 24)) wr) (fun i _ => pw K N - (intOf i).toNat)
  case atStart => exact ⟨0, by omega, rfl, by simpa [madeP] using ho1'.out, ⟨List.replicate N 0, by simp, by simpa using ho2.out⟩, zz.out, by simpa using hbw.out⟩
  case round =>
    obtain ⟨m, hm, rfl, hT, ⟨p, hp, hP⟩, hz, hbO⟩ := hrel
    obtain ⟨wo, rfl⟩ : ∃ wo : World, wo = wr := ⟨_, rfl⟩
    replace hz := Lib.hid hz
    replace hT := Lib.hid hT
    by_cases hml : m < pw K N
    · have hsz2 : w1.heap.size < wo.heap.size := World.block_lt_of_cell? _ _ hz.out.1
      have hK0 : ((K : Int) == 0) = false := by rw [beq_eq_false_iff_ne]; omega
      have hK1 : ¬ (K : Int) = 0 := by omega
      have hK2 : (0 : Int) < K := by omega
      go_wp2
      go_loopw [12, 38] (fun x i wr => ∃ j : Nat, j ≤ N ∧ i = .int .i64 j ∧ x = .int .i64 (m / pw K j : Nat) ∧ OwnI (w1.heap.size + 1) wr (.slice wa wn wc) (p.take (N - j) ++ (digs K N m).drop (N - j)) ∧ Below (w1.heap.size + 1) wo wr) (fun _ i _ => N - (intOf i).toNat)
      case atStart => exact ⟨0, by omega, rfl, by simp [pw], by rw [Nat.sub_zero, List.drop_of_length_le (by rw [digs_length]; exact Nat.le_refl _), List.append_nil, List.take_of_length_le (by omega)]; exact hP, Below.refl _ _⟩
      case round =>
        obtain ⟨j, hj, rfl, rfl, hO, hbI⟩ := hrel
        obtain ⟨wi, rfl⟩ : ∃ wi : World, wi = wr := ⟨_, rfl⟩
        by_cases hjl : j < N
        · have hXl : (p.take (N - j) ++ (digs K N m).drop (N - j)).length = N := by simp [digs_length]; omega
          have i1 : ∀ w', (Instr.indexAt 22 (.slice wa wn wc) (.int .i64 ((N : Int) - 1 - (j : Int)))).run Tryd.prog w' = .ok (.pointer (some (valAt (.slice wa wn wc) (N - 1 - j)))) w' := by
            intro w'
            have := hO.at.idxI ((N : Int) - 1 - (j : Int)) (by omega) (by rw [hXl]; omega) w'
            rwa [show ((N : Int) - 1 - (j : Int)).toNat = N - 1 - j by omega] at this
          have c1 := hO.at.cellD (N - 1 - j) (by rw [hXl]; omega)
          have f1 := hO.frz (N - 1 - j) (by rw [hXl]; omega)
          have hS := hO.set (N - 1 - j) (by rw [hXl]; omega) ((m / pw K j % K : Nat) : Int)
          have hbS := hO.setBelow hbI (N - 1 - j) (by rw [hXl]; omega) (.int .i64 ((m / pw K j % K : Nat) : Int))
          rw [digs_fill K N m j hjl p hp] at hS
          replace hS := Lib.hid hS
          replace hbS := Lib.hid hbS
          have hqd : m / pw K j / K = m / pw K (j + 1) := by rw [Nat.div_div_eq_div_mul, ← pw_succ]
          replace hqd := Lib.hid hqd
          have hql : m / pw K j ≤ 16384 := Nat.le_trans (Nat.div_le_self _ _) (by omega)
          generalize (p.take (N - j) ++ (digs K N m).drop (N - j)).getD (N - 1 - j) 0 = y at c1
          clear hXl hO
          generalize m / pw K j = q at *
          rw [Int.natCast_emod] at hS hbS
          have hd0 : 0 ≤ (q : Int) / (K : Int) := Int.ediv_nonneg (by omega) (by omega)
          have hd1 : (q : Int) / (K : Int) ≤ 16384 := by
            have h1 : q / K ≤ q := Nat.div_le_self _ _
            have h2 : q / K ≤ 16384 := by omega
            exact_mod_cast h2
          have hdw : IntKind.i64.wrap ((q : Int) / (K : Int)) = (q : Int) / (K : Int) := wrapK (by omega) (by omega)
          go_wp2
          go_roundw
          case rel => exact ⟨j + 1, by omega, by go_num, by rw [← hqd.out]; simp, hS.out, hbS.out⟩
          case measure => simp [intOf]; omega
        · have hjN : j = N := by omega
          subst hjN
          rw [Nat.sub_self, List.take_zero, List.drop_zero, List.nil_append] at hO
          have hbW : Below w.heap.size w wi := ((belowAlloc w _).trans (hbO.mono (by omega))).trans (hbI.mono (by omega))
          have hz2 := hbI.cell (p := ⟨w1.heap.size, 2, none⟩) (by simp)
          have hTl : m < (madeP K j s m ++ List.replicate (pw K j - m) (0 : Int)).length := by simp [madeP_length]; omega
          have hTi := hT.out.belowB hbI (fun k hk => by have := ltb.out k hk; omega)
          have i2 := hTi.at.idx m hTl
          have c2 := hTi.at.cellD m hTl
          have f2 := hTi.frz m hTl
          have b2 := hTi.at.blk m hTl
          have z2i := hz2.trans hz.out.2.2
          have zbi : (⟨w1.heap.size, 2, none⟩ : Addr).block < wi.heap.size := World.block_lt_of_cell? _ _ z2i
          generalize (madeP K j s m ++ List.replicate (pw K j - m) (0 : Int)).getD m 0 = o at c2
          replace hTi := Lib.hid hTi
          replace hO := Lib.hid hO
          replace hbW := Lib.hid hbW
          replace hTl := Lib.hid hTl
          clear hz2
          have hvb : (valAt (.slice ta tn tc) m).block ≠ w1.heap.size := by
            have := ltb.out _ (hT.out.toV.blkB m (by simpa using hTl.out)).1
            omega
          have hdl : m + 1 ≤ pw K j := hml
          go_wp2
          go_region_held3 (fun w' => w'.cell? ⟨w1.heap.size, 2, none⟩ = some (.slice ta tn tc)) (go_keep)
            (first | (refine (hF.out _ (digs K j m) _ (by first | exact hbW.out.drew | exact hbW.out) (by first | exact hO.out.at.drew | exact hO.out.at) (digs_syms hk1 _ _) (by rw [digs_length])).mono ?_; rintro e w5 ⟨x5, rfl, hb5, rfl⟩; have y1 := (hb5.cell zbi).trans z2i; have y2 := (hb5.cell b2).trans c2; have y3 := (hb5.frozen b2).trans f2; have bb : Below wi.heap.size wi w5 := ((Below.refl _ _).drew).trans hb5))
          have hT5 := (hTi.out.drew.below hb5).set m hTl.out (s (digs K j m))
          rw [madeP_set K j s m _ hml] at hT5
          have hO5 := (hO.out.drew.below hb5).setOther (hTi.out.drew.below hb5) (by
            intro e
            have e1 := (hT.out.toV.blkB m (by simpa using hTl.out)).1
            have e2 := (hO.out.lt _ (e.trans e1)).1
            have e3 := ltb.out _ e1
            omega) m hTl.out (.int .i64 (s (digs K j m)))
          have hB5 := ((hbO.trans (hbI.mono (by omega))).trans (bb.mono (by omega))).setCell ((hTi.out.blkB m hTl.out)) (.int .i64 (s (digs K j m)))
          have x0 := (World.cell?_setCell_far w5 (valAt (.slice ta tn tc) m) ⟨w1.heap.size, 0, none⟩ (.int .i64 (s (digs K j m))) hvb).trans (((bb.cell (p := ⟨w1.heap.size, 0, none⟩) zbi)).trans ((hbI.cell (p := ⟨w1.heap.size, 0, none⟩) (by simp)).trans hz.out.1))
          have x1 := (World.cell?_setCell_far w5 (valAt (.slice ta tn tc) m) ⟨w1.heap.size, 1, none⟩ (.int .i64 (s (digs K j m))) hvb).trans (((bb.cell (p := ⟨w1.heap.size, 1, none⟩) zbi)).trans ((hbI.cell (p := ⟨w1.heap.size, 1, none⟩) (by simp)).trans hz.out.2.1))
          have x2 := (World.cell?_setCell_far w5 (valAt (.slice ta tn tc) m) ⟨w1.heap.size, 2, none⟩ (.int .i64 (s (digs K j m))) hvb).trans y1
          have xx := Lib.hid (And.intro x0 (And.intro x1 x2))
          clear x0 x1 x2
          replace hT5 := Lib.hid hT5
          replace hO5 := Lib.hid hO5
          replace hB5 := Lib.hid hB5
          go_wp2
          go_roundw
          case rel => exact ⟨m + 1, by omega, by go_num, hT5.out, ⟨digs K j m, digs_length .., hO5.out⟩, xx.out, hB5.out⟩
          case measure => simp [intOf]; omega
    · obtain rfl : m = pw K N := by omega
      rw [Nat.sub_self, List.replicate_zero, List.append_nil] at hT
      obtain ⟨z0, z1, z2⟩ := hz.out
      obtain ⟨y0, y1, y2, f0, f1, f2⟩ := cells3 (w := w) (show Below (w.alloc (.cells #[.int .i64 0, .int .i64 0, .slice none 0 0] 24)).heap.size _ wo by simpa using hbO)
      replace hbO := Lib.hid hbO
      go_wp2
      refine bodyPost_ret (v := .agg #[.int .i64 K, .int .i64 R, .slice ta tn tc]) (by simp [results, Tryd.results89, go_sem, y0, y1, y2]) rfl ⟨_, rfl, ?_, ta, tn, tc, rfl, ?_⟩
      · exact (((belowAlloc w _).trans (hbO.out.mono (by omega))).setCell (by simp) _).setCell (by simp) _ |>.setCell (by simp) _
      · rw [hN.out]; exact (((hT.out.setBelowBase (a := ⟨w.heap.size, 0, none⟩) (by simp) _).setBelowBase (a := ⟨w.heap.size, 1, none⟩) (by simp) _).setBelowBase (a := ⟨w.heap.size, 2, none⟩) (by simp) _).mono (Nat.le_succ _)

theorem made_one (K R F : Nat) (c1 : Value) (s : List Int → Int) (w : World) (hk1 : 1 ≤ K) (hk4 : K ≤ 4) (hR : R ≤ 3) (Ri : Int) (hRi : Ri = R)
    (eg : ∀ args w, (callFunc F args).run Tryd.prog w = .ok (.enter F args) w)
    (hF : ∀ (v : Value) (ys : List Int) (w' : World), Below w.heap.size w w' → IntsAt w' v ys → Syms K ys → ys.length = 2 * R + 1 → Calls Tryd.prog F #[v, c1] w' (Ret1 (fun x _ => x = .int .i64 (s ys)) w')) :
    Calls Tryd.prog 89 #[.int .i64 K, .int .i64 Ri, .func (.func F) #[] #[c1]] w (Ret1 (fun x w' => ∃ a n c, x = .agg #[.int .i64 K, .int .i64 R, .slice a n c] ∧ OwnI w.heap.size w' (.slice a n c) (madeP K (2 * R + 1) s (pw K (2 * R + 1)))) w) := by
  subst hRi
  exact made_one0 K R F c1 s w hk1 hk4 hR eg hF
end Go.Proofs.YtmddapkhipmlgaaDoor

namespace Go.Proofs.YtmddapkhipmlgaaDoor
open Go.RowKit
set_option maxRecDepth 100000

abbrev zR : Value := .agg #[.int .i64 0, .int .i64 0, .slice none 0 0]
def sForms : ByteArray := ⟨#[102, 111, 114, 109, 115]⟩
theorem madeP_behind (K R1 : Nat) (T1 : List Int) (R2 : Nat) (T2 : List Int) :
    madeP K (2 * (R1 + R2) + 1) (fun ys => T1.getD (numW K (imgP K R2 T2 ys)) 0) (pw K (2 * (R1 + R2) + 1)) = behindT K R1 T1 R2 T2 := rfl

theorem eg_behind1 (args : Array Value) (w : World) : (callFunc 101 args).run Tryd.prog w = .ok (.enter 101 args) w := by kernel_rfl

set_option maxHeartbeats 800000 in
theorem behind_any (K R1 R2 : Nat) (va : Option Addr) (vn vc : Nat) (T1 : List Int) (ua : Option Addr) (un uc : Nat) (T2 : List Int) (w : World)
    (h1 : IntsAt w (.slice va vn vc) T1) (hr1 : RuleOk K R1 T1) (h2 : IntsAt w (.slice ua un uc) T2) (hr2 : RuleOk K R2 T2) (hR : R1 + R2 ≤ 3) :
    Calls Tryd.prog 61 #[.agg #[.int .i64 K, .int .i64 R1, .slice va vn vc], .agg #[.int .i64 K, .int .i64 R2, .slice ua un uc]] w
      (Ret1 (fun x w' => ∃ a n c, x = .agg #[.int .i64 K, .int .i64 ((R1 + R2 : Nat) : Int), .slice a n c] ∧ OwnI w.heap.size w' (.slice a n c) (behindT K R1 T1 R2 T2)) w) := by
  have hk1 := hr1.k1
  have hk4 := hr1.k4
  have b0 := belowAlloc w (.cells #[.int .i64 K, .int .i64 R1, .slice va vn vc] 24)
  have b1 := Below.step (Below.step b0 (belowAlloc _ (.cells #[.int .i64 K, .int .i64 R2, .slice ua un uc] 24))) (belowAlloc _ (.cells #[.int .i64 0, .int .i64 0, .slice none 0 0] 24))
  replace h1 := Lib.hid (h1.below b1)
  replace h2 := Lib.hid (h2.below b1)
  replace hr1 := Lib.hid hr1
  replace hr2 := Lib.hid hr2
  go_enter Tryd.func61, Tryd.ntmps61
  go_wp2_with fail
  refine (made_two K (R1 + R2) 101 _ _ (fun ys => T1.getD (numW K (imgP K R2 T2 ys)) 0) _ hk1 hk4 hR _ (by omega) eg_behind1 ?_).mono ?_
  · intro v ys w' hb hv hy hyl
    obtain ⟨x0, x1, x2⟩ := keep3 (n := w.heap.size + 1) (a := .int .i64 K) (b := .int .i64 R2) (c := .slice ua un uc) hb ⟨by simp [go_sem], by simp [go_sem], by simp [go_sem]⟩
    obtain ⟨y0, y1, y2⟩ := keep3 (n := w.heap.size) (a := .int .i64 K) (b := .int .i64 R1) (c := .slice va vn vc) hb ⟨by simp [go_sem], by simp [go_sem], by simp [go_sem]⟩
    exact behind1_any K R1 R2 va vn vc T1 ua un uc T2 _ _ v ys w' (h1.out.below hb) hr1.out (h2.out.below hb) hr2.out hv hy hyl x0 x1 x2 y0 y1 y2
  · rintro e w1 ⟨x, rfl, hb, a, n, c, rfl, ho⟩
    rw [madeP_behind] at ho
    replace ho := Lib.hid ho
    obtain ⟨y0, y1, y2, f0, f1, f2⟩ := cells3 hb
    rw [show ((w.alloc (.cells #[.int .i64 K, .int .i64 R1, .slice va vn vc] 24)).alloc (.cells #[.int .i64 K, .int .i64 R2, .slice ua un uc] 24)).heap.size = w.heap.size + 1 + 1 by simp] at y0 y1 y2 f0 f1 f2
    go_wp2
    refine bodyPost_ret (v := .agg #[.int .i64 K, .int .i64 ((R1 + R2 : Nat) : Int), .slice a n c]) (by simp [results, Tryd.results61, go_sem, y0, y1, y2]) rfl ⟨_, rfl, ?_, a, n, c, rfl, ?_⟩
    · exact (((Below.step b1 hb).setCell (by simp; omega) _).setCell (by simp; omega) _).setCell (by simp; omega) _
    · exact (((ho.out.setBelowBase (a := ⟨w.heap.size + 1 + 1, 0, none⟩) (by simp) _).setBelowBase (a := ⟨w.heap.size + 1 + 1, 1, none⟩) (by simp) _).setBelowBase (a := ⟨w.heap.size + 1 + 1, 2, none⟩) (by simp) _).mono (by simp; omega)

theorem forms_wrong (r : Nat → Addr) (at_ n : Int) (w : World) (hg : Glob r w) (h1 : 1 ≤ n) (h2 : n ≤ 11) :
    Calls Tryd.prog 60 #[.int .i64 at_, .int .i64 n] w (Ret1 (fun v w' => ErrIs r w' (fresh sForms at_ n) v) w) := by
  go_enter Tryd.func60, Tryd.ntmps60
  go_wp2_with fail
  refine (new_any r _ at_ n w hg h1 h2).mono ?_
  rintro e w' ⟨v, rfl, hb, he⟩
  go_wp2
  go_ret
  exact ⟨_, rfl, hb, he⟩

theorem forms_check (r : Nat → Addr) (at_ : Int) (k R : Int) (va : Option Addr) (vn vc : Nat) (xs : List Int) (w : World) (hg : Glob r w) (h : IntsAt w (.slice va vn vc) xs) :
    Calls Tryd.prog 59 #[.int .i64 at_, .agg #[.int .i64 k, .int .i64 R, .slice va vn vc]] w (Ret1 (fun x w' => ErrIs r w' (under sForms at_ (checkP k R xs)) x) w) := by
  have hb0 := belowAlloc w (.cells #[.int .i64 k, .int .i64 R, .slice va vn vc] 24)
  replace hg := Lib.hid (hg.below hb0)
  replace h := Lib.hid (h.below hb0)
  go_enter Tryd.func59, Tryd.ntmps59
  go_wp2_with fail
  refine (check_any r k R _ xs _ hg.out h.out).mono ?_
  rintro e w1 ⟨x, rfl, hb, he⟩
  go_wp2_with fail
  refine (under_any r _ _ _ _ _ he).mono ?_
  rintro e w2 ⟨x, rfl, hb', he⟩
  go_wp2
  go_ret
  exact ⟨_, rfl, Below.step hb0 (Below.step hb hb'), he⟩

/-- forms.Compose's fault. -/
def composeP (k R : Int) (T : List Int) (k' R' : Int) (T' : List Int) : PErr :=
  match checkP k R T with
  | some t => under sForms 0 (some t)
  | none => match checkP k' R' T' with
    | some t => under sForms 1 (some t)
    | none => if k ≠ k' then fresh sForms 1 3 else if 3 < R + R' then fresh sForms 0 4 else none


/-- Two rules boxed, and a result's variable: their cells stay. -/
theorem cells9 {w w1 : World} {x0 x1 x2 x3 x4 x5 x6 x7 x8 : Value} {T1 T2 T3 : TypeId} (hb : Below (((w.alloc (.cells #[x0, x1, x2] T1)).alloc (.cells #[x3, x4, x5] T2)).alloc (.cells #[x6, x7, x8] T3)).heap.size (((w.alloc (.cells #[x0, x1, x2] T1)).alloc (.cells #[x3, x4, x5] T2)).alloc (.cells #[x6, x7, x8] T3)) w1) :
    (w1.cell? ⟨w.heap.size, 0, none⟩ = some x0 ∧ w1.cell? ⟨w.heap.size, 1, none⟩ = some x1 ∧ w1.cell? ⟨w.heap.size, 2, none⟩ = some x2) ∧
    (w1.cell? ⟨w.heap.size + 1, 0, none⟩ = some x3 ∧ w1.cell? ⟨w.heap.size + 1, 1, none⟩ = some x4 ∧ w1.cell? ⟨w.heap.size + 1, 2, none⟩ = some x5) ∧
    (w1.cell? ⟨w.heap.size + 1 + 1, 0, none⟩ = some x6 ∧ w1.cell? ⟨w.heap.size + 1 + 1, 1, none⟩ = some x7 ∧ w1.cell? ⟨w.heap.size + 1 + 1, 2, none⟩ = some x8) ∧
    (w1.frozen? ⟨w.heap.size + 1 + 1, 0, none⟩ = false ∧ w1.frozen? ⟨w.heap.size + 1 + 1, 1, none⟩ = false ∧ w1.frozen? ⟨w.heap.size + 1 + 1, 2, none⟩ = false) := by
  refine ⟨keep3 (n := w.heap.size) hb ⟨by simp [go_sem], by simp [go_sem], by simp [go_sem]⟩, keep3 (n := w.heap.size + 1) hb ⟨by simp [go_sem], by simp [go_sem], by simp [go_sem]⟩, ?_⟩
  have := cells3 hb
  rw [show ((w.alloc (.cells #[x0, x1, x2] T1)).alloc (.cells #[x3, x4, x5] T2)).heap.size = w.heap.size + 1 + 1 by simp] at this
  exact ⟨⟨this.1, this.2.1, this.2.2.1⟩, this.2.2.2⟩

set_option maxHeartbeats 800000 in
theorem compose_bad1 (r : Nat → Addr) (k R : Int) (va : Option Addr) (vn vc : Nat) (T : List Int) (k' R' : Int) (ua : Option Addr) (un uc : Nat) (t : Int × List (ByteArray × Int)) (w : World) (hg : Glob r w)
    (h : IntsAt w (.slice va vn vc) T) (hc : checkP k R T = some t) :
    Calls Tryd.prog 25 #[.agg #[.int .i64 k, .int .i64 R, .slice va vn vc], .agg #[.int .i64 k', .int .i64 R', .slice ua un uc]] w (Ret2 (fun x y w' => x = zR ∧ ErrIs r w' (under sForms 0 (some t)) y) w) := by
  replace hc := Lib.hid hc
  have b1 := Below.step (Below.step (belowAlloc w (.cells #[.int .i64 k, .int .i64 R, .slice va vn vc] 24)) (belowAlloc _ (.cells #[.int .i64 k', .int .i64 R', .slice ua un uc] 24))) (belowAlloc _ (.cells #[.int .i64 0, .int .i64 0, .slice none 0 0] 24))
  replace hg := Lib.hid (hg.below b1)
  replace h := Lib.hid (h.below b1)
  go_enter Tryd.func25, Tryd.ntmps25
  go_wp2_with fail
  refine (forms_check r _ k R va vn vc T _ hg.out h.out).mono ?_
  rintro e w1 ⟨x, rfl, hb, he⟩
  rw [hc.out] at he
  obtain ⟨T1, a1, rfl⟩ := ErrIs.some_shape he
  replace he := Lib.hid he
  obtain ⟨-, -, ⟨y0, y1, y2⟩, f0, f1, f2⟩ := cells9 hb
  go_wp2
  rw [setCell_self3 y0 y1 y2]
  exact bodyPost_ret (v := .tuple #[zR, .iface T1 (.pointer (some a1))]) (by simp [results, Tryd.results25, go_sem, y0, y1, y2]) rfl ⟨_, _, rfl, Below.step b1 hb, rfl, he.out⟩

set_option maxHeartbeats 800000 in
theorem compose_bad2 (r : Nat → Addr) (k R : Int) (va : Option Addr) (vn vc : Nat) (T : List Int) (k' R' : Int) (ua : Option Addr) (un uc : Nat) (T' : List Int) (t : Int × List (ByteArray × Int)) (w : World) (hg : Glob r w)
    (h : IntsAt w (.slice va vn vc) T) (h' : IntsAt w (.slice ua un uc) T') (hc : checkP k R T = none) (hc' : checkP k' R' T' = some t) :
    Calls Tryd.prog 25 #[.agg #[.int .i64 k, .int .i64 R, .slice va vn vc], .agg #[.int .i64 k', .int .i64 R', .slice ua un uc]] w (Ret2 (fun x y w' => x = zR ∧ ErrIs r w' (under sForms 1 (some t)) y) w) := by
  replace hc := Lib.hid hc
  replace hc' := Lib.hid hc'
  have b1 := Below.step (Below.step (belowAlloc w (.cells #[.int .i64 k, .int .i64 R, .slice va vn vc] 24)) (belowAlloc _ (.cells #[.int .i64 k', .int .i64 R', .slice ua un uc] 24))) (belowAlloc _ (.cells #[.int .i64 0, .int .i64 0, .slice none 0 0] 24))
  replace hg := Lib.hid (hg.below b1)
  replace h := Lib.hid (h.below b1)
  replace h' := Lib.hid (h'.below b1)
  go_enter Tryd.func25, Tryd.ntmps25
  go_wp2_with fail
  refine (forms_check r _ k R va vn vc T _ hg.out h.out).mono ?_
  rintro e w1 ⟨x, rfl, hb, he⟩
  rw [hc.out] at he
  obtain rfl := ErrIs.none_eq he
  clear he
  obtain ⟨⟨x0, x1, x2⟩, ⟨z0, z1, z2⟩, ⟨y0, y1, y2⟩, f0, f1, f2⟩ := cells9 hb
  go_wp2_with fail
  refine (forms_check r _ k' R' ua un uc T' _ (hg.out.below hb) (h'.out.below hb)).mono ?_
  rintro e w2 ⟨x, rfl, hb', he⟩
  rw [hc'.out] at he
  clear x0 x1 x2 z0 z1 z2 y0 y1 y2 f0 f1 f2
  obtain ⟨-, -, ⟨y0, y1, y2⟩, f0, f1, f2⟩ := cells9 (Below.step hb hb')
  obtain ⟨T1, a1, rfl⟩ := ErrIs.some_shape he
  replace he := Lib.hid he
  go_wp2
  rw [setCell_self3 y0 y1 y2]
  exact bodyPost_ret (v := .tuple #[zR, .iface T1 (.pointer (some a1))]) (by simp [results, Tryd.results25, go_sem, y0, y1, y2]) rfl ⟨_, _, rfl, Below.step b1 (Below.step hb hb'), rfl, he.out⟩

set_option maxHeartbeats 800000 in
theorem compose_bad3 (r : Nat → Addr) (k R : Int) (va : Option Addr) (vn vc : Nat) (T : List Int) (k' R' : Int) (ua : Option Addr) (un uc : Nat) (T' : List Int) (w : World) (hg : Glob r w)
    (h : IntsAt w (.slice va vn vc) T) (h' : IntsAt w (.slice ua un uc) T') (hc : checkP k R T = none) (hc' : checkP k' R' T' = none) (hk : k ≠ k') :
    Calls Tryd.prog 25 #[.agg #[.int .i64 k, .int .i64 R, .slice va vn vc], .agg #[.int .i64 k', .int .i64 R', .slice ua un uc]] w (Ret2 (fun x y w' => x = zR ∧ ErrIs r w' (fresh sForms 1 3) y) w) := by
  replace hc := Lib.hid hc
  replace hc' := Lib.hid hc'
  have hkb : (k != k') = true := by rw [bne_iff_ne]; exact hk
  clear hk
  have b1 := Below.step (Below.step (belowAlloc w (.cells #[.int .i64 k, .int .i64 R, .slice va vn vc] 24)) (belowAlloc _ (.cells #[.int .i64 k', .int .i64 R', .slice ua un uc] 24))) (belowAlloc _ (.cells #[.int .i64 0, .int .i64 0, .slice none 0 0] 24))
  replace hg := Lib.hid (hg.below b1)
  replace h := Lib.hid (h.below b1)
  replace h' := Lib.hid (h'.below b1)
  go_enter Tryd.func25, Tryd.ntmps25
  go_wp2_with fail
  refine (forms_check r _ k R va vn vc T _ hg.out h.out).mono ?_
  rintro e w1 ⟨x, rfl, hb, he⟩
  rw [hc.out] at he
  obtain rfl := ErrIs.none_eq he
  clear he
  obtain ⟨⟨x0, x1, x2⟩, ⟨z0, z1, z2⟩, ⟨y0, y1, y2⟩, f0, f1, f2⟩ := cells9 hb
  go_wp2_with fail
  refine (forms_check r _ k' R' ua un uc T' _ (hg.out.below hb) (h'.out.below hb)).mono ?_
  rintro e w2 ⟨x, rfl, hb', he⟩
  rw [hc'.out] at he
  obtain rfl := ErrIs.none_eq he
  clear x0 x1 x2 z0 z1 z2 y0 y1 y2 f0 f1 f2 he
  obtain ⟨⟨x0, x1, x2⟩, ⟨z0, z1, z2⟩, ⟨y0, y1, y2⟩, f0, f1, f2⟩ := cells9 (Below.step hb hb')
  go_wp2_with fail
  refine (forms_wrong r _ _ _ ((hg.out.below hb).below hb') (by decide) (by decide)).mono ?_
  rintro e w3 ⟨x, rfl, hb3, he⟩
  clear x0 x1 x2 z0 z1 z2 y0 y1 y2 f0 f1 f2
  obtain ⟨-, -, ⟨y0, y1, y2⟩, f0, f1, f2⟩ := cells9 (Below.step (Below.step hb hb') hb3)
  obtain ⟨T1, a1, rfl⟩ := ErrIs.some_shape he
  replace he := Lib.hid he
  go_wp2
  rw [setCell_self3 y0 y1 y2]
  exact bodyPost_ret (v := .tuple #[zR, .iface T1 (.pointer (some a1))]) (by simp [results, Tryd.results25, go_sem, y0, y1, y2]) rfl ⟨_, _, rfl, Below.step b1 (Below.step (Below.step hb hb') hb3), rfl, he.out⟩

set_option maxHeartbeats 800000 in
theorem compose_bad4 (r : Nat → Addr) (K Q Q' : Nat) (va : Option Addr) (vn vc : Nat) (T : List Int) (ua : Option Addr) (un uc : Nat) (T' : List Int) (w : World) (hg : Glob r w)
    (h : IntsAt w (.slice va vn vc) T) (h' : IntsAt w (.slice ua un uc) T') (hc : RuleOk K Q T) (hc' : RuleOk K Q' T') (hR : 3 < Q + Q') :
    Calls Tryd.prog 25 #[.agg #[.int .i64 K, .int .i64 Q, .slice va vn vc], .agg #[.int .i64 K, .int .i64 Q', .slice ua un uc]] w (Ret2 (fun x y w' => x = zR ∧ ErrIs r w' (fresh sForms 0 4) y) w) := by
  have hq := hc.r3
  have hq' := hc'.r3
  have hRi : (3 : Int) < (Q : Int) + (Q' : Int) := by omega
  replace hc := hc.check
  replace hc' := hc'.check
  obtain ⟨k, hk⟩ : ∃ k : Int, k = K := ⟨_, rfl⟩
  obtain ⟨R, hr⟩ : ∃ k : Int, k = Q := ⟨_, rfl⟩
  obtain ⟨R', hr'⟩ : ∃ k : Int, k = Q' := ⟨_, rfl⟩
  have hr0 : 0 ≤ R := by omega
  have hr3 : R ≤ 3 := by omega
  have hr0' : 0 ≤ R' := by omega
  have hr3' : R' ≤ 3 := by omega
  rw [← hk, ← hr] at hc
  rw [← hk, ← hr'] at hc'
  rw [← hr, ← hr'] at hRi
  rw [← hk, ← hr, ← hr']
  clear hk hr hr'
  replace hc := Lib.hid hc
  replace hc' := Lib.hid hc'
  have hkb : (k != k) = false := by simp
  have b1 := Below.step (Below.step (belowAlloc w (.cells #[.int .i64 k, .int .i64 R, .slice va vn vc] 24)) (belowAlloc _ (.cells #[.int .i64 k, .int .i64 R', .slice ua un uc] 24))) (belowAlloc _ (.cells #[.int .i64 0, .int .i64 0, .slice none 0 0] 24))
  replace hg := Lib.hid (hg.below b1)
  replace h := Lib.hid (h.below b1)
  replace h' := Lib.hid (h'.below b1)
  go_enter Tryd.func25, Tryd.ntmps25
  go_wp2_with fail
  refine (forms_check r _ k R va vn vc T _ hg.out h.out).mono ?_
  rintro e w1 ⟨x, rfl, hb, he⟩
  rw [hc.out] at he
  obtain rfl := ErrIs.none_eq he
  clear he
  obtain ⟨⟨x0, x1, x2⟩, ⟨z0, z1, z2⟩, ⟨y0, y1, y2⟩, f0, f1, f2⟩ := cells9 hb
  go_wp2_with fail
  refine (forms_check r _ k R' ua un uc T' _ (hg.out.below hb) (h'.out.below hb)).mono ?_
  rintro e w2 ⟨x, rfl, hb', he⟩
  rw [hc'.out] at he
  obtain rfl := ErrIs.none_eq he
  clear x0 x1 x2 z0 z1 z2 y0 y1 y2 f0 f1 f2 he
  obtain ⟨⟨x0, x1, x2⟩, ⟨z0, z1, z2⟩, ⟨y0, y1, y2⟩, f0, f1, f2⟩ := cells9 (Below.step hb hb')
  go_wp2_with fail
  refine (forms_wrong r _ _ _ ((hg.out.below hb).below hb') (by decide) (by decide)).mono ?_
  rintro e w3 ⟨x, rfl, hb3, he⟩
  clear x0 x1 x2 z0 z1 z2 y0 y1 y2 f0 f1 f2
  obtain ⟨-, -, ⟨y0, y1, y2⟩, f0, f1, f2⟩ := cells9 (Below.step (Below.step hb hb') hb3)
  obtain ⟨T1, a1, rfl⟩ := ErrIs.some_shape he
  replace he := Lib.hid he
  go_wp2
  rw [setCell_self3 y0 y1 y2]
  exact bodyPost_ret (v := .tuple #[zR, .iface T1 (.pointer (some a1))]) (by simp [results, Tryd.results25, go_sem, y0, y1, y2]) rfl ⟨_, _, rfl, Below.step b1 (Below.step (Below.step hb hb') hb3), rfl, he.out⟩

set_option maxHeartbeats 800000 in
theorem compose_ok (r : Nat → Addr) (K Q Q' : Nat) (va : Option Addr) (vn vc : Nat) (T : List Int) (ua : Option Addr) (un uc : Nat) (T' : List Int) (w : World) (hg : Glob r w)
    (h : IntsAt w (.slice va vn vc) T) (h' : IntsAt w (.slice ua un uc) T') (hc : RuleOk K Q T) (hc' : RuleOk K Q' T') (hR : Q + Q' ≤ 3) :
    Calls Tryd.prog 25 #[.agg #[.int .i64 K, .int .i64 Q, .slice va vn vc], .agg #[.int .i64 K, .int .i64 Q', .slice ua un uc]] w (Ret2 (fun x y w' => y = .nilIface ∧ ∃ a n c, x = .agg #[.int .i64 K, .int .i64 ((Q + Q' : Nat) : Int), .slice a n c] ∧ OwnI w.heap.size w' (.slice a n c) (behindT K Q T Q' T')) w) := by
  have b1 := Below.step (Below.step (belowAlloc w (.cells #[.int .i64 K, .int .i64 Q, .slice va vn vc] 24)) (belowAlloc _ (.cells #[.int .i64 K, .int .i64 Q', .slice ua un uc] 24))) (belowAlloc _ (.cells #[.int .i64 0, .int .i64 0, .slice none 0 0] 24))
  have hRi : (Q : Int) + (Q' : Int) ≤ 3 := by omega
  have hkb : ((K : Int) != (K : Int)) = false := by simp
  have d1 := Lib.hid hc.check
  have d2 := Lib.hid hc'.check
  replace hc := Lib.hid hc
  replace hc' := Lib.hid hc'
  replace hg := Lib.hid (hg.below b1)
  replace h := Lib.hid (h.below b1)
  replace h' := Lib.hid (h'.below b1)
  go_enter Tryd.func25, Tryd.ntmps25
  go_wp2_with fail
  refine (forms_check r _ K Q va vn vc T _ hg.out h.out).mono ?_
  rintro e w1 ⟨x, rfl, hb, he⟩
  rw [d1.out] at he
  obtain rfl := ErrIs.none_eq he
  clear he
  obtain ⟨⟨x0, x1, x2⟩, ⟨z0, z1, z2⟩, ⟨y0, y1, y2⟩, f0, f1, f2⟩ := cells9 hb
  go_wp2_with fail
  refine (forms_check r _ K Q' ua un uc T' _ (hg.out.below hb) (h'.out.below hb)).mono ?_
  rintro e w2 ⟨x, rfl, hb', he⟩
  rw [d2.out] at he
  obtain rfl := ErrIs.none_eq he
  clear x0 x1 x2 z0 z1 z2 y0 y1 y2 f0 f1 f2 he
  have hb2 := Below.step hb hb'
  obtain ⟨⟨x0, x1, x2⟩, ⟨z0, z1, z2⟩, ⟨y0, y1, y2⟩, f0, f1, f2⟩ := cells9 hb2
  go_wp2_with fail
  refine (behind_any K Q Q' va vn vc T ua un uc T' _ (h.out.below hb2) hc.out (h'.out.below hb2) hc'.out hR).mono ?_
  rintro e w3 ⟨x, rfl, hb3, a, n, c, rfl, ho⟩
  clear x0 x1 x2 z0 z1 z2 y0 y1 y2 f0 f1 f2
  obtain ⟨-, -, ⟨y0, y1, y2⟩, f0, f1, f2⟩ := cells9 (Below.step hb2 hb3)
  have hsz := hb2.size
  simp at hsz
  replace ho := Lib.hid ho
  go_wp2
  refine bodyPost_ret (v := .tuple #[.agg #[.int .i64 K, .int .i64 ((Q + Q' : Nat) : Int), .slice a n c], .nilIface]) (by simp [results, Tryd.results25, go_sem, y0, y1, y2]) rfl ⟨_, _, rfl, ?_, rfl, a, n, c, rfl, ?_⟩
  · exact (((Below.step b1 (Below.step hb2 hb3)).setCell (by simp; omega) _).setCell (by simp; omega) _).setCell (by simp; omega) _
  · exact (((ho.out.setBelowBase (a := ⟨w.heap.size + 1 + 1, 0, none⟩) (by simp; omega) _).setBelowBase (a := ⟨w.heap.size + 1 + 1, 1, none⟩) (by simp; omega) _).setBelowBase (a := ⟨w.heap.size + 1 + 1, 2, none⟩) (by simp; omega) _).mono (by omega)

/-- forms.Compose at all rules. -/
theorem compose_any (r : Nat → Addr) (k R : Int) (va : Option Addr) (vn vc : Nat) (T : List Int) (k' R' : Int) (ua : Option Addr) (un uc : Nat) (T' : List Int) (w : World) (hg : Glob r w)
    (h : IntsAt w (.slice va vn vc) T) (h' : IntsAt w (.slice ua un uc) T') :
    Calls Tryd.prog 25 #[.agg #[.int .i64 k, .int .i64 R, .slice va vn vc], .agg #[.int .i64 k', .int .i64 R', .slice ua un uc]] w (Ret2 (fun x y w' => ErrIs r w' (composeP k R T k' R' T') y ∧ (composeP k R T k' R' T' ≠ none → x = zR) ∧
      (composeP k R T k' R' T' = none → ∃ a n c, x = .agg #[.int .i64 k, .int .i64 (R + R'), .slice a n c] ∧ OwnI w.heap.size w' (.slice a n c) (behindT k.toNat R.toNat T R'.toNat T'))) w) := by
  cases hc : checkP k R T with
  | some t =>
    have e : composeP k R T k' R' T' = under sForms 0 (some t) := by simp [composeP, hc]
    refine (compose_bad1 r k R va vn vc T k' R' ua un uc t w hg h hc).mono ?_
    rintro _ w' ⟨x, y, he, hb, hx, hy⟩
    exact ⟨x, y, he, hb, by rw [e]; exact hy, fun _ => hx, (fun q => by rw [e] at q; cases q)⟩
  | none =>
    cases hc' : checkP k' R' T' with
    | some t =>
      have e : composeP k R T k' R' T' = under sForms 1 (some t) := by simp [composeP, hc, hc']
      refine (compose_bad2 r k R va vn vc T k' R' ua un uc T' t w hg h h' hc hc').mono ?_
      rintro _ w' ⟨x, y, he, hb, hx, hy⟩
      exact ⟨x, y, he, hb, by rw [e]; exact hy, fun _ => hx, (fun q => by rw [e] at q; cases q)⟩
    | none =>
      by_cases hk : k = k'
      case neg =>
        have e : composeP k R T k' R' T' = fresh sForms 1 3 := by simp [composeP, hc, hc', hk]
        refine (compose_bad3 r k R va vn vc T k' R' ua un uc T' w hg h h' hc hc' hk).mono ?_
        rintro _ w' ⟨x, y, he, hb, hx, hy⟩
        exact ⟨x, y, he, hb, by rw [e]; exact hy, fun _ => hx, (fun q => by rw [e] at q; cases q)⟩
      subst hk
      obtain ⟨K, Q, rfl, rfl, hok⟩ := checkP_none hc
      obtain ⟨K', Q', hK, rfl, hok'⟩ := checkP_none hc'
      obtain rfl : K = K' := by omega
      by_cases hR : Q + Q' ≤ 3
      · have e : composeP K Q T K Q' T' = none := by
          simp only [composeP, hc, hc']
          rw [if_neg (by simp), if_neg (by omega)]
        refine (compose_ok r K Q Q' va vn vc T ua un uc T' w hg h h' hok hok' hR).mono ?_
        rintro _ w' ⟨x, y, he, hb, hy, a, n, c, hx, ho⟩
        exact ⟨x, y, he, hb, by rw [e]; exact hy, fun q => absurd e q, fun _ => ⟨a, n, c, by rw [hx]; simp, by simpa using ho⟩⟩
      · have e : composeP K Q T K Q' T' = fresh sForms 0 4 := by
          simp only [composeP, hc, hc']
          rw [if_neg (by simp), if_pos (by omega)]
        refine (compose_bad4 r K Q Q' va vn vc T ua un uc T' w hg h h' hok hok' (by omega)).mono ?_
        rintro _ w' ⟨x, y, he, hb, hx, hy⟩
        exact ⟨x, y, he, hb, by rw [e]; exact hy, fun _ => hx, (fun q => by rw [e] at q; cases q)⟩
end Go.Proofs.YtmddapkhipmlgaaDoor

namespace Go.Proofs.YtmddapkhipmlgaaDoor
open Go.RowKit Go.Shelf
set_option maxRecDepth 100000

def Tryd.laysRev_ren : Go.Shelf.Ren := ⟨fun | 112 => 58 | n => n, fun | 28 => 22 | 3 => 3 | 4 => 4 | 0 => 0 | n => n, fun | n => n⟩
theorem Tryd.laysRev : Go.Proofs.Lays.n112 Tryd.prog Tryd.laysRev_ren := {
  mixed := by kernel_rfl
  f112 := Tryd.func58.trans (congrArg some (by kernel_rfl))
  t0 := Tryd.underlying0
  a0 := Tryd.isAgg0
  z0 := Tryd.sizeOf0
  v0 := Tryd.zeroValue0
  t3 := Tryd.underlying3
  a3 := Tryd.isAgg3
  z3 := Tryd.sizeOf3
  v3 := Tryd.zeroValue3
  t4 := Tryd.underlying4
  a4 := Tryd.isAgg4
  z4 := Tryd.sizeOf4
  v4 := Tryd.zeroValue4
  t28 := Tryd.underlying22
  a28 := Tryd.isAgg22
  z28 := Tryd.sizeOf22
  v28 := Tryd.zeroValue22 }

theorem setCells_own {B g n cap : Nat} {w0 : World} : ∀ (zs : List Int) (o : Nat) (xs : List Int) (w : World), xs.length = n → o + zs.length ≤ n → OwnI B w (.slice (some ⟨g, 0, none⟩) n cap) xs → Below B w0 w →
    OwnI B (w.setCells g o (zs.map (Value.int .i64))) (.slice (some ⟨g, 0, none⟩) n cap) (xs.take o ++ zs ++ xs.drop (o + zs.length)) ∧ Below B w0 (w.setCells g o (zs.map (Value.int .i64)))
  | [], o, xs, w, _, _, h, hb => ⟨by simpa [World.setCells] using h, hb⟩
  | z :: r, o, xs, w, hn, ho, h, hb => by
    have hol : o < xs.length := by simp at ho; omega
    have h1 := h.set o hol z
    have h2 := h.setBelow hb o hol (.int .i64 z)
    rw [valAt_row] at h1 h2
    have ih := setCells_own r (o + 1) (xs.set o z) _ (by simpa using hn) (by simp at ho; omega) h1 h2
    have e : (xs.set o z).take (o + 1) ++ r ++ (xs.set o z).drop (o + 1 + r.length) = xs.take o ++ (z :: r) ++ xs.drop (o + (z :: r).length) := by
      rw [List.take_set, List.drop_set_of_lt (by omega)]
      rw [show (xs.take (o + 1)).set o z = xs.take o ++ [z] by rw [take_snoc xs o hol, List.set_append_right _ _ (by simp; omega)]; simp [show o - min o xs.length = 0 by omega]]
      simp [show o + 1 + r.length = o + (r.length + 1) by omega]
    rw [e] at ih
    exact ih

/-- slices.Reverse at a list of one's own. -/
theorem reverse_own (B : Nat) (v : Value) (xs : List Int) (w : World) (h : OwnI B w v xs) (hl : xs.length ≤ 9223372036854775807) :
    Calls Tryd.prog 58 #[v] w fun e w' => e = .returned (.tuple #[]) ∧ OwnI B w' v xs.reverse ∧ Below B w w' := by
  rcases h.2 with ⟨rfl, hn⟩ | ⟨g, cap, cur, rfl, hb, hg, hn, hm, hs, ht⟩
  · obtain rfl := List.length_eq_zero_iff.1 hn
    refine Calls.mono (Any.slices_Reverse_int_empty Tryd.laysRev none 0 w) ?_
    rintro e w' ⟨rfl, rfl⟩
    exact ⟨rfl, h, Below.refl _ _⟩
  · refine Calls.mono (Any.slices_Reverse_int_cells Tryd.laysRev g 0 xs.length cap xs w (Nat.le_refl _) hl (fun j hj => ?_) (fun j hj => ?_)) ?_
    · have := h.at.cellD j hj
      rw [valAt_row] at this
      simpa using this
    · have := h.frz j hj
      rw [valAt_row] at this
      simpa using this
    · rintro e w' ⟨rfl, q, rfl⟩
      rw [List.take_length]
      have := setCells_own (w0 := w) xs.reverse 0 xs (w.drewN q) rfl (by simp) (h.drewN q) (below_drewN (Below.refl _ _) q)
      simp at this
      simpa using ⟨this.1, this.2⟩

theorem back_any (v : Value) (xs : List Int) (w : World) (h : IntsAt w v xs) (hl : xs.length ≤ 17592186044416) :
    Calls Tryd.prog 23 #[v] w (Ret1 (fun x w' => OwnI w.heap.size w' x xs.reverse) w) := by
  replace h := Lib.hid h
  go_enter Tryd.func23, Tryd.ntmps23
  go_wp2_with fail
  refine (clone_any v xs _ h.out hl).mono ?_
  rintro e w1 ⟨x, rfl, hb, ho⟩
  go_wp2_with fail
  refine (reverse_own _ x xs _ ho (by omega)).mono ?_
  rintro e w2 ⟨rfl, ho', hb'⟩
  go_wp2
  go_ret
  exact ⟨_, rfl, hb.trans hb', ho'⟩
end Go.Proofs.YtmddapkhipmlgaaDoor
