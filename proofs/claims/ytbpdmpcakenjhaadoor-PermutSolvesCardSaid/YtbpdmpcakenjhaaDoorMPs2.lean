/-
  Walks: package permut.
  Walks: permut.check, permut.fits.
  Walk: permut.Right.
  Walk: permut.Left.
  Plain mathematics: one sum behind another is the sum of the product.
  Plain mathematics: the running number of rule.Step is the window's.
  Plain mathematics: the document's sides, mirrored rule and preimages with given ends are the program's.
  Plain mathematics: the sides of mirrored, renamed and composed rules.
  Plain mathematics: the preimages of a word, begin by begin; the next word; one preimage to each begin where the last place permutes.
  Walks: word.Check, word.Next.
  edenraw.Err in memory; walks: edenraw.Root, New, Under, (Err).Bad.
  Walk: edenraw.Under at an error.
  Walks: rule.Small, package overlap's first functions.
  Walks: edenref03.Bad, edenref04.Power, Digits, Check.
  Walks: package additive.
  Walks: edenref18.Fault.
  Walks: errors.Is and errors.As at a chain of Faults; the model's entries for internal/reflectlite at this program's types (after the kit's worked example Toyas).
-/
import Derived.Test.YtbpdmpcakenjhaaDoorMPs1
import Derived.Deep.RegionHeld3
import Derived.BigQuiet
import Derived.Deep.QuietTactic
import Derived.Deep.RegionLawGrows
import Derived.LaidEql
import Derived.Stop.Asserts
import Derived.RowKitTokens
import Derived.Deep.LoopGhost
namespace Go.Proofs.YtbpdmpcakenjhaaDoor
open Go.RowKit
set_option maxRecDepth 100000

theorem perm_wrong (r : Nat → Addr) (at_ n : Int) (w : World) (hg : Glob r w) (h1 : 1 ≤ n) (h2 : n ≤ 11) :
    Calls Tryd.prog 36 #[.int .i64 at_, .int .i64 n] w (Ret1 (fun v w' => ErrIs r w' (fresh sPermut at_ n) v) w) := by
  go_enter Tryd.func36, Tryd.ntmps36
  go_wp2_with fail
  refine (new_any r _ at_ n w hg h1 h2).mono ?_
  rintro e w' ⟨v, rfl, hb, he⟩
  go_wp2
  go_ret
  exact ⟨_, rfl, hb, he⟩

theorem wrap64_nat (n : Nat) (h : n < 1048576) : wrap64 (n : Int) = n := wrap64_id (by omega) (by omega)
theorem wrap64_nat1 (n : Nat) (h1 : 1 ≤ n) (h : n < 1048576) : wrap64 ((n : Int) - 1) = ((n - 1 : Nat) : Int) := by
  rw [wrap64_id (by omega) (by omega)]; omega
theorem bits_or_nat (a b : Nat) (ha : a < 1024) (hb : b < 1024) : bits .or .i64 (a : Int) (b : Int) = ((a ||| b : Nat) : Int) := by
  have hx : a ||| b < 2 ^ 10 := Nat.or_lt_two_pow (by omega) (by omega)
  have h1 : (BitVec.ofInt 64 (a : Int)).toNat = a := by
    rw [BitVec.ofInt_natCast, BitVec.toNat_ofNat]; exact Nat.mod_eq_of_lt (by omega)
  have h2 : (BitVec.ofInt 64 (b : Int)).toNat = b := by
    rw [BitVec.ofInt_natCast, BitVec.toNat_ofNat]; exact Nat.mod_eq_of_lt (by omega)
  show IntKind.i64.wrap ((BitVec.ofInt 64 (a : Int) ||| BitVec.ofInt 64 (b : Int)).toNat : Int) = _
  rw [BitVec.toNat_or, h1, h2]
  exact wrapK (by omega) (by omega)

set_option maxHeartbeats 1000000 in
theorem unlike_any (K R : Nat) (va : Option Addr) (vn vc : Nat) (xs : List Int) (W : Nat) (w : World) (h : IntsAt w (.slice va vn vc) xs) (hr : RuleOk K R xs) (hW : 1 ≤ W) (q : Nat) (hdiv : xs.length = q * (W * K)) :
    Calls Tryd.prog 49 #[.agg #[.int .i64 K, .int .i64 R, .slice va vn vc], .int .i64 W] w (Ret1 (fun x _ => x = .bool (unlikeP K xs W)) w) := by
  have hb0 := belowAlloc w (.cells #[.int .i64 K, .int .i64 R, .slice va vn vc] 24)
  have h0 := Lib.hid h
  have hl := h.len
  have hk1 := hr.k1
  have hk4 := hr.k4
  have hlen := hr.len_le
  clear h
  replace hdiv := Lib.hid hdiv
  replace hr := Lib.hid hr
  go_enter Tryd.func49, Tryd.ntmps49
  go_wp2_with fail
  go_loopw [11] (fun i wr => (∃ j : Nat, j ≤ xs.length ∧ i = .int .i64 j ∧ ∀ t, t < j → t / W % K = 0 → fullP K xs W t = true) ∧ ∃ n, wr = (w.alloc (.cells #[.int .i64 K, .int .i64 R, .slice va vn vc] 24)).drewN n) (fun i _ => xs.length - (intOf i).toNat)
  case atStart => exact ⟨⟨0, by omega, rfl, by intro t ht; omega⟩, 0, rfl⟩
  case round =>
    obtain ⟨⟨j, hj, rfl, hp⟩, n, rfl⟩ := hrel
    replace hp := Lib.hid hp
    by_cases hlt : j < xs.length
    · by_cases hm : j / W % K = 0
      · have hqd : 0 ≤ (j : Int) / (W : Int) := Int.ediv_nonneg (by omega) (by omega)
        have hqu : (j : Int) / (W : Int) ≤ 16384 := by
          have : j / W ≤ j := Nat.div_le_self _ _
          have : j / W ≤ 16384 := by omega
          exact_mod_cast this
        have hq : ((j : Int) / (W : Int) % (K : Int) != 0) = false := by
          rw [bne_eq_false_iff_eq]
          exact_mod_cast hm
        replace hm := Lib.hid hm
        go_wp2
        go_quiet (fail)
        go_wp2
        go_loop [6, 23] (fun n i => ∃ s : Nat, s ≤ K ∧ i = .int .i64 s ∧ n = .int .i64 (seenP xs W j s)) (fun _ i => K - (intOf i).toNat)
        case atStart => exact ⟨0, by omega, rfl, rfl⟩
        case round =>
          obtain ⟨s, hs, rfl, rfl⟩ := hrel
          by_cases hsl : s < K
          · have hx := hr.out.syms.getD (by omega) (j + s * W)
            have hin : j + s * W < xs.length := group_lt hW hdiv.out hlt hm.out hsl
            have h1 := h0.out.below hb0
            have i1 : ∀ w', (Instr.indexAt 22 (.slice va vn vc) (.int .i64 ((j : Int) + (s : Int) * (W : Int)))).run Tryd.prog w' = .ok (.pointer (some (valAt (.slice va vn vc) (j + s * W)))) w' := by
              intro w'
              have := h1.idx (j + s * W) hin w'
              rwa [Int.natCast_add, Int.natCast_mul] at this
            have c1 := h1.cellD (j + s * W) hin
            have hsw0 : 0 ≤ (s : Int) * (W : Int) := Int.mul_nonneg (by omega) (by omega)
            have hsw1 : (s : Int) * (W : Int) ≤ 16384 := by
              have : s * W ≤ 16384 := by omega
              exact_mod_cast this
            have hst : Hid (seenP xs W j (s + 1) = seenP xs W j s ||| 2 ^ (xs.getD (j + s * W) 0).toNat) := rfl
            have hsl2 := seenP_lt hk1 hr.out.syms W j s
            have h16 := two_pow_K hk4
            generalize xs.getD (j + s * W) 0 = x at hx c1 hst
            have hbx : 2 ^ x.toNat < 1024 := Nat.lt_of_lt_of_le (Nat.pow_lt_pow_right (by decide) (show x.toNat < 4 by omega)) (by decide)
            have hbit : Hid (bits BinOp.or IntKind.i64 ((seenP xs W j s : Nat) : Int) (wrap64 (2 ^ x.toNat)) = ((seenP xs W j (s + 1) : Nat) : Int)) := by
              show _ = _
              have e : (2 : Int) ^ x.toNat = ((2 ^ x.toNat : Nat) : Int) := by simp
              rw [e, wrap64_nat _ (by omega), bits_or_nat _ _ (by omega) hbx, hst.out]
            go_wp2
            go_round
            case rel => exact ⟨s + 1, by omega, by go_num, by rw [hbit.out]⟩
            case measure => simp [intOf]; omega
          · obtain rfl : K = s := by omega
            have h16 := two_pow_K hk4
            have h1K : 1 ≤ 2 ^ K := Nat.two_pow_pos K
            have e : (2 : Int) ^ K = ((2 ^ K : Nat) : Int) := by simp
            have e2 : wrap64 (wrap64 ((2 : Int) ^ K) - 1) = ((2 ^ K - 1 : Nat) : Int) := by
              rw [e, wrap64_nat _ (by omega), wrap64_nat1 _ h1K (by omega)]
            have hT : Hid (((seenP xs W j K : Nat) : Int) != wrap64 (wrap64 ((2 : Int) ^ K) - 1)) = Hid (fullP K xs W j = false) := by
              show ((((seenP xs W j K : Nat) : Int) != wrap64 (wrap64 ((2 : Int) ^ K) - 1)) = true) = (fullP K xs W j = false)
              rw [e2]
              apply propext
              rw [bne_iff_ne, fullP, beq_eq_false_iff_ne]
              omega
            cases hf : fullP K xs W j
            · have ht : (((seenP xs W j K : Nat) : Int) != wrap64 (wrap64 ((2 : Int) ^ K) - 1)) = true := by
                have := Eq.mpr hT hf; exact this
              have hu := Lib.hid (unlikeP_false (K := K) j hlt hm.out hf)
              clear hT e e2 hf
              go_wp2
              go_ret
              exact ⟨_, rfl, below_drewN hb0 _, (by rw [hu.out]; rfl)⟩
            · have ht : (((seenP xs W j K : Nat) : Int) != wrap64 (wrap64 ((2 : Int) ^ K) - 1)) = false := by
                rw [Bool.eq_false_iff]
                intro c
                have := Eq.mp hT c
                rw [hf] at this
                cases this
              replace hf := Lib.hid hf
              clear hT e e2
              go_wp2
              go_roundw
              case rel =>
                refine ⟨⟨j + 1, by omega, by go_num, ?_⟩, _, rfl⟩
                intro t ht' htm
                by_cases e : t = j
                · subst e; exact hf.out
                · exact hp.out t (by omega) htm
              case measure => simp [intOf]; omega
      · have hqd : 0 ≤ (j : Int) / (W : Int) := Int.ediv_nonneg (by omega) (by omega)
        have hqu : (j : Int) / (W : Int) ≤ 16384 := by
          have : j / W ≤ j := Nat.div_le_self _ _
          have : j / W ≤ 16384 := by omega
          exact_mod_cast this
        have hq : ((j : Int) / (W : Int) % (K : Int) != 0) = true := by
          rw [bne_iff_ne]
          intro e
          apply hm
          exact_mod_cast e
        replace hm := Lib.hid hm
        go_wp2
        go_quiet (fail)
        go_wp2
        go_roundw
        case rel =>
          refine ⟨⟨j + 1, by omega, by go_num, ?_⟩, _, rfl⟩
          intro t ht htm
          by_cases e : t = j
          · subst e; exact absurd htm hm.out
          · exact hp.out t (by omega) htm
        case measure => simp [intOf]; omega
    · have hu : unlikeP K xs W = true := unlikeP_true fun i hi hm => hp.out i (by omega) hm
      replace hu := Lib.hid hu
      go_wp2
      go_ret
      exact ⟨_, rfl, below_drewN hb0 n, (by rw [hu.out]; rfl)⟩

theorem sides_bad (r : Nat → Addr) (k R : Int) (va : Option Addr) (vn vc : Nat) (xs : List Int) (t : Int × List (ByteArray × Int)) (w : World) (hg : Glob r w) (h : IntsAt w (.slice va vn vc) xs) (hc : checkP k R xs = some t) :
    Calls Tryd.prog 15 #[.agg #[.int .i64 k, .int .i64 R, .slice va vn vc]] w (Ret3 (fun x y z w' => x = .bool false ∧ y = .bool false ∧ ErrIs r w' (under sPermut 0 (some t)) z) w) := by
  have hb0 := belowAlloc w (.cells #[.int .i64 k, .int .i64 R, .slice va vn vc] 24)
  replace hg := Lib.hid (hg.below hb0)
  replace h := Lib.hid (h.below hb0)
  replace hc := Lib.hid hc
  go_enter Tryd.func15, Tryd.ntmps15
  go_wp2_with fail
  refine (check_any r k R _ xs _ hg.out h.out).mono ?_
  rintro e w1 ⟨x, rfl, hb, he⟩
  rw [hc.out] at he
  have he' := Lib.hid he
  obtain ⟨T, p, rfl⟩ := he.some_shape
  clear he
  go_wp2_with fail
  refine (under_any r _ _ _ _ _ he'.out).mono ?_
  rintro e w2 ⟨x, rfl, hb', he⟩
  go_wp2
  go_ret3
  exact ⟨_, _, _, rfl, Below.step hb0 (Below.step hb hb'), rfl, rfl, he⟩

theorem unlikeI (K R : Nat) (va : Option Addr) (vn vc : Nat) (xs : List Int) (Wi : Int) (w : World) (hW : 1 ≤ Wi) (hdiv : ∃ q, xs.length = q * (Wi.toNat * K)) (h : IntsAt w (.slice va vn vc) xs) (hr : RuleOk K R xs) :
    Calls Tryd.prog 49 #[.agg #[.int .i64 K, .int .i64 R, .slice va vn vc], .int .i64 Wi] w (Ret1 (fun x _ => x = .bool (unlikeP K xs Wi.toNat)) w) := by
  obtain ⟨W, rfl⟩ := Int.eq_ofNat_of_zero_le (show 0 ≤ Wi by omega)
  obtain ⟨q, hq⟩ := hdiv
  rw [Int.toNat_natCast] at hq ⊢
  exact unlike_any K R va vn vc xs W w h hr (by omega) q hq

set_option maxHeartbeats 1000000 in
theorem sides_ok (K R : Nat) (va : Option Addr) (vn vc : Nat) (xs : List Int) (w : World) (h : IntsAt w (.slice va vn vc) xs) (hr : RuleOk K R xs) :
    Calls Tryd.prog 15 #[.agg #[.int .i64 K, .int .i64 R, .slice va vn vc]] w (Ret3 (fun x y z _ => x = .bool (unlikeP K xs (xs.length / K)) ∧ y = .bool (unlikeP K xs 1) ∧ z = .nilIface) w) := by
  have hb0 := belowAlloc w (.cells #[.int .i64 K, .int .i64 R, .slice va vn vc] 24)
  have hl := h.len
  have hk1 := hr.k1
  have hlen := hr.len_le
  have hhf := hr.half
  have hp1 := pw_pos (2 * R) hk1
  replace h := Lib.hid (h.below hb0)
  replace hr := Lib.hid hr
  replace hhf := Lib.hid hhf
  have hq0 : 0 ≤ (xs.length : Int) / (K : Int) := Int.ediv_nonneg (by omega) (by omega)
  have hq1 : (xs.length : Int) / (K : Int) ≤ 16384 := by
    have : xs.length / K ≤ 16384 := Nat.le_trans (Nat.div_le_self _ _) hlen
    exact_mod_cast this
  have hqw : IntKind.i64.wrap ((xs.length : Int) / (K : Int)) = (xs.length : Int) / (K : Int) := wrapK (by omega) (by omega)
  have hdc : Hid ((xs.length : Int) / (K : Int) = ((xs.length / K : Nat) : Int)) := by show _ = _; simp
  go_enter Tryd.func15, Tryd.ntmps15
  go_wp2_with fail
  refine (check_ok K R _ xs _ h.out hr.out).mono ?_
  rintro e w1 ⟨x, rfl, hb, rfl⟩
  obtain ⟨z0, z1, z2, f0, f1, f2⟩ := cells3 hb
  have hx := h.out.below hb
  have hsz : w.heap.size < w1.heap.size := World.block_lt_of_cell? _ _ z0
  replace hx := Lib.hid hx
  have hK0 : ((K : Int) == 0) = false := by rw [beq_eq_false_iff_ne]; omega
  have hK1 : ¬ (K : Int) = 0 := by omega
  have hK2 : (0 : Int) < K := by omega
  have hK3 : ¬ K = 0 := by omega
  have hdc2 : Hid (((xs.length : Int) / (K : Int)).toNat = xs.length / K) := by show _ = _; rw [hdc.out, Int.toNat_natCast]
  have hW1 : 1 ≤ (xs.length : Int) / (K : Int) := by
    rw [hdc.out, hhf.out.1]; omega
  have hd1 : Hid (∃ q, xs.length = q * (((xs.length : Int) / (K : Int)).toNat * K)) := ⟨1, by rw [hdc.out, Int.toNat_natCast, hhf.out.1, Nat.one_mul]; exact hhf.out.2⟩
  have hd2 : Hid (∃ q, xs.length = q * ((1 : Int).toNat * K)) := ⟨pw K (2 * R), by simpa using hhf.out.2⟩
  go_wp2
  go_region_held3 (fun w' => w'.cell? ⟨w.heap.size, 0, none⟩ = some (.int .i64 K) ∧ w'.cell? ⟨w.heap.size, 1, none⟩ = some (.int .i64 R) ∧ w'.cell? ⟨w.heap.size, 2, none⟩ = some (.slice va vn vc)) (go_keep)
    (first | (go_at_call 49; refine (unlikeI K R va vn vc xs _ _ (by first | exact hW1 | decide) (by first | exact hd1.out | exact hd2.out) (by first | exact hx.out.drew | exact hx.out.drew.below hb') hr.out).mono ?_; rintro e w2 ⟨x2, rfl, hb', rfl⟩; have S := keep3 hb' (by first | exact S | exact ⟨z0, z1, z2⟩); have y0 := S.1; have y1 := S.2.1; have y2 := S.2.2; have bb : Below w1.heap.size w1 w2 := (by first | exact bb.trans (hb'.mono bb.size) | exact ((Below.refl _ _).drew).trans hb')))
  go_wp2
  go_ret3
  exact ⟨_, _, _, rfl, Below.step hb0 (Below.step hb bb), (by rw [← hdc2.out]; rfl), rfl, rfl⟩
end Go.Proofs.YtbpdmpcakenjhaaDoor

namespace Go.Proofs.YtbpdmpcakenjhaaDoor
open Go.RowKit
set_option maxRecDepth 100000

theorem perm_check1 (x k : Int) (b : Nat) (w : World) (hb : w.cell? ⟨b, 0, none⟩ = some (.int .i64 k)) :
    Calls Tryd.prog 72 #[.int .i64 x, .pointer (some ⟨b, 0, none⟩)] w fun e w' => e = .returned (.bool (odd1 k x)) ∧ w = w' := by
  by_cases h : x < 0
  · have e : odd1 k x = true := by simp [odd1, h]
    rw [e]
    go_enter Tryd.func72, Tryd.ntmps72
    go_wp2
    go_ret
    exact ⟨rfl, rfl⟩
  · have e : odd1 k x = decide (k ≤ x) := by simp [odd1, h]
    rw [e]
    go_enter Tryd.func72, Tryd.ntmps72
    go_wp2
    go_ret
    exact ⟨ret_bool (by simp), rfl⟩
theorem eg_perm_check1 (args : Array Value) (w : World) : (callFunc 72 args).run Tryd.prog w = .ok (.enter 72 args) w := by kernel_rfl

theorem catN_two (vs : Nat → List Int) : catN vs 2 = vs 0 ++ vs 1 := by simp [catN, List.range, List.range.loop]

theorem concat2 (u v : Value) (xs ys : List Int) (w : World) (hu : IntsAt w u xs) (hv : IntsAt w v ys) (hx : xs.length ≤ 8192) (hy : ys.length ≤ 8192) (b : Nat) (hb : b = w.heap.size) :
    Calls Tryd.prog 71 #[.slice (some ⟨b, 0, none⟩) 2 2] (w.alloc (.cells #[u, v] 22)) (Ret1 (fun x w' => OwnI (w.heap.size + 1) w' x (xs ++ ys)) (w.alloc (.cells #[u, v] 22))) := by
  subst hb
  have hv2 : ValsAt (w.alloc (.cells #[u, v] 22)) (.slice (some ⟨w.heap.size, 0, none⟩) 2 2) [u, v] :=
    OwnV.at (E := 22) (B := 0) (World.ownsRow_lit (base := 0) (e := 22) (size := 1) w #[u, v] 2 (Nat.zero_le _) (by decide) rfl)
  have := concat_any _ _ (fun t => if t = 0 then xs else ys) _ hv2 (by
    intro t ht
    have : t = 0 ∨ t = 1 := by simp at ht; omega
    rcases this with rfl | rfl
    · exact hu.below (belowAlloc w _)
    · exact hv.below (belowAlloc w _)) (by simp) (by intro t _; split <;> assumption)
  rw [show [u, v].length = 2 from rfl, catN_two] at this
  simpa using this

theorem perm_fits (K R : Nat) (va : Option Addr) (vn vc : Nat) (xs : List Int) (rest W : Nat) (image : Int) (w : World) (h : IntsAt w (.slice va vn vc) xs) (hr : RuleOk K R xs) (hin : rest + (K - 1) * W < xs.length) :
    Calls Tryd.prog 39 #[.agg #[.int .i64 K, .int .i64 R, .slice va vn vc], .int .i64 rest, .int .i64 W, .int .i64 image] w fun e w' => e = .returned (.int .i64 (fit K xs rest W image)) ∧ w' = w.alloc (.cells #[.int .i64 K, .int .i64 R, .slice va vn vc] 24) := by
  have hb0 := belowAlloc w (.cells #[.int .i64 K, .int .i64 R, .slice va vn vc] 24)
  have hlen := hr.len_le
  have hk1 := hr.k1
  have hk4 := hr.k4
  replace h := Lib.hid (h.below hb0)
  go_enter Tryd.func39, Tryd.ntmps39
  go_wp2
  go_loop [12] (fun i => ∃ s : Nat, s ≤ K ∧ i = .int .i64 s ∧ fit K xs rest W image = fitP xs rest W image (K - s) s) (fun i => K - (intOf i).toNat)
  case atStart => exact ⟨0, by omega, rfl, rfl⟩
  case round =>
    obtain ⟨s, hs, rfl, hf⟩ := hrel
    by_cases hsl : s < K
    · have hsW : s * W ≤ (K - 1) * W := Nat.mul_le_mul_right _ (by omega)
      have hj : rest + s * W < xs.length := by omega
      have i1 : ∀ w', (Instr.indexAt 22 (.slice va vn vc) (.int .i64 ((rest : Int) + (s : Int) * (W : Int)))).run Tryd.prog w' = .ok (.pointer (some (valAt (.slice va vn vc) (rest + s * W)))) w' := by
        intro w'
        have := h.out.idx (rest + s * W) hj w'
        rwa [Int.natCast_add, Int.natCast_mul] at this
      have c1 := h.out.cellD (rest + s * W) hj
      have hsw0 : 0 ≤ (s : Int) * (W : Int) := Int.mul_nonneg (by omega) (by omega)
      have hsw1 : (s : Int) * (W : Int) ≤ 16384 := by
        have : s * W ≤ 16384 := by omega
        exact_mod_cast this
      have e : K - s = (K - (s + 1)) + 1 := by omega
      rw [e, fitP] at hf
      by_cases hq : xs.getD (rest + s * W) 0 = image
      · have hq2 : (xs.getD (rest + s * W) 0 == image) = true := by rw [beq_iff_eq]; exact hq
        rw [if_pos hq] at hf
        replace hf := Lib.hid hf
        clear hq
        generalize xs.getD (rest + s * W) 0 = y at hq2 c1
        go_wp2
        go_ret
        exact ⟨by rw [hf.out]; rfl, rfl⟩
      · have hq2 : (xs.getD (rest + s * W) 0 == image) = false := by rw [beq_eq_false_iff_ne]; exact hq
        rw [if_neg hq] at hf
        replace hf := Lib.hid hf
        clear hq
        generalize xs.getD (rest + s * W) 0 = y at hq2 c1
        go_wp2
        go_round
        case rel => exact ⟨s + 1, by omega, by go_num, hf.out⟩
        case measure => simp [intOf]; omega
    · obtain rfl : K = s := by omega
      rw [Nat.sub_self] at hf
      replace hf := Lib.hid hf
      go_wp2
      go_ret
      exact ⟨by rw [hf.out]; rfl, rfl⟩

set_option maxHeartbeats 1000000 in
theorem perm_check (r : Nat → Addr) (K R : Nat) (va : Option Addr) (vn vc : Nat) (u v : Value) (xs ys : List Int) (w : World) (hg : Glob r w) (hu : IntsAt w u xs) (hv : IntsAt w v ys) (hR : R ≤ 3) :
    Calls Tryd.prog 37 #[.agg #[.int .i64 K, .int .i64 R, .slice va vn vc], u, v] w (Ret1 (fun x w' => ErrIs r w' (checkM K R xs ys) x) w) := by
  have hb0 := belowAlloc w (.cells #[.int .i64 K, .int .i64 R, .slice va vn vc] 24)
  have l1 := hu.len
  have l2 := hv.len
  obtain ⟨a1, n1, c1, rfl⟩ := hu.shape
  obtain ⟨a2, n2, c2, rfl⟩ := hv.shape
  replace hg := Lib.hid (hg.below hb0)
  replace hu := Lib.hid (hu.below hb0)
  replace hv := Lib.hid (hv.below hb0)
  by_cases h1 : 4096 < xs.length
  · rw [checkM, if_pos h1]
    go_enter Tryd.func37, Tryd.ntmps37
    go_wp2_with fail
    refine (perm_wrong r _ _ _ hg.out (by decide) (by decide)).mono ?_
    rintro e w2 ⟨x, rfl, hb', he⟩
    go_wp2
    go_ret
    exact ⟨_, rfl, Below.step hb0 hb', he⟩
  by_cases h2 : ys.length ≠ 2 * R
  · rw [checkM, if_neg h1, if_pos h2]
    have hne : ((ys.length : Int) != 2 * (R : Int)) = true := by rw [bne_iff_ne]; omega
    clear h2
    go_enter Tryd.func37, Tryd.ntmps37
    go_wp2_with fail
    refine (perm_wrong r _ _ _ hg.out (by decide) (by decide)).mono ?_
    rintro e w2 ⟨x, rfl, hb', he⟩
    go_wp2
    go_ret
    exact ⟨_, rfl, Below.step hb0 hb', he⟩
  have hne : ((ys.length : Int) != 2 * (R : Int)) = false := by rw [bne_eq_false_iff_eq]; omega
  rw [checkM, if_neg h1, if_neg h2]
  have hy : ys.length ≤ 6 := by omega
  clear h2
  rcases idxOf_cases (odd1 K) (xs ++ ys) with ⟨hi, _⟩ | ⟨i, hi, hi', _⟩
  · rw [if_pos hi]
    replace hi := Lib.hid hi
    go_enter Tryd.func37, Tryd.ntmps37
    go_wp2_with fail
    refine (concat2 _ _ xs ys _ hu.out hv.out (by omega) (by omega) _ (by simp)).mono ?_
    rintro e w1 ⟨x, rfl, hb1, ho⟩
    have hb2 := Below.step hb0 (Below.step (belowAlloc _ _) hb1)
    have z0 : w1.cell? ⟨w.heap.size, 0, none⟩ = some (.int .i64 K) := by rw [hb1.cell (by simp; omega)]; simp
    replace ho := Lib.hid ho
    go_wp2_with fail
    refine (indexFunc_any x _ 72 (xs ++ ys) (odd1 K) _ ho.out.at eg_perm_check1 (fun x _ => perm_check1 x K _ _ z0)).mono ?_
    rintro e w' ⟨rfl, rfl⟩
    rw [hi.out]
    go_wp2
    go_ret
    exact ⟨_, rfl, hb2, rfl⟩
  · rw [if_neg (by omega), hi]
    replace hi := Lib.hid hi
    go_enter Tryd.func37, Tryd.ntmps37
    go_wp2_with fail
    refine (concat2 _ _ xs ys _ hu.out hv.out (by omega) (by omega) _ (by simp)).mono ?_
    rintro e w1 ⟨x, rfl, hb1, ho⟩
    have hb2 := Below.step hb0 (Below.step (belowAlloc _ _) hb1)
    have hb3 := Below.step (belowAlloc _ _) hb1
    have z0 : w1.cell? ⟨w.heap.size, 0, none⟩ = some (.int .i64 K) := by rw [hb1.cell (by simp; omega)]; simp
    replace ho := Lib.hid ho
    go_wp2_with fail
    refine (indexFunc_any x _ 72 (xs ++ ys) (odd1 K) _ ho.out.at eg_perm_check1 (fun x _ => perm_check1 x K _ _ z0)).mono ?_
    rintro e w' ⟨rfl, rfl⟩
    rw [hi.out]
    go_wp2_with fail
    refine (perm_wrong r _ _ _ (hg.out.below hb3) (by decide) (by decide)).mono ?_
    rintro e w2 ⟨x, rfl, hb', he⟩
    go_wp2
    go_ret
    exact ⟨_, rfl, Below.step hb2 hb', he⟩
end Go.Proofs.YtbpdmpcakenjhaaDoor

namespace Go.Proofs.YtbpdmpcakenjhaaDoor
open Go.RowKit
set_option maxRecDepth 100000

theorem right_bad1 (r : Nat → Addr) (k R : Int) (va : Option Addr) (vn vc : Nat) (xs : List Int) (u v : Value) (t : Int × List (ByteArray × Int)) (w : World) (hg : Glob r w) (h : IntsAt w (.slice va vn vc) xs) (hc : checkP k R xs = some t) :
    Calls Tryd.prog 10 #[.agg #[.int .i64 k, .int .i64 R, .slice va vn vc], u, v] w (Ret2 (fun x y w' => x = .slice none 0 0 ∧ ErrIs r w' (under sPermut 0 (some t)) y) w) := by
  have hb0 := belowAlloc w (.cells #[.int .i64 k, .int .i64 R, .slice va vn vc] 24)
  replace hg := Lib.hid (hg.below hb0)
  replace h := Lib.hid (h.below hb0)
  replace hc := Lib.hid hc
  go_enter Tryd.func10, Tryd.ntmps10
  go_wp2_with fail
  refine (sides_bad r k R va vn vc xs t _ hg.out h.out hc.out).mono ?_
  rintro e w1 ⟨x, y, z, rfl, hb, rfl, rfl, he⟩
  have he' := Lib.hid he
  obtain ⟨T, p, rfl⟩ := he.some_shape
  clear he
  go_wp2
  go_ret2
  exact ⟨_, _, rfl, Below.step hb0 hb, rfl, he'.out⟩

theorem right_bad2 (r : Nat → Addr) (K R : Nat) (va : Option Addr) (vn vc : Nat) (xs : List Int) (u v : Value) (w : World) (hg : Glob r w) (h : IntsAt w (.slice va vn vc) xs) (hr : RuleOk K R xs) (hu : unlikeP K xs 1 = false) :
    Calls Tryd.prog 10 #[.agg #[.int .i64 K, .int .i64 R, .slice va vn vc], u, v] w (Ret2 (fun x y w' => x = .slice none 0 0 ∧ ErrIs r w' (fresh sPermut 0 3) y) w) := by
  have hb0 := belowAlloc w (.cells #[.int .i64 K, .int .i64 R, .slice va vn vc] 24)
  replace hg := Lib.hid (hg.below hb0)
  replace h := Lib.hid (h.below hb0)
  replace hr := Lib.hid hr
  replace hu := Lib.hid hu
  go_enter Tryd.func10, Tryd.ntmps10
  go_wp2_with fail
  refine (sides_ok K R va vn vc xs _ h.out hr.out).mono ?_
  rintro e w1 ⟨x, y, z, rfl, hb, rfl, rfl, rfl⟩
  rw [hu.out]
  generalize unlikeP K xs (xs.length / K) = q
  go_wp2_with fail
  refine (perm_wrong r _ _ _ (hg.out.below hb) (by decide) (by decide)).mono ?_
  rintro e w2 ⟨x, rfl, hb', he⟩
  go_wp2
  go_ret2
  exact ⟨_, _, rfl, Below.step hb0 (Below.step hb hb'), rfl, he⟩

theorem right_bad3 (r : Nat → Addr) (K R : Nat) (va : Option Addr) (vn vc : Nat) (xs : List Int) (u v : Value) (ys zs : List Int) (t : Int × List (ByteArray × Int)) (w : World) (hg : Glob r w) (h : IntsAt w (.slice va vn vc) xs) (hr : RuleOk K R xs) (hp : unlikeP K xs 1 = true)
    (hu : IntsAt w u ys) (hv : IntsAt w v zs) (hc : checkM K R ys zs = some t) :
    Calls Tryd.prog 10 #[.agg #[.int .i64 K, .int .i64 R, .slice va vn vc], u, v] w (Ret2 (fun x y w' => x = .slice none 0 0 ∧ ErrIs r w' (some t) y) w) := by
  have hb0 := belowAlloc w (.cells #[.int .i64 K, .int .i64 R, .slice va vn vc] 24)
  have hR := hr.r3
  replace hg := Lib.hid (hg.below hb0)
  replace h := Lib.hid (h.below hb0)
  replace hr := Lib.hid hr
  replace hp := Lib.hid hp
  replace hc := Lib.hid hc
  replace hu := Lib.hid (hu.below hb0)
  replace hv := Lib.hid (hv.below hb0)
  go_enter Tryd.func10, Tryd.ntmps10
  go_wp2_with fail
  refine (sides_ok K R va vn vc xs _ h.out hr.out).mono ?_
  rintro e w1 ⟨x, y, z, rfl, hb, rfl, rfl, rfl⟩
  rw [hp.out]
  obtain ⟨z0, z1, z2, f0, f1, f2⟩ := cells3 hb
  generalize unlikeP K xs (xs.length / K) = q
  go_wp2_with fail
  refine (perm_check r K R va vn vc u v ys zs _ (hg.out.below hb) (hu.out.below hb) (hv.out.below hb) hR).mono ?_
  rintro e w2 ⟨x, rfl, hb', he⟩
  rw [hc.out] at he
  have he' := Lib.hid he
  obtain ⟨T, p, rfl⟩ := he.some_shape
  clear he
  go_wp2
  go_ret2
  exact ⟨_, _, rfl, Below.step hb0 (Below.step hb hb'), rfl, he'.out⟩

theorem wpl_append1b {w : World} {ops : Array Oper} {rest : List Oper} {o : Oper} {a : Act} {Q : Exit → Act → World → Prop} (hgd : o.guard = none) (s x : Operand)
    (ho : o.op = .call { callee := .builtin .append, args := #[s, x], argTypes := #[22, 22] })
    (B : Nat) (v : Value) (xs : List Int) (y : Int) (hown : OwnI B w v xs) (hs : a.eval s = v) (b : Nat) (hx : a.eval x = .slice (some ⟨b, 0, none⟩) 1 1) (hb : b = w.heap.size)
    (hlen : xs.length < 17592186044415) (hB : B ≤ w.heap.size)
    (h : ∀ v' w', OwnI B w' v' (xs ++ [y]) → Below B w w' → w.grownBy w' v.ownBlock → (v'.ownBlock = v.ownBlock ∨ ∃ k, v'.ownBlock = some k ∧ w.heap.size ≤ k) → wpList Tryd.prog ops Q rest (a.put o.dst v') w') :
    wpList Tryd.prog ops Q (o :: rest) a (w.alloc (.cells #[.int .i64 y] 3)) := by
  subst hb
  exact wpl_append1 hgd s x ho B v xs y hown hs hx hlen hB h

set_option maxHeartbeats 2000000 in
theorem right_ok (r : Nat → Addr) (K R : Nat) (va : Option Addr) (vn vc : Nat) (xs : List Int) (u v : Value) (ys zs : List Int) (w : World) (hg : Glob r w) (h : IntsAt w (.slice va vn vc) xs) (hr : RuleOk K R xs) (hp : unlikeP K xs 1 = true)
    (hu : IntsAt w u ys) (hv : IntsAt w v zs) (hc : checkM K R ys zs = none) :
    Calls Tryd.prog 10 #[.agg #[.int .i64 K, .int .i64 R, .slice va vn vc], u, v] w (Ret2 (fun x y w' => OwnI w.heap.size w' x (zs ++ rightP K xs (numW K zs) ys) ∧ y = .nilIface) w) := by
  have hb0 := belowAlloc w (.cells #[.int .i64 K, .int .i64 R, .slice va vn vc] 24)
  have hR := hr.r3
  have hk1 := hr.k1
  have hk4 := hr.k4
  have hlen := hr.len_le
  have hhf := hr.half
  obtain ⟨hy4, hzl, hys, hzs⟩ := checkM_none hc
  have l1 := hu.len
  have l2 := hv.len
  replace hg := Lib.hid (hg.below hb0)
  replace h := Lib.hid (h.below hb0)
  replace hr := Lib.hid hr
  replace hhf := Lib.hid hhf
  replace hp := Lib.hid hp
  replace hc := Lib.hid hc
  have hz6 : zs.length ≤ 6 := by omega
  replace hzl := Lib.hid hzl
  replace hys := Lib.hid hys
  replace hzs := Lib.hid hzs
  obtain ⟨a1, n1, c1, rfl⟩ := hu.shape
  obtain ⟨a2, n2, c2, rfl⟩ := hv.shape
  replace hu := Lib.hid (hu.below hb0)
  replace hv := Lib.hid (hv.below hb0)
  go_enter Tryd.func10, Tryd.ntmps10
  go_wp2_with fail
  refine (sides_ok K R va vn vc xs _ h.out hr.out).mono ?_
  rintro e w1 ⟨x, y, z, rfl, hb, rfl, rfl, rfl⟩
  rw [hp.out]
  obtain ⟨z0, z1, z2, f0, f1, f2⟩ := cells3 hb
  generalize unlikeP K xs (xs.length / K) = q
  go_wp2_with fail
  refine (perm_check r K R va vn vc _ _ ys zs _ (hg.out.below hb) (hu.out.below hb) (hv.out.below hb) hR).mono ?_
  rintro e w2 ⟨x, rfl, hb', he⟩
  rw [hc.out] at he
  obtain rfl := he.none_eq
  clear he z0 z1 z2 f0 f1 f2
  replace hb := Below.step hb hb'
  clear hb'
  obtain ⟨z0, z1, z2, f0, f1, f2⟩ := cells3 hb
  go_wp2_with fail
  refine (clone_any _ zs _ (hv.out.below hb) (by omega)).mono ?_
  rintro e w3 ⟨x, rfl, hb', ho⟩
  have hsz : w.heap.size < w2.heap.size := World.block_lt_of_cell? _ _ z0
  have hvi := Lib.hid ((hv.out.below hb).below hb')
  have hui := Lib.hid (hu.out.below hb)
  have zz := Lib.hid (And.intro z0 (And.intro z1 z2))
  clear z0 z1 z2 f0 f1 f2
  obtain ⟨z0, z1, z2⟩ := keep3 hb' zz.out
  replace ho := Lib.hid ho
  go_wp2
  go_loop [13, 42] (fun n i => ∃ j : Nat, j ≤ zs.length ∧ i = .int .i64 j ∧ n = .int .i64 (numW K (zs.take j))) (fun _ i => zs.length - (intOf i).toNat)
  case atStart => exact ⟨0, by omega, rfl, rfl⟩
  case round =>
    obtain ⟨j, hj, rfl, rfl⟩ := hrel
    by_cases hjl : j < zs.length
    · have i1 := hvi.out.idx j hjl
      have c1 := hvi.out.cell j hjl
      have hx := hzs.out zs[j] (by simp)
      have hn : Hid (numW K (zs.take (j + 1)) = numW K (zs.take j) * K + zs[j].toNat) := by
        show _ = _
        rw [take_snoc zs j hjl, numW_snoc]
      have hn2 : numW K (zs.take j) ≤ 16384 := by
        have h1 := numW_lt (zs.take j) (fun x hx => hzs.out x (List.mem_of_mem_take hx))
        have h2 := pw_le hk1 hk4 (i := (zs.take j).length) (by simp; omega)
        omega
      generalize zs[j] = x at c1 hx hn
      generalize numW K (zs.take j) = N at hn hn2
      have hm1 : 0 ≤ (N : Int) * (K : Int) := Int.mul_nonneg (by omega) (by omega)
      have hm2 : (N : Int) * (K : Int) ≤ 65536 := by
        have : N * K ≤ 65536 := Nat.mul_le_mul hn2 hk4
        have h2 := Int.ofNat_le.2 this
        rw [Int.natCast_mul] at h2
        exact h2
      go_wp2
      go_round
      case rel => exact ⟨j + 1, by omega, by go_num, by rw [hn.out]; go_num⟩
      case measure => simp [intOf]; omega
    · obtain rfl : j = zs.length := by omega
      rw [List.take_length]
      have hN : numW K zs < xs.length / K := by
        rw [hhf.out.1, ← hzl.out]; exact numW_lt zs hzs.out
      have hlK : xs.length / K ≤ 16384 := Nat.le_trans (Nat.div_le_self _ _) hlen
      have hlKK : xs.length / K * K = xs.length := by rw [hhf.out.1]; exact hhf.out.2.symm
      have hlx := h.out.len
      have hK0 : ((K : Int) == 0) = false := by rw [beq_eq_false_iff_ne]; omega
      have hK1 : ¬ (K : Int) = 0 := by omega
      have hK2 : (0 : Int) < K := by omega
      have hK3 : ¬ K = 0 := by omega
      generalize hN0 : numW K zs = N at hN
      replace hN0 := Lib.hid hN0
      have hq0 : 0 ≤ (xs.length : Int) / (K : Int) := Int.ediv_nonneg (by omega) (by omega)
      have hqc : (xs.length : Int) / (K : Int) = ((xs.length / K : Nat) : Int) := by simp
      have hq1 : (xs.length : Int) / (K : Int) ≤ 16384 := by rw [hqc]; omega
      have hq2 : 0 < (xs.length : Int) / (K : Int) := by rw [hqc]; omega
      have hq3 : ((xs.length : Int) / (K : Int) == 0) = false := by rw [beq_eq_false_iff_ne]; omega
      replace hqc := Lib.hid hqc
      have hul := hui.out.len
      replace hN := Lib.hid hN
      have hlK0 := Lib.hid hlK
      replace hlKK := Lib.hid hlKK
      clear z0 z1 z2 hlK
      go_wp2
      go_loopw [12, 13, 55] (fun o n i wr => ∃ j : Nat, j ≤ ys.length ∧ i = .int .i64 j ∧ n = .int .i64 (rightN K xs N (ys.take j)) ∧ OwnI w2.heap.size wr o (zs ++ rightP K xs N (ys.take j)) ∧ Below w2.heap.size w2 wr) (fun _ _ i _ => ys.length - (intOf i).toNat)
      case atStart => exact ⟨0, by omega, rfl, rfl, by simpa [rightP] using ho.out, hb'⟩
      case round =>
        obtain ⟨j, hj, rfl, rfl, hO, hbO⟩ := hrel
        obtain ⟨wo, rfl⟩ : ∃ wo : World, wo = wr := ⟨_, rfl⟩
        by_cases hjl : j < ys.length
        · have hyi := hui.out.below hbO
          have i1 := hyi.idx j hjl
          have c1 := hyi.cell j hjl
          obtain ⟨z0, z1, z2⟩ := keep3 hbO zz.out
          have hN' : rightN K xs N (ys.take j) < xs.length / K := rightN_lt (by have := hN.out; omega) N hN.out _
          have hP : Hid (zs ++ rightP K xs N (ys.take (j + 1)) = (zs ++ rightP K xs N (ys.take j)) ++ [(fit K xs (rightN K xs N (ys.take j) * K) 1 ys[j] : Int)]) := by
            show _ = _
            rw [take_snoc ys j hjl, rightP_snoc, List.append_assoc]
          have hN2 : Hid (rightN K xs N (ys.take (j + 1)) = (rightN K xs N (ys.take j) * K + fit K xs (rightN K xs N (ys.take j) * K) 1 ys[j]) % (xs.length / K)) := by
            show _ = _
            rw [take_snoc ys j hjl, rightN_snoc]
          have hPl : (zs ++ rightP K xs N (ys.take j)).length ≤ 5000 := by simp [rightP_length]; omega
          generalize ys[j] = x at c1 hP hN2
          have hfl := fit_lt hk1 xs (rightN K xs N (ys.take j) * K) 1 x
          generalize rightN K xs N (ys.take j) = M at hN' hP hN2 hfl
          have hin : M * K + (K - 1) * 1 < xs.length := by
            have h1 : (M + 1) * K ≤ xs.length / K * K := Nat.mul_le_mul_right _ hN'
            rw [hlKK.out, Nat.succ_mul] at h1
            omega
          have hM1 : M ≤ 16384 := by have := hlK0.out; omega
          have hm1 : 0 ≤ (M : Int) * (K : Int) := Int.mul_nonneg (by omega) (by omega)
          have hm2 : (M : Int) * (K : Int) ≤ 65536 := by
            have : M * K ≤ 65536 := Nat.mul_le_mul hM1 hk4
            have h2 := Int.ofNat_le.2 this
            rw [Int.natCast_mul] at h2
            exact h2
          have hf := perm_fits K R va vn vc xs (M * K) 1 x wo ((h.out.below hb).below hbO) hr.out hin
          rw [Int.natCast_mul] at hf
          generalize fit K xs (M * K) 1 x = s at hP hN2 hfl hf
          have hmod : Hid (((M : Int) * (K : Int) + (s : Int)) % ((xs.length : Int) / (K : Int)) = (((M * K + s) % (xs.length / K) : Nat) : Int)) := by show _ = _; simp
          replace hN' := Lib.hid hN'
          replace hO := Lib.hid hO
          replace hf := Lib.hid hf
          replace hin := Lib.hid hin
          generalize zs ++ rightP K xs N (ys.take j) = O at hO hPl hP
          go_wp2_with fail
          refine hf.out.mono ?_
          rintro e w' ⟨rfl, rfl⟩
          go_wp2_with (at_builtin; refine wpl_append1b rfl _ _ rfl w2.heap.size _ O (s : Int) (hO.out.alloc _) rfl _ rfl (by simp) (by omega) (by have := hbO.size; simp; omega) ?_)
          intro nv w4 hO4 hb4 _ _
          have hbT : Below w2.heap.size w2 w4 := (hbO.alloc hbO.size _).trans hb4
          clear z0 z1 z2
          obtain ⟨z0, z1, z2⟩ := keep3 hbT zz.out
          replace hO4 := Lib.hid hO4
          go_wp2
          go_quiet (fail)
          go_wp2
          go_roundw
          case rel =>
            refine ⟨j + 1, by omega, by go_num, ?_, by rw [hP.out]; exact hO4.out, below_drewN hbT _⟩
            rw [hN2.out, ← hmod.out]
          case measure => simp [intOf]; omega
        · obtain rfl : j = ys.length := by omega
          go_wp2
          go_ret2
          rw [List.take_length] at hO
          exact ⟨_, _, rfl, Below.step hb0 (Below.step hb hbO), (by rw [hN0.out]; exact hO.mono (by omega)), rfl⟩

/-- permut.Right at all operands. -/
theorem right_any (r : Nat → Addr) (k R : Int) (va : Option Addr) (vn vc : Nat) (xs : List Int) (u v : Value) (ys zs : List Int) (w : World) (hg : Glob r w) (h : IntsAt w (.slice va vn vc) xs) (hu : IntsAt w u ys) (hv : IntsAt w v zs) :
    Calls Tryd.prog 10 #[.agg #[.int .i64 k, .int .i64 R, .slice va vn vc], u, v] w (Ret2 (fun x y w' => ErrIs r w' (permF k R xs 1 ys zs) y ∧ (permF k R xs 1 ys zs = none → OwnI w.heap.size w' x (zs ++ rightP k.toNat xs (numW k.toNat zs) ys)) ∧ (permF k R xs 1 ys zs ≠ none → x = .slice none 0 0)) w) := by
  cases hc : checkP k R xs with
  | some t =>
    have e : permF k R xs 1 ys zs = under sPermut 0 (some t) := by simp [permF, hc]
    refine (right_bad1 r k R va vn vc xs u v t w hg h hc).mono ?_
    rintro e1 w' ⟨x, y, he, hb, hx, hy⟩
    exact ⟨x, y, he, hb, by rw [e]; exact hy, (fun h => by rw [e] at h; cases h), fun _ => hx⟩
  | none =>
    obtain ⟨K, R, rfl, rfl, hr⟩ := checkP_none hc
    cases hp : unlikeP K xs 1 with
    | false =>
      have e : permF K R xs 1 ys zs = fresh sPermut 0 3 := by simp [permF, hc, hp]
      refine (right_bad2 r K R va vn vc xs u v w hg h hr hp).mono ?_
      rintro e1 w' ⟨x, y, he, hb, hx, hy⟩
      exact ⟨x, y, he, hb, by rw [e]; exact hy, (fun h => by rw [e] at h; cases h), fun _ => hx⟩
    | true =>
      have e : permF K R xs 1 ys zs = checkM K R ys zs := by simp [permF, hc, hp]
      cases hm : checkM K R ys zs with
      | some t =>
        rw [hm] at e
        refine (right_bad3 r K R va vn vc xs u v ys zs t w hg h hr hp hu hv hm).mono ?_
        rintro e1 w' ⟨x, y, he, hb, hx, hy⟩
        exact ⟨x, y, he, hb, by rw [e]; exact hy, (fun h => by rw [e] at h; cases h), fun _ => hx⟩
      | none =>
        rw [hm] at e
        refine (right_ok r K R va vn vc xs u v ys zs w hg h hr hp hu hv hm).mono ?_
        rintro e1 w' ⟨x, y, he, hb, hx, hy⟩
        exact ⟨x, y, he, hb, by rw [e]; exact hy, fun _ => by rw [Int.toNat_natCast]; exact hx, fun h => absurd e h⟩
end Go.Proofs.YtbpdmpcakenjhaaDoor

namespace Go.Proofs.YtbpdmpcakenjhaaDoor
open Go.RowKit
set_option maxRecDepth 100000

theorem leftS_lt {K : Nat} {T : List Int} (hK : 1 ≤ K) (node : Nat) (hn : node < T.length / K) (w : List Int) : (leftS K T node w).1 < T.length / K := by
  induction w with
  | nil => exact hn
  | cons y w ih =>
    have hf := fit_lt hK T (leftS K T node w).1 (T.length / K) y
    show (fit K T (leftS K T node w).1 (T.length / K) y * (T.length / K) + (leftS K T node w).1) / K < T.length / K
    rw [Nat.div_lt_iff_lt_mul hK]
    have h1 : (fit K T (leftS K T node w).1 (T.length / K) y + 1) * (T.length / K) ≤ K * (T.length / K) := Nat.mul_le_mul_right _ hf
    rw [Nat.succ_mul] at h1
    rw [Nat.mul_comm (T.length / K) K]
    omega

theorem run_makeI (C : Int) (n : Nat) (w : World) (hC : C = n) (hn : n ≤ 17592186044416) :
    ∃ v w', (Instr.makeSlice 22 (.int .i64 C) (.int .i64 C)).run Tryd.prog w = .ok v w' ∧ OwnI w.heap.size w' v (List.replicate n 0) ∧ Below w.heap.size w w' := by
  subst hC
  obtain ⟨i, hi, hz0, hz1, hz2⟩ := info_parts iInt
  obtain ⟨w', hrun, r1, r2⟩ := run_make_full (P := Tryd.prog) w w.heap.size 22 3 i (.int .i64 0) 1 uInts hi hz0 hz1 .i64 .i64 n (by rw [hz2]; omega) (by unfold maxLen; omega) (Nat.le_refl _)
  refine ⟨_, w', hrun, ?_, (Below.refl _ _).grown r2 (Nat.le_refl _) (by intro k hk; cases hk)⟩
  have e : (madeCells (Value.cells (.int .i64 0)) (n * 1)).toList = (List.replicate n (0 : Int)).map (Value.int .i64) := by
    rw [show Value.cells (.int .i64 0) = #[.int .i64 0] from rfl, toList_madeCells_one]; simp
  rw [e] at r1
  simpa [OwnI] using r1

/-- What is left of an owned slice from a place on. -/
theorem OwnI.post {B : Nat} {w : World} {v : Value} {xs : List Int} (h : OwnI B w v xs) (off : Nat) (ho : off ≤ xs.length) :
    ∃ dp dLen dCap, (∀ w', (Instr.slice 22 v (some (.int .i64 off)) none none).run Tryd.prog w' = .ok (.slice dp dLen dCap) w') ∧ dLen = xs.length - off ∧ (0 < xs.length - off → dp = some (valAt v off)) := by
  rcases h.2 with ⟨rfl, hn⟩ | ⟨g, cap, cur, rfl, hB, hg, hn, hm, hs, ht⟩
  · have hr : ∀ w', (Instr.slice 22 (.slice none 0 0) (some (.int .i64 off)) none none).run Tryd.prog w' = .ok (sliced none off 0 0 1) w' := by
      intro w'
      rw [run_slice_l w' 22 none 0 0 uIntsE .i64 off (by omega) (by omega), eInts, sInt]
      rfl
    exact ⟨_, _, _, hr, by omega, by intro hh; omega⟩
  · have hr : ∀ w', (Instr.slice 22 (.slice (some ⟨g, 0, none⟩) xs.length cap) (some (.int .i64 off)) none none).run Tryd.prog w' = .ok (sliced (some ⟨g, 0, none⟩) off xs.length cap 1) w' := by
      intro w'
      rw [run_slice_l w' 22 (some ⟨g, 0, none⟩) xs.length cap uIntsE .i64 off (by omega) (by omega), eInts, sInt]
      rfl
    refine ⟨_, _, _, hr, rfl, fun hh => ?_⟩
    rw [if_neg (by omega), valAt_row]
    simp [Addr.add]
    intro e; exact e.symm

theorem left_bad1 (r : Nat → Addr) (k R : Int) (va : Option Addr) (vn vc : Nat) (xs : List Int) (u v : Value) (t : Int × List (ByteArray × Int)) (w : World) (hg : Glob r w) (h : IntsAt w (.slice va vn vc) xs) (hc : checkP k R xs = some t) :
    Calls Tryd.prog 11 #[.agg #[.int .i64 k, .int .i64 R, .slice va vn vc], u, v] w (Ret2 (fun x y w' => x = .slice none 0 0 ∧ ErrIs r w' (under sPermut 0 (some t)) y) w) := by
  have hb0 := belowAlloc w (.cells #[.int .i64 k, .int .i64 R, .slice va vn vc] 24)
  replace hg := Lib.hid (hg.below hb0)
  replace h := Lib.hid (h.below hb0)
  replace hc := Lib.hid hc
  go_enter Tryd.func11, Tryd.ntmps11
  go_wp2_with fail
  refine (sides_bad r k R va vn vc xs t _ hg.out h.out hc.out).mono ?_
  rintro e w1 ⟨x, y, z, rfl, hb, rfl, rfl, he⟩
  have he' := Lib.hid he
  obtain ⟨T, p, rfl⟩ := he.some_shape
  clear he
  go_wp2
  go_ret2
  exact ⟨_, _, rfl, Below.step hb0 hb, rfl, he'.out⟩

theorem left_bad2 (r : Nat → Addr) (K R : Nat) (va : Option Addr) (vn vc : Nat) (xs : List Int) (u v : Value) (w : World) (hg : Glob r w) (h : IntsAt w (.slice va vn vc) xs) (hr : RuleOk K R xs) (hu : unlikeP K xs (xs.length / K) = false) :
    Calls Tryd.prog 11 #[.agg #[.int .i64 K, .int .i64 R, .slice va vn vc], u, v] w (Ret2 (fun x y w' => x = .slice none 0 0 ∧ ErrIs r w' (fresh sPermut 0 3) y) w) := by
  have hb0 := belowAlloc w (.cells #[.int .i64 K, .int .i64 R, .slice va vn vc] 24)
  replace hg := Lib.hid (hg.below hb0)
  replace h := Lib.hid (h.below hb0)
  replace hr := Lib.hid hr
  replace hu := Lib.hid hu
  go_enter Tryd.func11, Tryd.ntmps11
  go_wp2_with fail
  refine (sides_ok K R va vn vc xs _ h.out hr.out).mono ?_
  rintro e w1 ⟨x, y, z, rfl, hb, rfl, rfl, rfl⟩
  rw [hu.out]
  generalize unlikeP K xs 1 = q
  go_wp2_with fail
  refine (perm_wrong r _ _ _ (hg.out.below hb) (by decide) (by decide)).mono ?_
  rintro e w2 ⟨x, rfl, hb', he⟩
  go_wp2
  go_ret2
  exact ⟨_, _, rfl, Below.step hb0 (Below.step hb hb'), rfl, he⟩

theorem left_bad3 (r : Nat → Addr) (K R : Nat) (va : Option Addr) (vn vc : Nat) (xs : List Int) (u v : Value) (ys zs : List Int) (t : Int × List (ByteArray × Int)) (w : World) (hg : Glob r w) (h : IntsAt w (.slice va vn vc) xs) (hr : RuleOk K R xs) (hp : unlikeP K xs (xs.length / K) = true)
    (hu : IntsAt w u ys) (hv : IntsAt w v zs) (hc : checkM K R ys zs = some t) :
    Calls Tryd.prog 11 #[.agg #[.int .i64 K, .int .i64 R, .slice va vn vc], u, v] w (Ret2 (fun x y w' => x = .slice none 0 0 ∧ ErrIs r w' (some t) y) w) := by
  have hb0 := belowAlloc w (.cells #[.int .i64 K, .int .i64 R, .slice va vn vc] 24)
  have hR := hr.r3
  replace hg := Lib.hid (hg.below hb0)
  replace h := Lib.hid (h.below hb0)
  replace hr := Lib.hid hr
  replace hp := Lib.hid hp
  replace hc := Lib.hid hc
  replace hu := Lib.hid (hu.below hb0)
  replace hv := Lib.hid (hv.below hb0)
  go_enter Tryd.func11, Tryd.ntmps11
  go_wp2_with fail
  refine (sides_ok K R va vn vc xs _ h.out hr.out).mono ?_
  rintro e w1 ⟨x, y, z, rfl, hb, rfl, rfl, rfl⟩
  rw [hp.out]
  obtain ⟨z0, z1, z2, f0, f1, f2⟩ := cells3 hb
  generalize unlikeP K xs 1 = q
  go_wp2_with fail
  refine (perm_check r K R va vn vc u v ys zs _ (hg.out.below hb) (hu.out.below hb) (hv.out.below hb) hR).mono ?_
  rintro e w2 ⟨x, rfl, hb', he⟩
  rw [hc.out] at he
  have he' := Lib.hid he
  obtain ⟨T, p, rfl⟩ := he.some_shape
  clear he
  go_wp2
  go_ret2
  exact ⟨_, _, rfl, Below.step hb0 (Below.step hb hb'), rfl, he'.out⟩

set_option maxHeartbeats 2000000 in
theorem left_ok (r : Nat → Addr) (K R : Nat) (va : Option Addr) (vn vc : Nat) (xs : List Int) (u v : Value) (ys zs : List Int) (w : World) (hg : Glob r w) (h : IntsAt w (.slice va vn vc) xs) (hr : RuleOk K R xs) (hp : unlikeP K xs (xs.length / K) = true)
    (hu : IntsAt w u ys) (hv : IntsAt w v zs) (hc : checkM K R ys zs = none) :
    Calls Tryd.prog 11 #[.agg #[.int .i64 K, .int .i64 R, .slice va vn vc], u, v] w (Ret2 (fun x y w' => OwnI w.heap.size w' x ((leftS K xs (numW K zs) ys).2 ++ zs) ∧ y = .nilIface) w) := by
  have hb0 := belowAlloc w (.cells #[.int .i64 K, .int .i64 R, .slice va vn vc] 24)
  have hR := hr.r3
  have hk1 := hr.k1
  have hk4 := hr.k4
  have hlen := hr.len_le
  have hhf := hr.half
  obtain ⟨hy4, hzl, hys, hzs⟩ := checkM_none hc
  have l1 := hu.len
  have l2 := hv.len
  replace hg := Lib.hid (hg.below hb0)
  replace h := Lib.hid (h.below hb0)
  replace hr := Lib.hid hr
  replace hhf := Lib.hid hhf
  replace hp := Lib.hid hp
  replace hc := Lib.hid hc
  have hz6 : zs.length ≤ 6 := by omega
  replace hzl := Lib.hid hzl
  replace hys := Lib.hid hys
  replace hzs := Lib.hid hzs
  obtain ⟨ua, un, uc, rfl⟩ := hu.shape
  obtain ⟨a2, n2, c2, rfl⟩ := hv.shape
  replace hu := Lib.hid (hu.below hb0)
  replace hv := Lib.hid (hv.below hb0)
  go_enter Tryd.func11, Tryd.ntmps11
  go_wp2_with fail
  refine (sides_ok K R va vn vc xs _ h.out hr.out).mono ?_
  rintro e w1 ⟨x, y, z, rfl, hb, rfl, rfl, rfl⟩
  rw [hp.out]
  obtain ⟨z0, z1, z2, f0, f1, f2⟩ := cells3 hb
  generalize unlikeP K xs 1 = q
  go_wp2_with fail
  refine (perm_check r K R va vn vc _ _ ys zs _ (hg.out.below hb) (hu.out.below hb) (hv.out.below hb) hR).mono ?_
  rintro e w2 ⟨x, rfl, hb', he⟩
  rw [hc.out] at he
  obtain rfl := he.none_eq
  clear he z0 z1 z2 f0 f1 f2
  replace hb := Below.step hb hb'
  clear hb'
  obtain ⟨z0, z1, z2, f0, f1, f2⟩ := cells3 hb
  go_wp2_with fail
  have hsz : w.heap.size < w2.heap.size := World.block_lt_of_cell? _ _ z0
  have hv2 := Lib.hid (hv.out.below hb)
  have hui := Lib.hid (hu.out.below hb)
  have hxi := Lib.hid (h.out.below hb)
  have zz := Lib.hid (And.intro z0 (And.intro z1 z2))
  clear z0 z1 z2 f0 f1 f2
  obtain ⟨ov, w3, hmk, hout, hb3⟩ := run_makeI ((ys.length : Int) + (zs.length : Int)) (ys.length + zs.length) w2 (by omega) (by omega)
  have hK0 : ((K : Int) == 0) = false := by rw [beq_eq_false_iff_ne]; omega
  have hK1 : ¬ (K : Int) = 0 := by omega
  have hK2 : (0 : Int) < K := by omega
  have hK3 : ¬ K = 0 := by omega
  have hq0 : 0 ≤ (xs.length : Int) / (K : Int) := Int.ediv_nonneg (by omega) (by omega)
  have hqc : (xs.length : Int) / (K : Int) = ((xs.length / K : Nat) : Int) := by simp
  have hqw : IntKind.i64.wrap ((xs.length : Int) / (K : Int)) = (xs.length : Int) / (K : Int) := by
    have : xs.length / K ≤ 16384 := Nat.le_trans (Nat.div_le_self _ _) hlen
    exact wrapK (by omega) (by rw [hqc]; omega)
  replace hqc := Lib.hid hqc
  have hlx := h.out.len
  have hol : (List.replicate (ys.length + zs.length) (0 : Int)).length = ys.length + zs.length := by simp
  obtain ⟨dp, dLen, dCap, hsl, hd1, hd2⟩ := hout.post ys.length (by omega)
  obtain ⟨w4, hcp, ho4, hb4, _⟩ := run_copyI ys.length 3 dp dLen dCap hout (hv2.out.below hb3) rfl (by omega) (by omega) (fun hh => hd2 (by omega))
  have e1 : (List.replicate (ys.length + zs.length) (0 : Int)).take ys.length ++ zs ++ (List.replicate (ys.length + zs.length) (0 : Int)).drop (ys.length + zs.length) = List.replicate ys.length 0 ++ zs := by
    rw [List.take_replicate, List.drop_replicate]; simp
  rw [e1] at ho4
  clear e1 hol hd1 hd2 hout
  have hbA : Below w2.heap.size w2 w4 := hb3.trans hb4
  replace ho4 := Lib.hid ho4
  clear hb3 hb4
  obtain ⟨z0, z1, z2⟩ := keep3 hbA zz.out
  have hvi := Lib.hid (hv2.out.below hbA)
  go_wp2_with fail
  rw [hmk]
  simp only [Result.andThen]
  go_wp2
  go_loop [14, 58] (fun n i => ∃ j : Nat, j ≤ zs.length ∧ i = .int .i64 j ∧ n = .int .i64 (numW K (zs.take j))) (fun _ i => zs.length - (intOf i).toNat)
  case atStart => exact ⟨0, by omega, rfl, rfl⟩
  case round =>
    obtain ⟨j, hj, rfl, rfl⟩ := hrel
    by_cases hjl : j < zs.length
    · have i1 := hvi.out.idx j hjl
      have c1 := hvi.out.cell j hjl
      have hx := hzs.out zs[j] (by simp)
      have hn : Hid (numW K (zs.take (j + 1)) = numW K (zs.take j) * K + zs[j].toNat) := by
        show _ = _
        rw [take_snoc zs j hjl, numW_snoc]
      have hn2 : numW K (zs.take j) ≤ 16384 := by
        have h1 := numW_lt (zs.take j) (fun x hx => hzs.out x (List.mem_of_mem_take hx))
        have h2 := pw_le hk1 hk4 (i := (zs.take j).length) (by simp; omega)
        omega
      generalize zs[j] = x at c1 hx hn
      generalize numW K (zs.take j) = N at hn hn2
      have hm1 : 0 ≤ (N : Int) * (K : Int) := Int.mul_nonneg (by omega) (by omega)
      have hm2 : (N : Int) * (K : Int) ≤ 65536 := by
        have : N * K ≤ 65536 := Nat.mul_le_mul hn2 hk4
        have h2 := Int.ofNat_le.2 this
        rw [Int.natCast_mul] at h2
        exact h2
      go_wp2
      go_round
      case rel => exact ⟨j + 1, by omega, by go_num, by rw [hn.out]; go_num⟩
      case measure => simp [intOf]; omega
    · obtain rfl : j = zs.length := by omega
      rw [List.take_length]
      have hN : numW K zs < xs.length / K := by
        rw [hhf.out.1, ← hzl.out]; exact numW_lt zs hzs.out
      have hlK : xs.length / K ≤ 16384 := Nat.le_trans (Nat.div_le_self _ _) hlen
      have hlKK : xs.length / K * K = xs.length := by rw [hhf.out.1]; exact hhf.out.2.symm
      have hlx := h.out.len
      generalize hN0 : numW K zs = N at hN
      replace hN0 := Lib.hid hN0
      have hq1 : (xs.length : Int) / (K : Int) ≤ 16384 := by rw [hqc.out]; omega
      have hq2 : 0 < (xs.length : Int) / (K : Int) := by rw [hqc.out]; omega
      replace hN := Lib.hid hN
      have hlK0 := Lib.hid hlK
      replace hlKK := Lib.hid hlKK
      clear z0 z1 z2 hlK hcp hsl hmk
      have hul := hui.out.len
      go_wp2
      go_loopw [14, 17] (fun n i wr => ∃ j : Nat, j ≤ ys.length ∧ i = .int .i64 ((j : Int) - 1) ∧ n = .int .i64 (leftS K xs N (ys.drop j)).1 ∧ OwnI w2.heap.size wr ov (List.replicate j 0 ++ (leftS K xs N (ys.drop j)).2 ++ zs) ∧ Below w2.heap.size w2 wr) (fun _ i _ => (intOf i + 1).toNat)
      case atStart => exact ⟨ys.length, by omega, rfl, by rw [List.drop_length]; rfl, by rw [List.drop_length]; simpa [leftS] using ho4.out, hbA⟩
      case round =>
        obtain ⟨j, hj, rfl, rfl, hO, hbO⟩ := hrel
        obtain ⟨wo, rfl⟩ : ∃ wo : World, wo = wr := ⟨_, rfl⟩
        cases j with
        | zero =>
          rw [show ((0 : Nat) : Int) - 1 = -1 from rfl]
          rw [List.drop_zero, List.replicate_zero, List.nil_append] at hO
          go_wp2
          go_ret2
          exact ⟨_, _, rfl, Below.step hb0 (Below.step hb hbO), (by rw [hN0.out]; exact hO.mono (by omega)), rfl⟩
        | succ j =>
          rw [show ((j + 1 : Nat) : Int) - 1 = (j : Int) by omega]
          have hjl : j < ys.length := by omega
          have hyi := hui.out.below hbO
          have i1 := hyi.idx j hjl
          have c1 := hyi.cell j hjl
          have b1 := hyi.blk j hjl
          obtain ⟨z0, z1, z2⟩ := keep3 hbO zz.out
          have hM := leftS_lt (T := xs) hk1 N hN.out (ys.drop (j + 1))
          have hD : Hid (leftS K xs N (ys.drop j) = ((fit K xs (leftS K xs N (ys.drop (j + 1))).1 (xs.length / K) ys[j] * (xs.length / K) + (leftS K xs N (ys.drop (j + 1))).1) / K, (fit K xs (leftS K xs N (ys.drop (j + 1))).1 (xs.length / K) ys[j] : Int) :: (leftS K xs N (ys.drop (j + 1))).2)) := by
            show _ = _
            rw [List.drop_eq_getElem_cons hjl]; rfl
          generalize ys[j] = x at c1 hD
          have hfl := fit_lt hk1 xs (leftS K xs N (ys.drop (j + 1))).1 (xs.length / K) x
          have hPl : (leftS K xs N (ys.drop (j + 1))).2.length ≤ 4096 := by rw [leftS_length]; simp; omega
          generalize leftS K xs N (ys.drop (j + 1)) = p at hO hM hD hfl hPl
          obtain ⟨M, P⟩ := p
          simp only [] at hO hM hD hfl hPl
          have hOl : j < (List.replicate (j + 1) (0 : Int) ++ P ++ zs).length := by simp; omega
          have hset : (List.replicate (j + 1) (0 : Int) ++ P ++ zs).set j (fit K xs M (xs.length / K) x : Int) = List.replicate j 0 ++ ((fit K xs M (xs.length / K) x : Int) :: P) ++ zs := by
            rw [List.replicate_succ', List.append_assoc, List.append_assoc, List.append_assoc, List.set_append_right _ _ (by simp)]
            simp
          have hin : M + (K - 1) * (xs.length / K) < xs.length := by
            have h1 : (K - 1 + 1) * (xs.length / K) = xs.length := by rw [Nat.sub_add_cancel hk1, Nat.mul_comm]; exact hlKK.out
            rw [Nat.succ_mul] at h1
            omega
          have hM1 : M ≤ 16384 := by have := hlK0.out; omega
          have hsm : fit K xs M (xs.length / K) x * (xs.length / K) ≤ 65536 := Nat.mul_le_mul (show _ ≤ 4 by omega) hlK0.out
          have hf : ∀ w_, IntsAt w_ (.slice va vn vc) xs → Calls Tryd.prog 39 #[.agg #[.int .i64 K, .int .i64 R, .slice va vn vc], .int .i64 M, .int .i64 ((xs.length : Int) / (K : Int)), .int .i64 x] w_ fun e w' => e = .returned (.int .i64 (fit K xs M (xs.length / K) x)) ∧ Below w_.heap.size w_ w' := by
            intro w_ h_
            rw [hqc.out]
            refine (perm_fits K R va vn vc xs M (xs.length / K) x w_ h_ hr.out hin).mono ?_
            rintro e w' ⟨h1, rfl⟩
            exact ⟨h1, belowAlloc _ _⟩
          generalize fit K xs M (xs.length / K) x = s at hset hD hfl hf hsm
          have hm1 : 0 ≤ (s : Int) * ((xs.length : Int) / (K : Int)) := Int.mul_nonneg (by omega) (by omega)
          have hm2 : (s : Int) * ((xs.length : Int) / (K : Int)) ≤ 65536 := by
            rw [hqc.out]
            have h2 := Int.ofNat_le.2 hsm
            rw [Int.natCast_mul] at h2
            exact h2
          have hdv0 : 0 ≤ ((s : Int) * ((xs.length : Int) / (K : Int)) + (M : Int)) / (K : Int) := Int.ediv_nonneg (by omega) (by omega)
          have hdvc : ((s : Int) * ((xs.length : Int) / (K : Int)) + (M : Int)) / (K : Int) = (((s * (xs.length / K) + M) / K : Nat) : Int) := by simp
          have hdv1 : ((s : Int) * ((xs.length : Int) / (K : Int)) + (M : Int)) / (K : Int) ≤ 131072 := by
            rw [hdvc]
            have : (s * (xs.length / K) + M) / K ≤ s * (xs.length / K) + M := Nat.div_le_self _ _
            omega
          have hdvw : IntKind.i64.wrap (((s : Int) * ((xs.length : Int) / (K : Int)) + (M : Int)) / (K : Int)) = ((s : Int) * ((xs.length : Int) / (K : Int)) + (M : Int)) / (K : Int) := wrapK (by omega) (by omega)
          replace hdvc := Lib.hid hdvc
          replace hset := Lib.hid hset
          replace hM := Lib.hid hM
          replace hO := Lib.hid hO
          replace hf := Lib.hid hf
          replace hin := Lib.hid hin
          have hxw := Lib.hid (hxi.out.below hbO)
          generalize List.replicate (j + 1) (0 : Int) ++ P ++ zs = O at hO hOl hset
          go_wp2
          go_region_held3 (fun w' => w'.cell? ⟨w.heap.size, 0, none⟩ = some (.int .i64 K) ∧ w'.cell? ⟨w.heap.size, 1, none⟩ = some (.int .i64 R) ∧ w'.cell? ⟨w.heap.size, 2, none⟩ = some (.slice va vn vc) ∧ w'.cell? (valAt (.slice ua un uc) j) = some (.int .i64 x)) (go_keep)
            (first | (go_at_call 39; refine (hf.out _ (by first | exact hxw.out.drew | exact hxw.out)).mono ?_; rintro e w5 ⟨rfl, hb'⟩; have S := keep3 hb' ⟨z0, z1, z2⟩; have y0 := S.1; have y1 := S.2.1; have y2 := S.2.2; have y3 := (hb'.cell b1).trans c1; have bb : Below wo.heap.size wo w5 := ((Below.refl _ _).drew).trans hb'))
          have hO5 := hO.out.below bb
          have hbT := hbO.trans (bb.mono hbO.size)
          have i3 := hO5.at.idx j hOl
          have c3 := hO5.at.cell j hOl
          have f3 := hO5.frz j hOl
          have hO6 := hO5.set j hOl (s : Int)
          have hb6 := hO5.setBelow hbT j hOl (.int .i64 (s : Int))
          obtain ⟨x0, x1, x2⟩ := keep3 hb6 zz.out
          rw [hset.out] at hO6
          replace hO6 := Lib.hid hO6
          generalize O[j] = o at c3
          clear hset hO5 hO y1 y2 y3 z0 z1 z2 c1 i1 x1 x2
          go_wp2
          go_roundw
          case rel =>
            refine ⟨j, by omega, by go_num, ?_, by rw [hD.out]; exact hO6.out, hb6⟩
            rw [hD.out, ← hdvc.out]
          case measure => simp [intOf]

/-- permut.Left at all operands. -/
theorem left_any (r : Nat → Addr) (k R : Int) (va : Option Addr) (vn vc : Nat) (xs : List Int) (u v : Value) (ys zs : List Int) (w : World) (hg : Glob r w) (h : IntsAt w (.slice va vn vc) xs) (hu : IntsAt w u ys) (hv : IntsAt w v zs) :
    Calls Tryd.prog 11 #[.agg #[.int .i64 k, .int .i64 R, .slice va vn vc], u, v] w (Ret2 (fun x y w' => ErrIs r w' (permF k R xs (xs.length / k.toNat) ys zs) y ∧ (permF k R xs (xs.length / k.toNat) ys zs = none → OwnI w.heap.size w' x ((leftS k.toNat xs (numW k.toNat zs) ys).2 ++ zs)) ∧ (permF k R xs (xs.length / k.toNat) ys zs ≠ none → x = .slice none 0 0)) w) := by
  cases hc : checkP k R xs with
  | some t =>
    have e : permF k R xs (xs.length / k.toNat) ys zs = under sPermut 0 (some t) := by simp [permF, hc]
    refine (left_bad1 r k R va vn vc xs u v t w hg h hc).mono ?_
    rintro e1 w' ⟨x, y, he, hb, hx, hy⟩
    exact ⟨x, y, he, hb, by rw [e]; exact hy, (fun h => by rw [e] at h; cases h), fun _ => hx⟩
  | none =>
    obtain ⟨K, R, rfl, rfl, hr⟩ := checkP_none hc
    rw [Int.toNat_natCast]
    cases hp : unlikeP K xs (xs.length / K) with
    | false =>
      have e : permF K R xs (xs.length / K) ys zs = fresh sPermut 0 3 := by simp [permF, hc, hp]
      refine (left_bad2 r K R va vn vc xs u v w hg h hr hp).mono ?_
      rintro e1 w' ⟨x, y, he, hb, hx, hy⟩
      exact ⟨x, y, he, hb, by rw [e]; exact hy, (fun h => by rw [e] at h; cases h), fun _ => hx⟩
    | true =>
      have e : permF K R xs (xs.length / K) ys zs = checkM K R ys zs := by simp [permF, hc, hp]
      cases hm : checkM K R ys zs with
      | some t =>
        rw [hm] at e
        refine (left_bad3 r K R va vn vc xs u v ys zs t w hg h hr hp hu hv hm).mono ?_
        rintro e1 w' ⟨x, y, he, hb, hx, hy⟩
        exact ⟨x, y, he, hb, by rw [e]; exact hy, (fun h => by rw [e] at h; cases h), fun _ => hx⟩
      | none =>
        rw [hm] at e
        refine (left_ok r K R va vn vc xs u v ys zs w hg h hr hp hu hv hm).mono ?_
        rintro e1 w' ⟨x, y, he, hb, hx, hy⟩
        exact ⟨x, y, he, hb, by rw [e]; exact hy, fun _ => hx, fun h => absurd e h⟩
end Go.Proofs.YtbpdmpcakenjhaaDoor

namespace Go.Proofs.YtbpdmpcakenjhaaDoor

/-- f 0 + .. + f (n - 1). -/
def Sm (f : Nat → Int) : Nat → Int
  | 0 => 0
  | n + 1 => Sm f n + f n
theorem Sm_congr {f g : Nat → Int} (n : Nat) (h : ∀ i, i < n → f i = g i) : Sm f n = Sm g n := by
  induction n with
  | zero => rfl
  | succ n ih => rw [Sm, Sm, ih fun i hi => h i (by omega), h n (by omega)]
theorem Sm_zero {f : Nat → Int} (n : Nat) (h : ∀ i, i < n → f i = 0) : Sm f n = 0 := by
  induction n with
  | zero => rfl
  | succ n ih => rw [Sm, ih fun i hi => h i (by omega), h n (by omega)]; rfl
theorem Sm_mod {f g : Nat → Int} {K : Int} (n : Nat) (h : ∀ i, i < n → f i % K = g i % K) : Sm f n % K = Sm g n % K := by
  induction n with
  | zero => rfl
  | succ n ih => rw [Sm, Sm, Int.add_emod, ih fun i hi => h i (by omega), h n (by omega), ← Int.add_emod]

/-- A cell set changes the sum by what it is more. -/
theorem Sm_set (O : List Int) (p : Nat) (v : Int) (hp : p < O.length) (u : Nat → Int) (n : Nat) :
    Sm (fun i => (O.set p v).getD i 0 * u i) n = Sm (fun i => O.getD i 0 * u i) n + if p < n then (v - O.getD p 0) * u p else 0 := by
  induction n with
  | zero => simp [Sm]
  | succ n ih =>
    rw [Sm, Sm, ih]
    by_cases e : n = p
    · subst e
      rw [if_neg (by omega), if_pos (by omega)]
      have : (O.set n v).getD n 0 = v := by simp [List.getD, hp]
      rw [this, Int.sub_mul]
      omega
    · have : (O.set p v).getD n 0 = O.getD n 0 := by simp [List.getD, show ¬ p = n by omega]
      rw [this]
      by_cases c : p < n
      · rw [if_pos c, if_pos (by omega)]; omega
      · rw [if_neg c, if_neg (by omega)]; omega

theorem mulRow_sum (K i : Nat) (x : Int) (b : List Int) (u : Nat → Int) (q : Nat) (O : List Int) (hq : i + q ≤ O.length) :
    Sm (fun t => (mulRow K i x b q O).getD t 0 * u t) O.length % K = (Sm (fun t => O.getD t 0 * u t) O.length + x * Sm (fun j => b.getD j 0 * u (i + j)) q) % K := by
  induction q with
  | zero => simp [mulRow, Sm]
  | succ q ih =>
    have ih' := ih (by omega)
    rw [mulRow, addAt, Sm_set _ _ _ (by rw [mulRow_length]; omega), if_pos (by omega), Int.add_emod, ih', ← Int.add_emod, Sm]
    generalize (mulRow K i x b q O).getD (i + q) 0 = z
    generalize Sm (fun j => b.getD j 0 * u (i + j)) q = A
    generalize Sm (fun t => O.getD t 0 * u t) O.length = B
    have e : (((z + x * b.getD q 0) % (K : Int) - z) * u (i + q)) % K = (x * b.getD q 0 * u (i + q)) % K := by
      rw [Int.mul_emod, Int.sub_emod, Int.emod_emod, ← Int.sub_emod, ← Int.mul_emod]
      congr 2
      omega
    rw [Int.add_emod, e, ← Int.add_emod]
    congr 1
    rw [Int.mul_add, Int.mul_assoc]
    omega

theorem mulAll_length' (K : Nat) (a b : List Int) (i : Nat) : (mulAll K a b i).length = a.length + b.length - 1 := mulAll_length ..

theorem mulAll_sum (K : Nat) (a b : List Int) (u : Nat → Int) (hb : 1 ≤ b.length) (i : Nat) (hi : i ≤ a.length) :
    Sm (fun t => (mulAll K a b i).getD t 0 * u t) (a.length + b.length - 1) % K = Sm (fun i => a.getD i 0 * Sm (fun j => b.getD j 0 * u (i + j)) b.length) i % K := by
  induction i with
  | zero =>
    rw [mulAll, Sm_zero]
    · rfl
    · intro t _
      by_cases c : t < a.length + b.length - 1
      · simp [List.getD, c]
      · simp [List.getD, c]
  | succ i ih =>
    have h := mulRow_sum K i (a.getD i 0) b u b.length (mulAll K a b i) (by rw [mulAll_length]; omega)
    rw [mulAll_length] at h
    rw [mulAll, h, Int.add_emod, ih (by omega), ← Int.add_emod, Sm]

/-- The product's sum. -/
theorem mulL_sum (K : Nat) (a b : List Int) (u : Nat → Int) (hb : 1 ≤ b.length) :
    Sm (fun t => (mulL K a b).getD t 0 * u t) (a.length + b.length - 1) % K = Sm (fun i => a.getD i 0 * (Sm (fun j => b.getD j 0 * u (i + j)) b.length % K)) a.length % K := by
  rw [mulL, mulAll_sum K a b u hb a.length (Nat.le_refl _)]
  refine Sm_mod _ fun i _ => ?_
  rw [Int.mul_emod, ← Int.mul_emod, Int.mul_emod (a.getD i 0) (_ % _), Int.emod_emod, ← Int.mul_emod]

theorem sumStep_at (K : Nat) (x : Int) (T : List Int) (n s : Nat) (hn : n < T.length) (hs : s < K) : (sumStep K x T).getD (n * K + s) 0 = (T.getD n 0 + x * s) % K := by
  induction T generalizing n with
  | nil => simp at hn
  | cons y T ih =>
    have e : sumStep K x (y :: T) = sumRow K x y K ++ sumStep K x T := by simp [sumStep]
    rw [e]
    cases n with
    | zero =>
      have h : s < (sumRow K x y K).length := by rw [sumRow_length]; exact hs
      rw [Nat.zero_mul, Nat.zero_add]
      simp only [List.getD, List.getElem?_append_left h]
      simp [sumRow, hs]
    | succ n =>
      have h : (sumRow K x y K).length ≤ (n + 1) * K + s := by rw [sumRow_length, Nat.succ_mul]; omega
      have e2 : (n + 1) * K + s - (sumRow K x y K).length = n * K + s := by rw [sumRow_length, Nat.succ_mul]; omega
      have := ih n (by simpa using hn)
      simp only [List.getD, List.getElem?_append_right h, e2, List.getElem?_cons_succ] at this ⊢
      exact this

theorem numW_bound {K : Nat} {w : List Int} (h : Syms K w) {f : List Int} (hl : f.length = w.length) : numW K w < (sumT K f).length := by
  rw [sumT_length, hl]; exact numW_lt w h

/-- A sum's symbol at a window. -/
theorem sumT_at (K : Nat) (f w : List Int) (hl : f.length = w.length) (hw : Syms K w) :
    (sumT K f).getD (numW K w) 0 = Sm (fun i => f.getD i 0 * w.getD i 0) f.length % K := by
  induction hn : f.length generalizing f w with
  | zero =>
    obtain rfl := List.eq_nil_of_length_eq_zero hn
    obtain rfl := List.eq_nil_of_length_eq_zero (hl.symm.trans hn)
    simp [sumT, sumTable, numW, Sm]
  | succ n ih =>
    have hf : f ≠ [] := by intro e; subst e; simp at hn
    have hwe : w ≠ [] := by intro e; subst e; simp at hl; exact hf hl
    obtain ⟨g, x, rfl⟩ : ∃ g x, f = g ++ [x] := ⟨f.dropLast, f.getLast hf, (List.dropLast_concat_getLast hf).symm⟩
    obtain ⟨v, y, rfl⟩ : ∃ v y, w = v ++ [y] := ⟨w.dropLast, w.getLast hwe, (List.dropLast_concat_getLast hwe).symm⟩
    have hgn : g.length = n := by simpa using hn
    have hgv : g.length = v.length := by simpa using hl
    have hv : Syms K v := fun z hz => hw z (by simp [hz])
    have hy := hw y (by simp)
    rw [numW_snoc, sumT, sumTable_snoc]
    have := sumStep_at K x (sumTable K [0] g) (numW K v) y.toNat (numW_bound hv hgv) (by omega)
    rw [this, show (sumTable K [0] g).getD (numW K v) 0 = (sumT K g).getD (numW K v) 0 from rfl, ih g v hgv hv hgn, Int.emod_add_emod, Sm]
    congr 2
    · refine Sm_congr _ fun i hi => ?_
      rw [← hgn] at hi
      simp only [List.getD, List.getElem?_append_left hi, List.getElem?_append_left (show i < v.length by omega)]
    · have e1 : (g ++ [x]).getD n 0 = x := by rw [← hgn]; simp [List.getD]
      have e2 : (v ++ [y]).getD n 0 = y := by rw [← hgn, hgv]; simp [List.getD]
      rw [e1, e2]
      rw [show ((y.toNat : Nat) : Int) = y by omega]

/-- The window of a number. -/
def digs (K : Nat) : Nat → Nat → List Int
  | 0, _ => []
  | n + 1, x => digs K n (x / K) ++ [((x % K : Nat) : Int)]
theorem digs_length (K n x : Nat) : (digs K n x).length = n := by
  induction n generalizing x with
  | zero => rfl
  | succ n ih => simp [digs, ih]
theorem digs_syms {K : Nat} (hK : 1 ≤ K) (n x : Nat) : Syms K (digs K n x) := by
  induction n generalizing x with
  | zero => intro y hy; simp [digs] at hy
  | succ n ih =>
    intro y hy
    rw [digs, List.mem_append, List.mem_singleton] at hy
    rcases hy with hy | rfl
    · exact ih _ y hy
    · have := Nat.mod_lt x (show 0 < K by omega); omega
theorem numW_digs {K : Nat} (hK : 1 ≤ K) (n x : Nat) (hx : x < pw K n) : numW K (digs K n x) = x := by
  induction n generalizing x with
  | zero => simp [pw] at hx; subst hx; rfl
  | succ n ih =>
    rw [digs, numW_snoc, ih _ (by rw [Nat.div_lt_iff_lt_mul (by omega), ← pw_succ]; exact hx), Int.toNat_natCast]
    exact Nat.div_add_mod' x K

/-- The image of a word, window by window. -/
def imgP (K R : Nat) (T : List Int) (w : List Int) : List Int := (List.range (w.length - 2 * R)).map fun i => T.getD (numW K ((w.drop i).take (2 * R + 1))) 0
/-- The table of one rule behind another. -/
def behindT (K R1 : Nat) (T1 : List Int) (R2 : Nat) (T2 : List Int) : List Int :=
  (List.range (pw K (2 * (R1 + R2) + 1))).map fun x => T1.getD (numW K (imgP K R2 T2 (digs K (2 * (R1 + R2) + 1) x))) 0

theorem imgP_length (K R : Nat) (T w : List Int) : (imgP K R T w).length = w.length - 2 * R := by simp [imgP]
theorem imgP_getD (K R : Nat) (T w : List Int) (i : Nat) (hi : i < w.length - 2 * R) : (imgP K R T w).getD i 0 = T.getD (numW K ((w.drop i).take (2 * R + 1))) 0 := by
  simp [imgP, List.getD, hi]
theorem imgP_syms {K : Nat} (hK : 1 ≤ K) {R : Nat} {T w : List Int} (hT : Syms K T) : Syms K (imgP K R T w) := by
  intro y hy
  obtain ⟨i, _, rfl⟩ := List.mem_map.1 hy
  exact hT.getD (by omega) _

theorem window_sum {K R1 R2 : Nat} (hK : 1 ≤ K) {a b w : List Int} (ha : a.length = 2 * R1 + 1) (hb : b.length = 2 * R2 + 1) (hw : Syms K w) (hl : w.length = 2 * (R1 + R2) + 1) :
    (sumT K a).getD (numW K (imgP K R2 (sumT K b) w)) 0 = (sumT K (mulL K a b)).getD (numW K w) 0 := by
  have hml : (mulL K a b).length = a.length + b.length - 1 := mulL_length ..
  rw [sumT_at K a _ (by rw [imgP_length]; omega) (imgP_syms hK (sumT_syms hK b)), sumT_at K (mulL K a b) w (by omega) hw, hml, mulL_sum K a b (fun i => w.getD i 0) (by omega)]
  refine Sm_mod _ fun i hi => ?_
  rw [imgP_getD _ _ _ _ _ (by omega)]
  congr 2
  have hwl : ((w.drop i).take (2 * R2 + 1)).length = 2 * R2 + 1 := by simp; omega
  rw [sumT_at K b _ (by omega) (fun x hx => hw x (List.mem_of_mem_drop (List.mem_of_mem_take hx)))]
  congr 1
  refine Sm_congr _ fun j hj => ?_
  congr 1
  simp [List.getD, List.getElem?_drop, show j < 2 * R2 + 1 by omega]

/-- One sum behind another is the sum of the product. -/
theorem behind_sum {K R1 R2 : Nat} (hK : 1 ≤ K) {a b : List Int} (ha : a.length = 2 * R1 + 1) (hb : b.length = 2 * R2 + 1) :
    behindT K R1 (sumT K a) R2 (sumT K b) = sumT K (mulL K a b) := by
  have hml : (mulL K a b).length = 2 * (R1 + R2) + 1 := by rw [mulL_length]; omega
  refine List.ext_getElem (by simp [behindT, sumT_length, hml]) fun x h1 h2 => ?_
  have hx : x < pw K (2 * (R1 + R2) + 1) := by simpa [behindT] using h1
  simp only [behindT, List.getElem_map, List.getElem_range]
  rw [window_sum hK ha hb (digs_syms hK _ _) (digs_length ..), numW_digs hK _ _ hx]
  simp [List.getD, h2]
end Go.Proofs.YtbpdmpcakenjhaaDoor

namespace Go.Proofs.YtbpdmpcakenjhaaDoor

theorem numW_append (K : Nat) (u v : List Int) : numW K (u ++ v) = numW K u * pw K v.length + numW K v := by
  induction hn : v.length generalizing v with
  | zero =>
    obtain rfl := List.eq_nil_of_length_eq_zero hn
    simp [numW, pw]
  | succ n ih =>
    have hne : v ≠ [] := by intro e; subst e; simp at hn
    obtain ⟨b, x, rfl⟩ : ∃ b x, v = b ++ [x] := ⟨v.dropLast, v.getLast hne, (List.dropLast_concat_getLast hne).symm⟩
    have hb : b.length = n := by simpa using hn
    rw [← List.append_assoc, numW_snoc, numW_snoc, ih b hb, pw_succ, Nat.add_mul, Nat.mul_assoc]
    omega
theorem numW_mod {K : Nat} {u v : List Int} (h : Syms K v) : numW K (u ++ v) % pw K v.length = numW K v := by
  rw [numW_append, Nat.mul_comm, Nat.mul_add_mod, Nat.mod_eq_of_lt (numW_lt v h)]

/-- One symbol more. -/
theorem imgP_snoc {K R : Nat} {T w : List Int} {x : Int} (hT : T.length = pw K (2 * R + 1)) (hw : Syms K (w ++ [x])) :
    imgP K R T (w ++ [x]) = if 2 * R ≤ w.length then imgP K R T w ++ [T.getD (numW K (w ++ [x]) % T.length) 0] else imgP K R T w := by
  by_cases h : 2 * R ≤ w.length
  · rw [if_pos h]
    unfold imgP
    rw [show (w ++ [x]).length - 2 * R = (w.length - 2 * R) + 1 by simp; omega, List.range_succ, List.map_append]
    congr 1
    · refine List.map_congr_left fun i hi => ?_
      have hi' := List.mem_range.1 hi
      congr 2
      rw [List.drop_append_of_le_length (by omega), List.take_append_of_le_length (by simp; omega)]
    · simp only [List.map_cons, List.map_nil]
      congr 2
      have e : ((w ++ [x]).drop (w.length - 2 * R)).take (2 * R + 1) = (w ++ [x]).drop (w.length - 2 * R) := List.take_of_length_le (by simp; omega)
      rw [e, hT]
      have hl : ((w ++ [x]).drop (w.length - 2 * R)).length = 2 * R + 1 := by simp; omega
      have := numW_mod (K := K) (u := (w ++ [x]).take (w.length - 2 * R)) (v := (w ++ [x]).drop (w.length - 2 * R)) (fun y hy => hw y (List.mem_of_mem_drop hy))
      rw [List.take_append_drop, hl] at this
      exact this.symm
  · rw [if_neg h]
    unfold imgP
    rw [show (w ++ [x]).length - 2 * R = 0 by simp; omega, show w.length - 2 * R = 0 by omega]
    rfl
theorem numW_step (K : Nat) (w : List Int) (x : Int) (L : Nat) : numW K (w ++ [x]) % L = (numW K w % L * K + x.toNat) % L := by
  rw [numW_snoc, Nat.add_mod, Nat.mul_mod, ← Nat.mod_mod (numW K w) L, ← Nat.mul_mod, ← Nat.add_mod, Nat.mod_mod]

/-- A window's digits, from the last on. -/
theorem digs_getD (K n x j : Nat) (hj : j < n) : (digs K n x).getD (n - 1 - j) 0 = ((x / pw K j % K : Nat) : Int) := by
  induction n generalizing x j with
  | zero => omega
  | succ n ih =>
    rw [digs]
    cases j with
    | zero =>
      rw [pw_zero, Nat.div_one, show n + 1 - 1 - 0 = (digs K n (x / K)).length by rw [digs_length]; omega]
      simp [List.getD]
    | succ j =>
      have h := ih (x / K) j (by omega)
      have hl : n + 1 - 1 - (j + 1) < (digs K n (x / K)).length := by rw [digs_length]; omega
      simp only [List.getD, List.getElem?_append_left hl] at h ⊢
      rw [show n + 1 - 1 - (j + 1) = n - 1 - j by omega, h, pw_succ, Nat.div_div_eq_div_mul, Nat.mul_comm]

/-- The window's list while it is filled from its end. -/
theorem digs_fill (K n x j : Nat) (hj : j < n) (p : List Int) (hp : p.length = n) :
    (p.take (n - j) ++ (digs K n x).drop (n - j)).set (n - 1 - j) ((x / pw K j % K : Nat) : Int) = p.take (n - (j + 1)) ++ (digs K n x).drop (n - (j + 1)) := by
  have hd := digs_getD K n x j hj
  have hdl := digs_length K n x
  rw [show n - (j + 1) = n - 1 - j by omega, show n - j = n - 1 - j + 1 by omega]
  have hm : n - 1 - j < n := by omega
  generalize n - 1 - j = m at hd hm
  rw [← hd, take_snoc p m (by omega), List.drop_eq_getElem_cons (show m < (digs K n x).length by omega), List.append_assoc, List.set_append_right _ _ (by simp; omega)]
  have e : m - (p.take m).length = 0 := by simp; omega
  rw [e]
  simp [List.getD, show m < (digs K n x).length by omega]
end Go.Proofs.YtbpdmpcakenjhaaDoor

namespace Go.Proofs.YtbpdmpcakenjhaaDoor

theorem numW_cons (K : Nat) (s : Int) (u : List Int) : numW K (s :: u) = s.toNat * pw K u.length + numW K u := by
  have := numW_append K [s] u
  simpa [numW] using this

theorem digs_numW {K : Nat} (hK : 1 ≤ K) (w : List Int) (h : Syms K w) : digs K w.length (numW K w) = w := by
  induction hn : w.length generalizing w with
  | zero => obtain rfl := List.eq_nil_of_length_eq_zero hn; rfl
  | succ n ih =>
    have hne : w ≠ [] := by intro e; subst e; simp at hn
    obtain ⟨b, x, rfl⟩ : ∃ b x, w = b ++ [x] := ⟨w.dropLast, w.getLast hne, (List.dropLast_concat_getLast hne).symm⟩
    have hb : b.length = n := by simpa using hn
    have hx := h x (by simp)
    have hxn : x.toNat < K := by omega
    have := ih b (fun y hy => h y (by simp [hy])) hb
    rw [digs, numW_snoc]
    rw [show (numW K b * K + x.toNat) / K = numW K b by rw [Nat.mul_comm, Nat.mul_add_div (by omega), Nat.div_eq_of_lt hxn, Nat.add_zero], this,
      show (numW K b * K + x.toNat) % K = x.toNat by rw [Nat.mul_comm, Nat.mul_add_mod, Nat.mod_eq_of_lt hxn]]
    congr 2
    omega

/-- The mirrored table. -/
def mirT (K n : Nat) (T : List Int) : List Int := (List.range T.length).map fun i => T.getD (numW K (digs K n i).reverse) 0
theorem mirT_length (K n : Nat) (T : List Int) : (mirT K n T).length = T.length := by simp [mirT]
theorem mirT_syms {K : Nat} (hK : 1 ≤ K) (n : Nat) {T : List Int} (h : Syms K T) : Syms K (mirT K n T) := by
  intro y hy
  obtain ⟨i, _, rfl⟩ := List.mem_map.1 hy
  exact h.getD (by omega) _
theorem mirT_at {K n : Nat} (hK : 1 ≤ K) {T : List Int} (hT : T.length = pw K n) (w : List Int) (hw : Syms K w) (hl : w.length = n) : (mirT K n T).getD (numW K w) 0 = T.getD (numW K w.reverse) 0 := by
  have hlt := numW_lt w hw
  rw [hl, ← hT] at hlt
  have : (mirT K n T).getD (numW K w) 0 = T.getD (numW K (digs K n (numW K w)).reverse) 0 := by simp [mirT, List.getD, hlt]
  rw [this, ← hl, digs_numW hK w hw]
theorem mirT_ok {K R : Nat} {T : List Int} (h : RuleOk K R T) : RuleOk K R (mirT K (2 * R + 1) T) :=
  ⟨h.k1, h.k4, h.r3, by rw [mirT_length]; exact h.len, mirT_syms h.k1 _ h.syms⟩

/-- edenref19.right's answer. -/
def rightR (K : Nat) (T : List Int) : Bool := decide (∀ i, i < T.length → ∀ j, j < T.length → i < j → j / K = i / K → T.getD i 0 ≠ T.getD j 0)
theorem rightR_false {K : Nat} {T : List Int} (i j : Nat) (hj : j < T.length) (h : i < j) (hq : j / K = i / K) (e : T.getD i 0 = T.getD j 0) : rightR K T = false := by
  rw [rightR, decide_eq_false_iff_not]
  intro hh
  exact hh i (by omega) j hj h hq e
theorem rightR_true {K : Nat} {T : List Int} (h : ∀ i, i < T.length → ∀ j, j < T.length → i < j → j / K = i / K → T.getD i 0 ≠ T.getD j 0) : rightR K T = true := by
  rw [rightR, decide_eq_true_iff]; exact h

theorem bits2 : ∀ a b : Fin 2, ((0 ||| 2 ^ a.val) ||| 2 ^ b.val == 2 ^ 2 - 1) = decide (a ≠ b) := by decide
theorem bits3 : ∀ a b c : Fin 3, (((0 ||| 2 ^ a.val) ||| 2 ^ b.val) ||| 2 ^ c.val == 2 ^ 3 - 1) = decide (a ≠ b ∧ a ≠ c ∧ b ≠ c) := by decide
theorem bits4 : ∀ a b c d : Fin 4, ((((0 ||| 2 ^ a.val) ||| 2 ^ b.val) ||| 2 ^ c.val) ||| 2 ^ d.val == 2 ^ 4 - 1) = decide (a ≠ b ∧ a ≠ c ∧ a ≠ d ∧ b ≠ c ∧ b ≠ d ∧ c ≠ d) := by decide +kernel

theorem fullP_iff {K : Nat} (h1 : 1 ≤ K) (h4 : K ≤ 4) {T : List Int} (hT : Syms K T) (W i : Nat) :
    fullP K T W i = true ↔ ∀ s t, s < t → t < K → T.getD (i + s * W) 0 ≠ T.getD (i + t * W) 0 := by
  have hx : ∀ s, ∃ a : Fin K, T.getD (i + s * W) 0 = (a.val : Int) := fun s => by
    have := hT.getD (by omega) (i + s * W)
    exact ⟨⟨(T.getD (i + s * W) 0).toNat, by omega⟩, by simp only []; omega⟩
  have hk : K = 1 ∨ K = 2 ∨ K = 3 ∨ K = 4 := by omega
  unfold fullP
  rcases hk with rfl | rfl | rfl | rfl
  · obtain ⟨a, ha⟩ := hx 0
    simp only [seenP, ha, Int.toNat_natCast]
    have : a.val = 0 := by omega
    rw [this]
    exact ⟨fun _ s t h h' => by omega, fun _ => rfl⟩
  · obtain ⟨a, ha⟩ := hx 0
    obtain ⟨b, hb⟩ := hx 1
    simp only [seenP, ha, hb, Int.toNat_natCast, bits2, decide_eq_true_iff]
    constructor
    · intro h s t hst ht
      obtain rfl : s = 0 := by omega
      obtain rfl : t = 1 := by omega
      rw [ha, hb]
      intro e; exact h (Fin.ext (by omega))
    · intro h e
      have := h 0 1 (by omega) (by omega)
      rw [ha, hb, e] at this; exact this rfl
  · obtain ⟨a, ha⟩ := hx 0
    obtain ⟨b, hb⟩ := hx 1
    obtain ⟨c, hc⟩ := hx 2
    simp only [seenP, ha, hb, hc, Int.toNat_natCast, bits3, decide_eq_true_iff]
    constructor
    · rintro ⟨n1, n2, n3⟩ s t hst ht
      have : (s = 0 ∧ t = 1) ∨ (s = 0 ∧ t = 2) ∨ (s = 1 ∧ t = 2) := by omega
      rcases this with ⟨rfl, rfl⟩ | ⟨rfl, rfl⟩ | ⟨rfl, rfl⟩
      · rw [ha, hb]; intro e; exact n1 (Fin.ext (by omega))
      · rw [ha, hc]; intro e; exact n2 (Fin.ext (by omega))
      · rw [hb, hc]; intro e; exact n3 (Fin.ext (by omega))
    · intro h
      refine ⟨fun e => ?_, fun e => ?_, fun e => ?_⟩
      · have := h 0 1 (by omega) (by omega); rw [ha, hb, e] at this; exact this rfl
      · have := h 0 2 (by omega) (by omega); rw [ha, hc, e] at this; exact this rfl
      · have := h 1 2 (by omega) (by omega); rw [hb, hc, e] at this; exact this rfl
  · obtain ⟨a, ha⟩ := hx 0
    obtain ⟨b, hb⟩ := hx 1
    obtain ⟨c, hc⟩ := hx 2
    obtain ⟨d, hd⟩ := hx 3
    simp only [seenP, ha, hb, hc, hd, Int.toNat_natCast, bits4, decide_eq_true_iff]
    constructor
    · rintro ⟨n1, n2, n3, n4, n5, n6⟩ s t hst ht
      have : (s = 0 ∧ t = 1) ∨ (s = 0 ∧ t = 2) ∨ (s = 0 ∧ t = 3) ∨ (s = 1 ∧ t = 2) ∨ (s = 1 ∧ t = 3) ∨ (s = 2 ∧ t = 3) := by omega
      rcases this with ⟨rfl, rfl⟩ | ⟨rfl, rfl⟩ | ⟨rfl, rfl⟩ | ⟨rfl, rfl⟩ | ⟨rfl, rfl⟩ | ⟨rfl, rfl⟩
      · rw [ha, hb]; intro e; exact n1 (Fin.ext (by omega))
      · rw [ha, hc]; intro e; exact n2 (Fin.ext (by omega))
      · rw [ha, hd]; intro e; exact n3 (Fin.ext (by omega))
      · rw [hb, hc]; intro e; exact n4 (Fin.ext (by omega))
      · rw [hb, hd]; intro e; exact n5 (Fin.ext (by omega))
      · rw [hc, hd]; intro e; exact n6 (Fin.ext (by omega))
    · intro h
      refine ⟨fun e => ?_, fun e => ?_, fun e => ?_, fun e => ?_, fun e => ?_, fun e => ?_⟩
      · have := h 0 1 (by omega) (by omega); rw [ha, hb, e] at this; exact this rfl
      · have := h 0 2 (by omega) (by omega); rw [ha, hc, e] at this; exact this rfl
      · have := h 0 3 (by omega) (by omega); rw [ha, hd, e] at this; exact this rfl
      · have := h 1 2 (by omega) (by omega); rw [hb, hc, e] at this; exact this rfl
      · have := h 1 3 (by omega) (by omega); rw [hb, hd, e] at this; exact this rfl
      · have := h 2 3 (by omega) (by omega); rw [hc, hd, e] at this; exact this rfl

theorem unlikeP_iff {K : Nat} {T : List Int} {W : Nat} : unlikeP K T W = true ↔ ∀ i, i < T.length → i / W % K = 0 → fullP K T W i = true :=
  ⟨fun h i => unlikeP_full h i, unlikeP_true⟩

theorem mul_add_lt {K q s m : Nat} (hs : s < K) (hq : q < m) : q * K + s < m * K := by
  have := Nat.mul_le_mul_right K (show q + 1 ≤ m from hq)
  rw [Nat.succ_mul] at this
  omega
theorem div_mk {K q s : Nat} (hs : s < K) : (q * K + s) / K = q := by
  rw [Nat.mul_comm, Nat.mul_add_div (by omega), Nat.div_eq_of_lt hs, Nat.add_zero]
theorem mod_mk {K q s : Nat} (hs : s < K) : (q * K + s) % K = s := by
  rw [Nat.mul_comm, Nat.mul_add_mod, Nat.mod_eq_of_lt hs]

/-- The last place permutes: the program's test is the document's. -/
theorem unlike_right {K R : Nat} {T : List Int} (h : RuleOk K R T) : unlikeP K T 1 = rightR K T := by
  have h1 := h.k1
  have hl := h.half.2
  rw [Bool.eq_iff_iff, unlikeP_iff, rightR, decide_eq_true_iff]
  constructor
  · intro hu i hi j hj hij hq
    have e1 := Nat.div_add_mod' i K
    have e2 := Nat.div_add_mod' j K
    have m1 := Nat.mod_lt i (show K > 0 by omega)
    have m2 := Nat.mod_lt j (show K > 0 by omega)
    rw [hq] at e2
    have := (fullP_iff h1 h.k4 h.syms 1 (i / K * K)).1 (hu _ (by omega) (by rw [Nat.div_one, Nat.mul_mod_left])) (i % K) (j % K) (by omega) m2
    rwa [Nat.mul_one, Nat.mul_one, e1, e2] at this
  · intro hr i hi hm
    rw [Nat.div_one] at hm
    obtain ⟨q, rfl⟩ : ∃ q, i = q * K := ⟨i / K, by have := Nat.div_add_mod' i K; omega⟩
    have hq : q < pw K (2 * R) := Nat.lt_of_mul_lt_mul_right (a := K) (by rw [← hl]; exact hi)
    refine (fullP_iff h1 h.k4 h.syms 1 _).2 fun s t hst ht => ?_
    have l2 := mul_add_lt ht hq
    rw [← hl] at l2
    have := hr (q * K + s) (by omega) (q * K + t) l2 (by omega) (by rw [div_mk ht, div_mk (by omega)])
    rwa [Nat.mul_one, Nat.mul_one]

theorem digs_snoc {K : Nat} (n x : Nat) : digs K (n + 1) x = digs K n (x / K) ++ [((x % K : Nat) : Int)] := rfl

/-- The first place permutes just if the mirrored rule's last does. -/
theorem unlike_left {K R : Nat} {T : List Int} (h : RuleOk K R T) : unlikeP K T (T.length / K) = rightR K (mirT K (2 * R + 1) T) := by
  have h1 := h.k1
  obtain ⟨hW, hl⟩ := h.half
  have hMl := mirT_length K (2 * R + 1) T
  have hp := pw_pos (K := K) (2 * R) h1
  rw [hW, Bool.eq_iff_iff, unlikeP_iff, rightR, decide_eq_true_iff, hMl]
  have key : ∀ q s, q < pw K (2 * R) → s < K → (mirT K (2 * R + 1) T).getD (q * K + s) 0 = T.getD (numW K (digs K (2 * R) q).reverse + s * pw K (2 * R)) 0 := by
    intro q s hq hs
    have hsy : Syms K (digs K (2 * R) q ++ [(s : Int)]) := by
      intro y hy
      rcases List.mem_append.1 hy with hy | hy
      · exact digs_syms h1 _ _ y hy
      · rw [List.mem_singleton] at hy; subst hy; omega
    have := mirT_at h1 h.len (digs K (2 * R) q ++ [(s : Int)]) hsy (by simp [digs_length])
    rw [numW_snoc, numW_digs h1 _ _ hq, Int.toNat_natCast, List.reverse_append, List.reverse_singleton, List.singleton_append, numW_cons, Int.toNat_natCast, List.length_reverse, digs_length, Nat.add_comm (s * _)] at this
    exact this
  have rsy : ∀ q, Syms K (digs K (2 * R) q).reverse := fun q y hy => digs_syms h1 _ _ y (List.mem_reverse.1 hy)
  have rlt : ∀ q, numW K (digs K (2 * R) q).reverse < pw K (2 * R) := fun q => by
    have := numW_lt _ (rsy q)
    rwa [List.length_reverse, digs_length] at this
  constructor
  · intro hu i hi j hj hij hq
    have e1 := Nat.div_add_mod' i K
    have e2 := Nat.div_add_mod' j K
    have m1 := Nat.mod_lt i (show K > 0 by omega)
    have m2 := Nat.mod_lt j (show K > 0 by omega)
    rw [hq] at e2
    have hqi : i / K < pw K (2 * R) := by rw [Nat.div_lt_iff_lt_mul (by omega), ← hl]; exact hi
    have a1 := key (i / K) (i % K) hqi m1
    have a2 := key (i / K) (j % K) hqi m2
    rw [e1] at a1
    rw [e2] at a2
    rw [a1, a2]
    have lt := rlt (i / K)
    refine (fullP_iff h1 h.k4 h.syms (pw K (2 * R)) _).1 (hu _ ?_ ?_) (i % K) (j % K) (by omega) m2
    · rw [hl]; have := Nat.mul_le_mul_left (pw K (2 * R)) h1; omega
    · rw [Nat.div_eq_of_lt lt, Nat.zero_mod]
  · intro hr i hi hm
    have hiW : i < pw K (2 * R) := by
      have hdl : i / pw K (2 * R) < K := by rw [Nat.div_lt_iff_lt_mul (by omega), Nat.mul_comm, ← hl]; exact hi
      rw [Nat.mod_eq_of_lt hdl] at hm
      have := Nat.div_add_mod i (pw K (2 * R))
      have := Nat.mod_lt i (show pw K (2 * R) > 0 by omega)
      rw [hm] at *
      omega
    refine (fullP_iff h1 h.k4 h.syms (pw K (2 * R)) i).2 fun s t hst ht => ?_
    have hq := rlt i
    have a1 := key _ s hq (by omega)
    have a2 := key _ t hq ht
    have back : numW K (digs K (2 * R) (numW K (digs K (2 * R) i).reverse)).reverse = i := by
      have := digs_numW h1 _ (rsy i)
      rw [List.length_reverse, digs_length] at this
      rw [this, List.reverse_reverse, numW_digs h1 _ _ hiW]
    rw [back] at a1 a2
    rw [← a1, ← a2]
    have l2 := mul_add_lt ht hq
    rw [← hl] at l2
    exact hr _ (by omega) _ l2 (by omega) (by rw [div_mk ht, div_mk (by omega)])

/-- The symbols to the right, and the node behind them: the last 2 R symbols. -/
theorem num_shift {K : Nat} {u : List Int} {s : Int} (h : Syms K (u ++ [s])) : numW K ((u ++ [s]).drop 1) = numW K (u ++ [s]) % pw K u.length := by
  have hl : ((u ++ [s]).drop 1).length = u.length := by simp
  have := numW_mod (K := K) (u := (u ++ [s]).take 1) (v := (u ++ [s]).drop 1) (fun y hy => h y (List.mem_of_mem_drop hy))
  rw [List.take_append_drop, hl] at this
  exact this.symm
theorem rightP_syms {K : Nat} (hK : 1 ≤ K) (T : List Int) (node : Nat) (w : List Int) : Syms K (rightP K T node w) := by
  induction w generalizing node with
  | nil => intro y hy; cases hy
  | cons x w ih =>
    intro y hy
    rw [rightP, List.mem_cons] at hy
    rcases hy with rfl | hy
    · have := fit_lt hK T (node * K) 1 x; omega
    · exact ih _ y hy
theorem on_front {K R : Nat} {T : List Int} (hK : 1 ≤ K) (hW : T.length / K = pw K (2 * R)) (zs ys : List Int) (hz : Syms K zs) (hl : zs.length = 2 * R) :
    numW K ((zs ++ rightP K T (numW K zs) ys).drop ys.length) = rightN K T (numW K zs) ys := by
  induction hn : ys.length generalizing ys with
  | zero => obtain rfl := List.eq_nil_of_length_eq_zero hn; simp [rightP, rightN]
  | succ n ih =>
    have hne : ys ≠ [] := by intro e; subst e; simp at hn
    obtain ⟨b, x, rfl⟩ : ∃ b x, ys = b ++ [x] := ⟨ys.dropLast, ys.getLast hne, (List.dropLast_concat_getLast hne).symm⟩
    have hb : b.length = n := by simpa using hn
    have ih' := ih b hb
    rw [rightP_snoc, rightN_snoc, ← List.append_assoc, ← ih', hW]
    have hPl := rightP_length K T (numW K zs) b
    have hs := fit_lt hK T (numW K ((zs ++ rightP K T (numW K zs) b).drop n) * K) 1 x
    generalize fit K T (numW K ((zs ++ rightP K T (numW K zs) b).drop n) * K) 1 x = s at *
    have hu : Syms K (zs ++ rightP K T (numW K zs) b) := by
      intro y hy
      rcases List.mem_append.1 hy with hy | hy
      · exact hz y hy
      · exact rightP_syms hK _ _ _ y hy
    have hul : (zs ++ rightP K T (numW K zs) b).length = 2 * R + n := by simp [hPl, hl, hb]
    generalize zs ++ rightP K T (numW K zs) b = u at *
    have e : (u ++ [(s : Int)]).drop (n + 1) = (u.drop n ++ [(s : Int)]).drop 1 := by
      rw [← List.drop_drop, List.drop_append_of_le_length (by omega)]
    have hdl : (u.drop n).length = 2 * R := by simp; omega
    rw [e, num_shift, numW_snoc, hdl, Int.toNat_natCast]
    intro y hy
    rcases List.mem_append.1 hy with hy | hy
    · exact hu y (List.mem_of_mem_drop hy)
    · rw [List.mem_singleton] at hy; subst hy; omega

theorem fitP_congr {T M : List Int} {r1 W1 r2 W2 : Nat} (image : Int) (n s : Nat) (h : ∀ t, t < s + n → T.getD (r1 + t * W1) 0 = M.getD (r2 + t * W2) 0) : fitP T r1 W1 image n s = fitP M r2 W2 image n s := by
  induction n generalizing s with
  | zero => rfl
  | succ n ih => rw [fitP, fitP, h s (by omega), ih (s + 1) (fun t ht => h t (by omega))]

/-- The symbols to the left are those to the right by the mirrored rule, mirrored. -/
theorem left_mirror {K R : Nat} {T : List Int} (h : RuleOk K R T) (zs ys : List Int) (hz : Syms K zs) (hl : zs.length = 2 * R) :
    ∃ u, u.length = 2 * R ∧ Syms K u ∧ (leftS K T (numW K zs) ys).1 = numW K u ∧ rightN K (mirT K (2 * R + 1) T) (numW K zs.reverse) ys.reverse = numW K u.reverse ∧
      (leftS K T (numW K zs) ys).2 = (rightP K (mirT K (2 * R + 1) T) (numW K zs.reverse) ys.reverse).reverse := by
  have h1 := h.k1
  obtain ⟨hW, hlen⟩ := h.half
  have hMW : (mirT K (2 * R + 1) T).length / K = pw K (2 * R) := by rw [mirT_length]; exact hW
  induction ys with
  | nil => exact ⟨zs, hl, hz, rfl, rfl, rfl⟩
  | cons x w ih =>
    obtain ⟨u, hul, hu, e1, e2, e3⟩ := ih
    have hf : fit K T (numW K u) (T.length / K) x = fit K (mirT K (2 * R + 1) T) (numW K u.reverse * K) 1 x := by
      refine fitP_congr x K 0 fun t ht => ?_
      have hsy : Syms K (u.reverse ++ [(t : Int)]) := by
        intro y hy
        rcases List.mem_append.1 hy with hy | hy
        · exact hu y (List.mem_reverse.1 hy)
        · rw [List.mem_singleton] at hy; subst hy; omega
      have := mirT_at h1 h.len (u.reverse ++ [(t : Int)]) hsy (by simp [hul])
      rw [numW_snoc, Int.toNat_natCast, List.reverse_append, List.reverse_singleton, List.singleton_append, List.reverse_reverse, numW_cons, Int.toNat_natCast, hul] at this
      rw [hW, Nat.mul_one, this, Nat.add_comm]
    have hs := fit_lt h1 T (numW K u) (T.length / K) x
    have es : (leftS K T (numW K zs) (x :: w)) = ((fit K T (numW K u) (T.length / K) x * (T.length / K) + numW K u) / K, (fit K T (numW K u) (T.length / K) x : Int) :: (leftS K T (numW K zs) w).2) := by
      rw [leftS, e1]
    rw [es, List.reverse_cons, rightP_snoc, rightN_snoc, e2, ← hf, e3, hMW]
    rw [hW] at hf hs es ⊢
    generalize fit K T (numW K u) (pw K (2 * R)) x = s at *
    have hsu : Syms K ((s : Int) :: u) := by
      intro y hy
      rcases List.mem_cons.1 hy with rfl | hy
      · omega
      · exact hu y hy
    have hne : ((s : Int) :: u) ≠ [] := by simp
    have hcat := List.dropLast_concat_getLast hne
    have hv : Syms K ((s : Int) :: u).dropLast := fun y hy => hsu y (List.dropLast_subset _ hy)
    refine ⟨((s : Int) :: u).dropLast, by simp [hul], hv, ?_, ?_, ?_⟩
    · have e := numW_cons K s u
      rw [Int.toNat_natCast, hul] at e
      show (s * pw K (2 * R) + numW K u) / K = _
      rw [← e, ← hcat, numW_snoc, hcat, div_mk]
      have := hsu _ (List.getLast_mem hne)
      omega
    · have e : (u.reverse ++ [(s : Int)]).drop 1 = ((s : Int) :: u).dropLast.reverse := by
        rw [List.dropLast_eq_take, List.reverse_take]
        simp
      have hr : Syms K (u.reverse ++ [(s : Int)]) := by
        intro y hy
        apply hsu
        simpa [or_comm] using hy
      rw [← e, num_shift hr, numW_snoc, List.length_reverse, hul, Int.toNat_natCast]
    · simp
end Go.Proofs.YtbpdmpcakenjhaaDoor

namespace Go.Proofs.YtbpdmpcakenjhaaDoor

theorem syms_cons {K : Nat} {s : Int} {u : List Int} (h0 : 0 ≤ s) (h1 : s < K) (hu : Syms K u) : Syms K (s :: u) := by
  intro y hy
  rcases List.mem_cons.1 hy with rfl | hy
  · exact ⟨h0, h1⟩
  · exact hu y hy
theorem syms_snoc {K : Nat} {s : Int} {u : List Int} (h0 : 0 ≤ s) (h1 : s < K) (hu : Syms K u) : Syms K (u ++ [s]) := by
  intro y hy
  rcases List.mem_append.1 hy with hy | hy
  · exact hu y hy
  · rw [List.mem_singleton] at hy; subst hy; exact ⟨h0, h1⟩
theorem syms_rev {K : Nat} {u : List Int} (hu : Syms K u) : Syms K u.reverse := fun y hy => hu y (List.mem_reverse.1 hy)

/-- The first symbol of the window permutes. -/
def LeftW (K m : Nat) (T : List Int) : Prop := ∀ u, Syms K u → u.length = m → ∀ s t : Int, 0 ≤ s → s < K → 0 ≤ t → t < K → s ≠ t → T.getD (numW K (s :: u)) 0 ≠ T.getD (numW K (t :: u)) 0
/-- The last one does. -/
def RightW (K m : Nat) (T : List Int) : Prop := ∀ u, Syms K u → u.length = m → ∀ s t : Int, 0 ≤ s → s < K → 0 ≤ t → t < K → s ≠ t → T.getD (numW K (u ++ [s])) 0 ≠ T.getD (numW K (u ++ [t])) 0

theorem unlike_leftW {K R : Nat} {T : List Int} (h : RuleOk K R T) : unlikeP K T (T.length / K) = true ↔ LeftW K (2 * R) T := by
  have h1 := h.k1
  obtain ⟨hW, hl⟩ := h.half
  have hp := pw_pos (K := K) (2 * R) h1
  rw [hW, unlikeP_iff]
  constructor
  · intro hu u hsy hul s t hs0 hs1 ht0 ht1 hne
    have hlt := numW_lt u hsy
    rw [hul] at hlt
    have hf := hu (numW K u) (by rw [hl]; have := Nat.mul_le_mul_left (pw K (2 * R)) h1; omega) (by rw [Nat.div_eq_of_lt hlt, Nat.zero_mod])
    have hf := (fullP_iff h1 h.k4 h.syms (pw K (2 * R)) _).1 hf
    rw [numW_cons, numW_cons, hul, Nat.add_comm (s.toNat * _), Nat.add_comm (t.toNat * _)]
    rcases Nat.lt_or_ge s.toNat t.toNat with hst | hst
    · exact hf _ _ hst (by omega)
    · exact (hf t.toNat s.toNat (by omega) (by omega)).symm
  · intro hw i hi hm
    have hiW : i < pw K (2 * R) := by
      have hdl : i / pw K (2 * R) < K := by rw [Nat.div_lt_iff_lt_mul (by omega), Nat.mul_comm, ← hl]; exact hi
      rw [Nat.mod_eq_of_lt hdl] at hm
      have := Nat.div_add_mod i (pw K (2 * R))
      have := Nat.mod_lt i (show pw K (2 * R) > 0 by omega)
      rw [hm] at *
      omega
    refine (fullP_iff h1 h.k4 h.syms (pw K (2 * R)) i).2 fun s t hst ht => ?_
    have := hw (digs K (2 * R) i) (digs_syms h1 _ _) (digs_length ..) s t (by omega) (by omega) (by omega) (by omega) (by omega)
    rwa [numW_cons, numW_cons, digs_length, numW_digs h1 _ _ hiW, Int.toNat_natCast, Int.toNat_natCast, Nat.add_comm (s * _), Nat.add_comm (t * _)] at this

theorem unlike_rightW {K R : Nat} {T : List Int} (h : RuleOk K R T) : unlikeP K T 1 = true ↔ RightW K (2 * R) T := by
  have h1 := h.k1
  obtain ⟨hW, hl⟩ := h.half
  rw [unlikeP_iff]
  constructor
  · intro hu u hsy hul s t hs0 hs1 ht0 ht1 hne
    have hlt := numW_lt u hsy
    rw [hul] at hlt
    have hf := hu (numW K u * K) (by rw [hl]; exact Nat.mul_lt_mul_of_pos_right hlt (by omega)) (by rw [Nat.div_one, Nat.mul_mod_left])
    have hf := (fullP_iff h1 h.k4 h.syms 1 _).1 hf
    rw [numW_snoc, numW_snoc]
    rcases Nat.lt_or_ge s.toNat t.toNat with hst | hst
    · have := hf _ _ hst (by omega); rwa [Nat.mul_one, Nat.mul_one] at this
    · have := (hf t.toNat s.toNat (by omega) (by omega)).symm; rwa [Nat.mul_one, Nat.mul_one] at this
  · intro hw i hi hm
    rw [Nat.div_one] at hm
    obtain ⟨q, rfl⟩ : ∃ q, i = q * K := ⟨i / K, by have := Nat.div_add_mod' i K; omega⟩
    have hq : q < pw K (2 * R) := Nat.lt_of_mul_lt_mul_right (a := K) (by rw [← hl]; exact hi)
    refine (fullP_iff h1 h.k4 h.syms 1 _).2 fun s t hst ht => ?_
    have := hw (digs K (2 * R) q) (digs_syms h1 _ _) (digs_length ..) s t (by omega) (by omega) (by omega) (by omega) (by omega)
    rwa [numW_snoc, numW_snoc, numW_digs h1 _ _ hq, Int.toNat_natCast, Int.toNat_natCast, ← Nat.mul_one s, ← Nat.mul_one t] at this

/-- Mirrored: the other sides. -/
theorem mir_leftW {K R : Nat} {T : List Int} (h : RuleOk K R T) : LeftW K (2 * R) (mirT K (2 * R + 1) T) ↔ RightW K (2 * R) T := by
  have e : ∀ (u : List Int) (s : Int), Syms K u → u.length = 2 * R → 0 ≤ s → s < K → (mirT K (2 * R + 1) T).getD (numW K (s :: u)) 0 = T.getD (numW K (u.reverse ++ [s])) 0 := fun u s hu hl h0 h1 => by
    have := mirT_at h.k1 h.len (s :: u) (syms_cons h0 h1 hu) (by simp [hl])
    rwa [List.reverse_cons] at this
  constructor
  · intro hw u hu hl s t a b c d hne
    have := hw u.reverse (syms_rev hu) (by simpa using hl) s t a b c d hne
    rwa [e _ _ (syms_rev hu) (by simpa using hl) a b, e _ _ (syms_rev hu) (by simpa using hl) c d, List.reverse_reverse] at this
  · intro hw u hu hl s t a b c d hne
    rw [e _ _ hu hl a b, e _ _ hu hl c d]
    exact hw u.reverse (syms_rev hu) (by simpa using hl) s t a b c d hne
theorem mir_rightW {K R : Nat} {T : List Int} (h : RuleOk K R T) : RightW K (2 * R) (mirT K (2 * R + 1) T) ↔ LeftW K (2 * R) T := by
  have e : ∀ (u : List Int) (s : Int), Syms K u → u.length = 2 * R → 0 ≤ s → s < K → (mirT K (2 * R + 1) T).getD (numW K (u ++ [s])) 0 = T.getD (numW K (s :: u.reverse)) 0 := fun u s hu hl h0 h1 => by
    have := mirT_at h.k1 h.len (u ++ [s]) (syms_snoc h0 h1 hu) (by simp [hl])
    rwa [List.reverse_append, List.reverse_singleton, List.singleton_append] at this
  constructor
  · intro hw u hu hl s t a b c d hne
    have := hw u.reverse (syms_rev hu) (by simpa using hl) s t a b c d hne
    rwa [e _ _ (syms_rev hu) (by simpa using hl) a b, e _ _ (syms_rev hu) (by simpa using hl) c d, List.reverse_reverse] at this
  · intro hw u hu hl s t a b c d hne
    rw [e _ _ hu hl a b, e _ _ hu hl c d]
    exact hw u.reverse (syms_rev hu) (by simpa using hl) s t a b c d hne
theorem mir_sides {K R : Nat} {T : List Int} (h : RuleOk K R T) :
    unlikeP K (mirT K (2 * R + 1) T) ((mirT K (2 * R + 1) T).length / K) = unlikeP K T 1 ∧ unlikeP K (mirT K (2 * R + 1) T) 1 = unlikeP K T (T.length / K) := by
  constructor
  · rw [Bool.eq_iff_iff, unlike_leftW (mirT_ok h), unlike_rightW h, mir_leftW h]
  · rw [Bool.eq_iff_iff, unlike_rightW (mirT_ok h), unlike_leftW h, mir_rightW h]

/-- One rule behind another. -/
theorem imgP_cons {K R : Nat} {T : List Int} {x : Int} {w : List Int} (h : 2 * R ≤ w.length) : imgP K R T (x :: w) = T.getD (numW K (x :: w.take (2 * R))) 0 :: imgP K R T w := by
  unfold imgP
  rw [show (x :: w).length - 2 * R = (w.length - 2 * R) + 1 by simp; omega, List.range_succ_eq_map, List.map_cons, List.map_map]
  congr 1
theorem behindT_length (K R1 : Nat) (T1 : List Int) (R2 : Nat) (T2 : List Int) : (behindT K R1 T1 R2 T2).length = pw K (2 * (R1 + R2) + 1) := by simp [behindT]
theorem behindT_at {K R1 R2 : Nat} {T1 T2 : List Int} (hK : 1 ≤ K) (w : List Int) (hw : Syms K w) (hl : w.length = 2 * (R1 + R2) + 1) : (behindT K R1 T1 R2 T2).getD (numW K w) 0 = T1.getD (numW K (imgP K R2 T2 w)) 0 := by
  have hlt := numW_lt w hw
  rw [hl] at hlt
  have : (behindT K R1 T1 R2 T2).getD (numW K w) 0 = T1.getD (numW K (imgP K R2 T2 (digs K (2 * (R1 + R2) + 1) (numW K w)))) 0 := by simp [behindT, List.getD, hlt]
  rw [this, ← hl, digs_numW hK w hw]
theorem behindT_ok {K R1 R2 : Nat} {T1 T2 : List Int} (h1 : RuleOk K R1 T1) (hR : R1 + R2 ≤ 3) : RuleOk K (R1 + R2) (behindT K R1 T1 R2 T2) :=
  ⟨h1.k1, h1.k4, hR, behindT_length .., fun y hy => by
    obtain ⟨i, _, rfl⟩ := List.mem_map.1 hy
    exact h1.syms.getD (by have := h1.k1; omega) _⟩
theorem behind_left {K R1 R2 : Nat} {T1 T2 : List Int} (h1 : RuleOk K R1 T1) (h2 : RuleOk K R2 T2) (w1 : LeftW K (2 * R1) T1) (w2 : LeftW K (2 * R2) T2) : LeftW K (2 * (R1 + R2)) (behindT K R1 T1 R2 T2) := by
  intro u hu hl s t a b c d hne
  have hk := h1.k1
  rw [behindT_at hk _ (syms_cons a b hu) (by simp [hl]), behindT_at hk _ (syms_cons c d hu) (by simp [hl]), imgP_cons (by omega), imgP_cons (by omega)]
  have htk : Syms K (u.take (2 * R2)) := fun y hy => hu y (List.mem_of_mem_take hy)
  have hne2 := w2 (u.take (2 * R2)) htk (by simp; omega) s t a b c d hne
  have s1 := h2.syms.getD (by omega) (numW K (s :: u.take (2 * R2)))
  have s2 := h2.syms.getD (by omega) (numW K (t :: u.take (2 * R2)))
  exact w1 (imgP K R2 T2 u) (imgP_syms hk h2.syms) (by rw [imgP_length]; omega) _ _ s1.1 s1.2 s2.1 s2.2 hne2
theorem behind_right {K R1 R2 : Nat} {T1 T2 : List Int} (h1 : RuleOk K R1 T1) (h2 : RuleOk K R2 T2) (w1 : RightW K (2 * R1) T1) (w2 : RightW K (2 * R2) T2) : RightW K (2 * (R1 + R2)) (behindT K R1 T1 R2 T2) := by
  intro u hu hl s t a b c d hne
  have hk := h1.k1
  have win : ∀ x : Int, 0 ≤ x → x < K → imgP K R2 T2 (u ++ [x]) = imgP K R2 T2 u ++ [T2.getD (numW K (u.drop (u.length - 2 * R2) ++ [x])) 0] := fun x x0 x1 => by
    rw [imgP_snoc h2.len (syms_snoc x0 x1 hu), if_pos (by omega)]
    have hdl : (u.drop (u.length - 2 * R2) ++ [x]).length = 2 * R2 + 1 := by simp; omega
    have := numW_mod (K := K) (u := u.take (u.length - 2 * R2)) (v := u.drop (u.length - 2 * R2) ++ [x]) (syms_snoc x0 x1 fun y hy => hu y (List.mem_of_mem_drop hy))
    rw [← List.append_assoc, List.take_append_drop, hdl, ← h2.len] at this
    rw [this]
  rw [behindT_at hk _ (syms_snoc a b hu) (by simp [hl]), behindT_at hk _ (syms_snoc c d hu) (by simp [hl]), win s a b, win t c d]
  have hdk : Syms K (u.drop (u.length - 2 * R2)) := fun y hy => hu y (List.mem_of_mem_drop hy)
  have hne2 := w2 (u.drop (u.length - 2 * R2)) hdk (by simp; omega) s t a b c d hne
  have s1 := h2.syms.getD (by omega) (numW K (u.drop (u.length - 2 * R2) ++ [s]))
  have s2 := h2.syms.getD (by omega) (numW K (u.drop (u.length - 2 * R2) ++ [t]))
  exact w1 (imgP K R2 T2 u) (imgP_syms hk h2.syms) (by rw [imgP_length]; omega) _ _ s1.1 s1.2 s2.1 s2.2 hne2
theorem behind_sides {K R1 R2 : Nat} {T1 T2 : List Int} (h1 : RuleOk K R1 T1) (h2 : RuleOk K R2 T2) (hR : R1 + R2 ≤ 3) :
    (unlikeP K T1 (T1.length / K) = true → unlikeP K T2 (T2.length / K) = true → unlikeP K (behindT K R1 T1 R2 T2) ((behindT K R1 T1 R2 T2).length / K) = true) ∧
    (unlikeP K T1 1 = true → unlikeP K T2 1 = true → unlikeP K (behindT K R1 T1 R2 T2) 1 = true) := by
  have hb := behindT_ok (T2 := T2) h1 hR
  rw [unlike_leftW h1, unlike_leftW h2, unlike_leftW hb, unlike_rightW h1, unlike_rightW h2, unlike_rightW hb]
  exact ⟨behind_left h1 h2, behind_right h1 h2⟩
end Go.Proofs.YtbpdmpcakenjhaaDoor

namespace Go.Proofs.YtbpdmpcakenjhaaDoor

/-- What goes on from a node. -/
def compl (K N : Nat) (T : List Int) : Nat → List Int → List (List Int)
  | _, [] => [[]]
  | node, y :: ws => (List.range K).flatMap fun s => if T.getD (node * K + s) 0 = y then (compl K N T ((node * K + s) % N) ws).map (fun c => (s : Int) :: c) else []
/-- By the first t symbols. -/
def complU (K N : Nat) (T : List Int) (node : Nat) (y : Int) (ws : List Int) (t : Nat) : List (List Int) :=
  (List.range t).flatMap fun s => if T.getD (node * K + s) 0 = y then (compl K N T ((node * K + s) % N) ws).map (fun c => (s : Int) :: c) else []
theorem compl_cons (K N : Nat) (T : List Int) (node : Nat) (y : Int) (ws : List Int) : compl K N T node (y :: ws) = complU K N T node y ws K := rfl
theorem complU_succ (K N : Nat) (T : List Int) (node : Nat) (y : Int) (ws : List Int) (t : Nat) :
    complU K N T node y ws (t + 1) = complU K N T node y ws t ++ if T.getD (node * K + t) 0 = y then (compl K N T ((node * K + t) % N) ws).map (fun c => (t : Int) :: c) else [] := by
  simp [complU, List.range_succ]

theorem flatMap_one {α : Type} (K : Nat) (g : Nat → List α) (s : Nat) (hs : s < K) (h : ∀ t, t < K → t ≠ s → g t = []) : (List.range K).flatMap g = g s := by
  induction K with
  | zero => omega
  | succ K ih =>
    rw [List.range_succ, List.flatMap_append, List.flatMap_singleton]
    by_cases e : s = K
    · subst e
      have : (List.range s).flatMap g = [] := List.flatMap_eq_nil_iff.2 fun t ht => h t (by have := List.mem_range.1 ht; omega) (by have := List.mem_range.1 ht; omega)
      rw [this, List.nil_append]
    · rw [ih (by omega) (fun t ht hne => h t (by omega) hne), h K (by omega) (fun e2 => e e2.symm), List.append_nil]

/-- Where the last place permutes just one word goes on. -/
theorem compl_one {K R : Nat} {T : List Int} (h : RuleOk K R T) (hp : unlikeP K T 1 = true) (ws : List Int) (hw : Syms K ws) (node : Nat) (hn : node < pw K (2 * R)) : (compl K (pw K (2 * R)) T node ws).length = 1 := by
  have h1 := h.k1
  induction ws generalizing node with
  | nil => rfl
  | cons y ws ih =>
    have hy := hw y (by simp)
    have hl := h.half.2
    have hf := unlikeP_full hp (node * K) (by rw [hl]; exact Nat.mul_lt_mul_of_pos_right hn (by omega)) (by rw [Nat.div_one, Nat.mul_mod_left])
    obtain ⟨s, hs, he⟩ := fullP_all h1 h.syms hf y.toNat (by omega)
    rw [Nat.mul_one] at he
    have hinj := (fullP_iff h1 h.k4 h.syms 1 _).1 hf
    rw [compl, flatMap_one K _ s hs]
    · rw [if_pos (by omega), List.length_map]
      exact ih (fun x hx => hw x (by simp [hx])) _ (Nat.mod_lt _ (pw_pos _ h1))
    · intro t ht hne
      rw [if_neg]
      intro e
      rcases Nat.lt_or_ge s t with hst | hst
      · have := hinj s t hst ht; rw [Nat.mul_one, Nat.mul_one] at this; exact this (by omega)
      · have := hinj t s (by omega) hs; rw [Nat.mul_one, Nat.mul_one] at this; exact this (by omega)

/-- All preimages, begin by begin. -/
def allBefore (K R : Nat) (T ws : List Int) (n : Nat) : List (List Int) := (List.range n).flatMap fun node => (compl K (pw K (2 * R)) T node ws).map fun c => digs K (2 * R) node ++ c
theorem allBefore_succ (K R : Nat) (T ws : List Int) (n : Nat) : allBefore K R T ws (n + 1) = allBefore K R T ws n ++ (compl K (pw K (2 * R)) T n ws).map fun c => digs K (2 * R) n ++ c := by
  simp [allBefore, List.range_succ]

/-- How many begin so. -/
def begins (n : Nat) (ends l : List Int) : Bool := decide (n ≤ l.length) && decide (l.take n = ends)
theorem begins_count {K R : Nat} {T : List Int} (h : RuleOk K R T) (hp : unlikeP K T 1 = true) (ws ends : List Int) (hw : Syms K ws) (he : Syms K ends) (hl : ends.length = 2 * R) :
    ((allBefore K R T ws (pw K (2 * R))).filter (begins (2 * R) ends)).length = 1 := by
  have h1 := h.k1
  have hlt := numW_lt ends he
  rw [hl] at hlt
  have hb : ∀ node, node < pw K (2 * R) → ∀ c, begins (2 * R) ends (digs K (2 * R) node ++ c) = decide (node = numW K ends) := fun node hn c => by
    have e1 : (digs K (2 * R) node ++ c).take (2 * R) = digs K (2 * R) node := List.take_left' (digs_length ..)
    rw [begins, e1, Bool.eq_iff_iff]
    simp only [List.length_append, digs_length, Bool.and_eq_true, decide_eq_true_eq]
    constructor
    · rintro ⟨_, e⟩; rw [← e, numW_digs h1 _ _ hn]
    · rintro rfl
      refine ⟨by omega, ?_⟩
      have := digs_numW h1 ends he
      rwa [hl] at this
  have hf : (allBefore K R T ws (pw K (2 * R))).filter (begins (2 * R) ends) = (compl K (pw K (2 * R)) T (numW K ends) ws).map fun c => digs K (2 * R) (numW K ends) ++ c := by
    rw [allBefore, List.filter_flatMap, flatMap_one _ _ (numW K ends) hlt]
    · refine List.filter_eq_self.2 fun l hl => ?_
      obtain ⟨c, _, rfl⟩ := List.mem_map.1 hl
      rw [hb _ hlt]; simp
    · intro t ht hne
      refine List.filter_eq_nil_iff.2 fun l hl => ?_
      obtain ⟨c, _, rfl⟩ := List.mem_map.1 hl
      rw [hb _ ht]; simpa using hne
  rw [hf, List.length_map]
  exact compl_one h hp ws hw _ hlt

/-- The next word: the last symbols, all K - 1, become 0; the one ahead of them is one more. -/
theorem numW_rep_max {K : Nat} (hK : 1 ≤ K) (j : Nat) : numW K (List.replicate j ((K : Int) - 1)) + 1 = pw K j := by
  induction j with
  | zero => rfl
  | succ j ih =>
    rw [List.replicate_succ', numW_snoc, pw_succ, ← ih]
    have : ((K : Int) - 1).toNat = K - 1 := by omega
    rw [this, Nat.add_mul]
    omega
theorem numW_rep_zero (K j : Nat) : numW K (List.replicate j 0) = 0 := by
  induction j with
  | zero => rfl
  | succ j ih => rw [List.replicate_succ', numW_snoc, ih]; simp
theorem next_word {K n x : Nat} (hK : 1 ≤ K) (hx : x < pw K n) (u : List Int) (a : Int) (j : Nat) (h : digs K n x = u ++ [a] ++ List.replicate j ((K : Int) - 1)) (ha : a < (K : Int) - 1) :
    digs K n (x + 1) = u ++ [a + 1] ++ List.replicate j 0 := by
  have hs := digs_syms hK n x
  have hl := congrArg List.length h
  have hn := congrArg (numW K) h
  rw [digs_length] at hl
  rw [numW_digs hK _ _ hx, numW_append, List.length_replicate, numW_snoc] at hn
  rw [h] at hs
  have hu : Syms K u := fun y hy => hs y (by simp [hy])
  have ha0 := hs a (by simp)
  have hw : Syms K (u ++ [a + 1] ++ List.replicate j 0) := by
    intro y hy
    rcases List.mem_append.1 hy with hy | hy
    · exact syms_snoc (by omega) (by omega) hu y hy
    · have := List.eq_of_mem_replicate hy; omega
  have e := digs_numW hK _ hw
  have hlen : (u ++ [a + 1] ++ List.replicate j 0).length = n := by simp at hl ⊢; omega
  rw [hlen] at e
  rw [← e]
  congr 1
  rw [numW_append, List.length_replicate, numW_snoc, numW_rep_zero, show (a + 1).toNat = a.toNat + 1 by omega, ← Nat.add_assoc, Nat.add_mul (numW K u * K + a.toNat)]
  have := numW_rep_max hK j
  omega
theorem digs_last {K n x : Nat} (hK : 1 ≤ K) (hx : x < pw K n) (h : digs K n x = List.replicate n ((K : Int) - 1)) : x + 1 = pw K n := by
  have hn := congrArg (numW K) h
  rw [numW_digs hK _ _ hx] at hn
  rw [hn, numW_rep_max hK]
theorem digs_zero (K n : Nat) : digs K n 0 = List.replicate n 0 := by
  induction n with
  | zero => rfl
  | succ n ih => rw [digs, Nat.zero_div, ih, List.replicate_succ']; simp
end Go.Proofs.YtbpdmpcakenjhaaDoor

namespace Go.Proofs.YtbpdmpcakenjhaaDoor
open Go.RowKit
set_option maxRecDepth 100000

theorem word_check1 (x k : Int) (b : Addr) (w : World) (hb : w.cell? b = some (.int .i64 k)) :
    Calls Tryd.prog 96 #[.int .i64 x, .pointer (some b)] w fun e w' => e = .returned (.bool (odd1 k x)) ∧ w = w' := by
  by_cases h : x < 0
  · have e : odd1 k x = true := by simp [odd1, h]
    rw [e]
    go_enter Tryd.func96, Tryd.ntmps96
    go_wp2
    go_ret
    exact ⟨rfl, rfl⟩
  · have e : odd1 k x = decide (k ≤ x) := by simp [odd1, h]
    rw [e]
    go_enter Tryd.func96, Tryd.ntmps96
    go_wp2
    go_ret
    exact ⟨ret_bool (by simp), rfl⟩
theorem eg_word_check1 (args : Array Value) (w : World) : (callFunc 96 args).run Tryd.prog w = .ok (.enter 96 args) w := by kernel_rfl

theorem word_alphabet (K : Nat) (w : World) (h1 : 1 ≤ K) (h4 : K ≤ 4) :
    Calls Tryd.prog 95 #[.int .i64 K] w fun e w' => e = .returned (.bool true) ∧ w = w' := by
  go_enter Tryd.func95, Tryd.ntmps95
  go_wp2
  go_ret
  exact ⟨ret_bool (by simp; omega), rfl⟩

theorem word_check (K : Nat) (v : Value) (xs : List Int) (w : World) (h : IntsAt w v xs) (h1 : 1 ≤ K) (h4 : K ≤ 4) (hs : Syms K xs) (hl : xs.length ≤ 4096) :
    Calls Tryd.prog 77 #[.int .i64 K, v] w (Ret1 (fun x _ => x = .nilIface) w) := by
  have hb0 := belowAlloc w (.cells #[.int .i64 K] 3)
  have l1 := h.len
  obtain ⟨a1, n1, c1, rfl⟩ := h.shape
  replace h := Lib.hid (h.below hb0)
  have hodd := Lib.hid hs.odd
  replace hs := Lib.hid hs
  go_enter Tryd.func77, Tryd.ntmps77
  go_wp2_with fail
  refine (word_alphabet K _ h1 h4).mono ?_
  rintro e w' ⟨rfl, rfl⟩
  go_wp2_with fail
  refine (indexFunc_any _ _ 96 xs (odd1 K) _ h.out eg_word_check1 (fun x _ => word_check1 x K _ _ (by simp))).mono ?_
  rintro e w' ⟨rfl, rfl⟩
  rw [hodd.out]
  go_wp2
  go_ret
  exact ⟨_, rfl, hb0, rfl⟩

theorem set_here (u : List Int) (a y : Int) (r : List Int) : (u ++ [a] ++ r).set u.length y = u ++ [y] ++ r := by
  rw [List.append_assoc, List.set_append_right _ _ (by omega)]; simp

set_option maxHeartbeats 1000000 in
theorem word_next (K : Nat) (v : Value) (D : List Int) (w : World) (h : IntsAt w v D) (h1 : 1 ≤ K) (h4 : K ≤ 4) (hs : Syms K D) (hl : D.length ≤ 4000) :
    Calls Tryd.prog 47 #[.int .i64 K, v] w (Ret2 (fun o y w' => y = .nilIface ∧ ∃ zs, OwnI w.heap.size w' o zs ∧
      ((∃ u a j, D = u ++ [a] ++ List.replicate j ((K : Int) - 1) ∧ a < (K : Int) - 1 ∧ zs = u ++ [a + 1] ++ List.replicate j 0) ∨ D = List.replicate D.length ((K : Int) - 1))) w) := by
  have l1 := h.len
  have lm := h.len_le
  replace h := Lib.hid h
  replace hs := Lib.hid hs
  go_enter Tryd.func47, Tryd.ntmps47
  go_wp2_with fail
  refine (word_check K v D w h.out h1 h4 hs.out (by omega)).mono ?_
  rintro e w1 ⟨_, rfl, b1, rfl⟩
  go_wp2_with fail
  refine (clone_any v D _ (h.out.below b1) (by omega)).mono ?_
  rintro e w2 ⟨ov, rfl, b2, ho⟩
  have lo := ho.at.len
  replace ho := Lib.hid ho
  have hb2 := Below.step b1 b2
  go_wp2
  go_loopw [8] (fun i wr => ∃ m : Nat, m ≤ D.length ∧ i = .int .i64 ((m : Int) - 1) ∧ D.drop m = List.replicate (D.length - m) ((K : Int) - 1) ∧ OwnI w1.heap.size wr ov (D.take m ++ List.replicate (D.length - m) 0) ∧ Below w1.heap.size w1 wr) (fun i _ => (intOf i + 1).toNat)
  case atStart => exact ⟨D.length, by omega, rfl, by simp, by simpa using ho.out, b2⟩
  case round =>
    obtain ⟨m, hm, rfl, hd, hO, hbO⟩ := hrel
    obtain ⟨wo, rfl⟩ : ∃ wo : World, wo = wr := ⟨_, rfl⟩
    cases m with
    | zero =>
      rw [show ((0 : Nat) : Int) - 1 = -1 from rfl]
      rw [List.drop_zero, Nat.sub_zero] at hd
      replace hd := Lib.hid hd
      replace hO := Lib.hid hO
      obtain ⟨v3, w3, hmk, ho3, b3⟩ := run_makeI ((D.length : Int) + 1) (D.length + 1) wo (by omega) (by omega)
      have hne : ((D.length : Int) == 4096) = false := by rw [beq_eq_false_iff_ne]; omega
      go_wp2
      go_ret2
      exact ⟨_, _, rfl, Below.step b1 (hbO.trans (b3.mono hbO.size)), rfl, _, ho3.mono (Nat.le_trans b1.size hbO.size), .inr hd.out⟩
    | succ m =>
      rw [show ((m + 1 : Nat) : Int) - 1 = (m : Int) by omega]
      have hml : m < D.length := by omega
      have htk := take_snoc D m hml
      have hol : m < (D.take (m + 1) ++ List.replicate (D.length - (m + 1)) (0 : Int)).length := by simp; omega
      have i1 := hO.at.idx m hol
      have c1 := hO.at.cell m hol
      have f1 := hO.frz m hol
      have hx := hs.out D[m] (by simp)
      have hge : (D.take (m + 1) ++ List.replicate (D.length - (m + 1)) (0 : Int))[m] = D[m] := by
        rw [List.getElem_append_left (by simp; omega), List.getElem_take]
      rw [hge] at c1
      have hul : (D.take m).length = m := by simp; omega
      have hset : ∀ y, (D.take (m + 1) ++ List.replicate (D.length - (m + 1)) (0 : Int)).set m y = D.take m ++ [y] ++ List.replicate (D.length - (m + 1)) 0 := by
        intro y
        have := set_here (D.take m) D[m] y (List.replicate (D.length - (m + 1)) 0)
        rw [htk, ← this, hul]
      have hDu : D = D.take m ++ [D[m]] ++ List.replicate (D.length - (m + 1)) ((K : Int) - 1) := by
        rw [← hd, ← htk, List.take_append_drop]
      have hd' : D.drop m = D[m] :: List.replicate (D.length - (m + 1)) ((K : Int) - 1) := by
        rw [← hd]; exact List.drop_eq_getElem_cons hml
      generalize D[m] = x at c1 hx hDu hd'
      have hO1 := hO.set m hol (x + 1)
      have hb1 := hO.setBelow hbO m hol (.int .i64 (x + 1))
      have hO0 := hO.set m hol 0
      have hb0 := hO.setBelow hbO m hol (.int .i64 0)
      rw [hset] at hO1 hO0
      replace hset := Lib.hid hset
      replace hO := Lib.hid hO
      replace hO1 := Lib.hid hO1
      replace hO0 := Lib.hid hO0
      replace hDu := Lib.hid hDu
      replace hd' := Lib.hid hd'
      replace hd := Lib.hid hd
      clear htk hge hul
      by_cases hlt : x < (K : Int) - 1
      · go_wp2
        go_ret2
        exact ⟨_, _, rfl, Below.step b1 hb1, rfl, _, hO1.out.mono b1.size, .inl ⟨_, _, _, hDu.out, hlt, rfl⟩⟩
      · obtain rfl : x = (K : Int) - 1 := by omega
        go_wp2
        go_roundw
        case rel =>
          have e : D.length - m = D.length - (m + 1) + 1 := by omega
          refine ⟨m, by omega, by go_num, ?_, ?_, hb0⟩
          · rw [hd'.out, e, List.replicate_succ]
          · rw [e, List.replicate_succ]; simpa using hO0.out
        case measure => simp [intOf]

/-- At a number's word. -/
theorem word_next_digs (K n x : Nat) (v : Value) (w : World) (h : IntsAt w v (digs K n x)) (h1 : 1 ≤ K) (h4 : K ≤ 4) (hn : n ≤ 4000) (hx : x < pw K n) :
    Calls Tryd.prog 47 #[.int .i64 K, v] w (Ret2 (fun o y w' => y = .nilIface ∧ ∃ zs, OwnI w.heap.size w' o zs ∧ (x + 1 < pw K n → zs = digs K n (x + 1))) w) := by
  refine (word_next K v _ w h h1 h4 (digs_syms h1 n x) (by rw [digs_length]; exact hn)).mono ?_
  rintro e w' ⟨o, y, rfl, hb, rfl, zs, ho, hz⟩
  refine ⟨_, _, rfl, hb, rfl, zs, ho, fun hlt => ?_⟩
  rcases hz with ⟨u, a, j, e1, ha, rfl⟩ | e1
  · exact (next_word h1 hx u a j e1 ha).symm
  · rw [digs_length] at e1
    have := digs_last h1 hx e1
    omega
end Go.Proofs.YtbpdmpcakenjhaaDoor

namespace Go.Proofs.YtbpdmpcakenjhaaDoor
open Go.RowKit
set_option maxRecDepth 100000

theorem oneStrs : OneCell 50 9 (.string ⟨#[]⟩) 16 := ⟨by kernel_rfl, by kernel_rfl, rfl, by decide, fun _ => by kernel_rfl⟩

/-- What an edenraw.Err is in memory. -/
def EAt (w : World) (t : PErr) (v : Value) : Prop :=
  match t with
  | none => v = .agg #[.int .i64 0, .slice none 0 0, .slice none 0 0]
  | some (n, l) => ∃ a1 n1 c1 a2 n2 c2, v = .agg #[.int .i64 n, .slice a1 n1 c1, .slice a2 n2 c2] ∧ ValsAt w (.slice a1 n1 c1) (l.map fun x => Value.string x.1) ∧ IntsAt w (.slice a2 n2 c2) (l.map (·.2))

theorem EAt.below {w w' : World} {t : PErr} {v : Value} (h : EAt w t v) (hb : Below w.heap.size w w') : EAt w' t v := by
  match t, h with
  | none, h => exact h
  | some (n, l), ⟨a1, n1, c1, a2, n2, c2, e, h1, h2⟩ => exact ⟨a1, n1, c1, a2, n2, c2, e, h1.below hb, h2.below hb⟩

/-- An edenraw.Err whose lists this call made, from block B on. -/
def EOwn (B : Nat) (w : World) (t : PErr) (v : Value) : Prop :=
  match t with
  | none => v = .agg #[.int .i64 0, .slice none 0 0, .slice none 0 0]
  | some (n, l) => ∃ a1 n1 c1 a2 n2 c2, v = .agg #[.int .i64 n, .slice a1 n1 c1, .slice a2 n2 c2] ∧ OwnV 9 B w (.slice a1 n1 c1) (l.map fun x => Value.string x.1) ∧ OwnV 3 B w (.slice a2 n2 c2) ((l.map (·.2)).map (Value.int .i64))

theorem OwnV.setBelowBase {E : TypeId} {B : Nat} {w : World} {v : Value} {vs : List Value} (h : OwnV E B w v vs) {a : Addr} (ha : a.block < B) (u : Value) : OwnV E B (w.setCell a u) v vs := ownsRow_setCell_below h ha u
theorem EOwn.at {B : Nat} {w : World} {t : PErr} {v : Value} (h : EOwn B w t v) : EAt w t v := by
  match t, h with
  | none, h => exact h
  | some (n, l), ⟨a1, n1, c1, a2, n2, c2, e, h1, h2⟩ => exact ⟨a1, n1, c1, a2, n2, c2, e, h1.at, OwnI.at (OwnV.toI h2)⟩
theorem EOwn.mono {B B' : Nat} {w : World} {t : PErr} {v : Value} (h : EOwn B w t v) (hB : B' ≤ B) : EOwn B' w t v := by
  match t, h with
  | none, h => exact h
  | some (n, l), ⟨a1, n1, c1, a2, n2, c2, e, h1, h2⟩ => exact ⟨a1, n1, c1, a2, n2, c2, e, h1.mono hB, h2.mono hB⟩
theorem EOwn.below {B : Nat} {w w' : World} {t : PErr} {v : Value} (h : EOwn B w t v) (hb : Below w.heap.size w w') : EOwn B w' t v := by
  match t, h with
  | none, h => exact h
  | some (n, l), ⟨a1, n1, c1, a2, n2, c2, e, h1, h2⟩ => exact ⟨a1, n1, c1, a2, n2, c2, e, h1.below hb, h2.below hb⟩
theorem EOwn.set {B : Nat} {w : World} {t : PErr} {v : Value} (h : EOwn B w t v) {a : Addr} (ha : a.block < B) (u : Value) : EOwn B (w.setCell a u) t v := by
  match t, h with
  | none, h => exact h
  | some (n, l), ⟨a1, n1, c1, a2, n2, c2, e, h1, h2⟩ => exact ⟨a1, n1, c1, a2, n2, c2, e, h1.setBelowBase ha u, h2.setBelowBase ha u⟩
theorem EOwn.set3 {B b : Nat} {w : World} {t : PErr} {v : Value} (h : EOwn B w t v) (hb : b < B) (x y z : Value) : EOwn B (((w.setCell ⟨b, 0, none⟩ x).setCell ⟨b, 1, none⟩ y).setCell ⟨b, 2, none⟩ z) t v :=
  ((h.set (a := ⟨b, 0, none⟩) hb x).set (a := ⟨b, 1, none⟩) hb y).set (a := ⟨b, 2, none⟩) hb z
theorem Below.set3 {B b : Nat} {w0 w : World} (h : Below B w0 w) (hb : B ≤ b) (x y z : Value) : Below B w0 (((w.setCell ⟨b, 0, none⟩ x).setCell ⟨b, 1, none⟩ y).setCell ⟨b, 2, none⟩ z) :=
  ((h.setCell (p := ⟨b, 0, none⟩) hb x).setCell (p := ⟨b, 1, none⟩) hb y).setCell (p := ⟨b, 2, none⟩) hb z
theorem OwnV.lit {E : TypeId} (B : Nat) (w : World) (hB : B ≤ w.heap.size) (x : Value) : OwnV E B (w.alloc (.cells #[x] E)) (.slice (some ⟨w.heap.size, 0, none⟩) 1 1) [x] :=
  World.ownsRow_lit (base := B) (e := E) (size := 1) w #[x] 1 hB (by unfold maxLen; omega) rfl

theorem EAt.shape {w : World} {t : PErr} {v : Value} (h : EAt w t v) : ∃ n a1 n1 c1 a2 n2 c2, v = .agg #[.int .i64 n, .slice a1 n1 c1, .slice a2 n2 c2] := by
  match t, h with
  | none, h => exact ⟨0, none, 0, 0, none, 0, 0, h⟩
  | some (n, l), ⟨a1, n1, c1, a2, n2, c2, e, _⟩ => exact ⟨n, a1, n1, c1, a2, n2, c2, e⟩

abbrev zErr : Value := .agg #[.int .i64 0, .slice none 0 0, .slice none 0 0]
theorem EAt.none (w : World) : EAt w none zErr := rfl

set_option maxHeartbeats 1000000 in
theorem raw_root (r : Nat → Addr) (n : Int) (w : World) (hg : Glob r w) (h1 : 1 ≤ n) (h2 : n ≤ 11) :
    Calls Tryd.prog 63 #[.int .i64 n] w fun e w' => e = .returned (rootV r n) ∧ w = w' := by
  obtain ⟨c1, c2, c3, c4, c5, c6, c7, c8, c9, c10, c11, _, _, _⟩ := hg
  have hn : n = 1 ∨ n = 2 ∨ n = 3 ∨ n = 4 ∨ n = 5 ∨ n = 6 ∨ n = 7 ∨ n = 8 ∨ n = 9 ∨ n = 10 ∨ n = 11 := by omega
  rcases hn with rfl | rfl | rfl | rfl | rfl | rfl | rfl | rfl | rfl | rfl | rfl <;>
  (clear h1 h2
   go_enter Tryd.func63, Tryd.ntmps63
   go_wp2
   go_ret
   exact ⟨rfl, rfl⟩)

theorem err_bad (n : Int) (a1 : Option Addr) (n1 c1 : Nat) (a2 : Option Addr) (n2 c2 : Nat) (w : World) :
    Calls Tryd.prog 59 #[.agg #[.int .i64 n, .slice a1 n1 c1, .slice a2 n2 c2]] w (Ret1 (fun x _ => x = .bool (n != 0)) w) := by
  go_enter Tryd.func59, Tryd.ntmps59
  go_wp2
  go_ret
  exact ⟨_, rfl, (Below.refl _ _).alloc (Nat.le_refl _) _, rfl⟩

theorem vals1 {w : World} {b : Nat} {u : Value} (h : w.cell? ⟨b, 0, none⟩ = some u) : ValsAt w (.slice (some ⟨b, 0, none⟩) 1 1) [u] :=
  ⟨some ⟨b, 0, none⟩, 1, rfl, by simp, by unfold maxLen; omega, (fun e => by cases e), fun i hi => by
    obtain rfl : i = 0 := by simpa using hi
    rw [valAt_row]; simpa using h⟩
theorem ints1 {w : World} {b : Nat} {x : Int} (h : w.cell? ⟨b, 0, none⟩ = some (.int .i64 x)) : IntsAt w (.slice (some ⟨b, 0, none⟩) 1 1) [x] :=
  ⟨some ⟨b, 0, none⟩, 1, rfl, by simp, by unfold maxLen; omega, (fun e => by cases e), fun i hi => by
    obtain rfl : i = 0 := by simpa using hi
    rw [valAt_row]; simpa using h⟩

set_option maxHeartbeats 800000 in
theorem raw_new (op : ByteArray) (at_ n : Int) (w : World) :
    Calls Tryd.prog 67 #[.string op, .int .i64 at_, .int .i64 n] w (Ret1 (fun x w' => EOwn w.heap.size w' (fresh op at_ n) x) w) := by
  go_enter Tryd.func67, Tryd.ntmps67
  go_wp2
  refine bodyPost_ret (v := .agg #[.int .i64 n, .slice (some ⟨w.heap.size + 1, 0, none⟩) 1 1, .slice (some ⟨w.heap.size + 1 + 1, 0, none⟩) 1 1]) (by simp [results, Tryd.results67, go_sem]) rfl ⟨_, rfl, ?_, ?_⟩
  · exact (((Below.refl _ _).alloc (Nat.le_refl _) _).alloc (by simp) _).alloc (by simp; omega) _
  · have h1 := (OwnV.lit (E := 9) w.heap.size (w.alloc (.cells #[.int .i64 n, .slice (some ⟨w.heap.size + 1, 0, none⟩) 1 1, .slice (some ⟨w.heap.size + 1 + 1, 0, none⟩) 1 1] 52)) (by simp) (.string op)).alloc (.cells #[.int .i64 at_] 3)
    have h2 := OwnV.lit (E := 3) w.heap.size ((w.alloc (.cells #[.int .i64 n, .slice (some ⟨w.heap.size + 1, 0, none⟩) 1 1, .slice (some ⟨w.heap.size + 1 + 1, 0, none⟩) 1 1] 52)).alloc (.cells #[.string op] 9)) (by simp; omega) (.int .i64 at_)
    simp only [World.size_alloc] at h1 h2
    exact ⟨_, _, _, _, _, _, rfl, h1, h2⟩

theorem ValsAt.alloc {w : World} {v : Value} {vs : List Value} (h : ValsAt w v vs) (o : Obj) : ValsAt (w.alloc o) v vs := h.below ((Below.refl _ _).alloc (Nat.le_refl _) _)
theorem ValsAt.drew {w : World} {v : Value} {vs : List Value} (h : ValsAt w v vs) : ValsAt w.drew v vs := h
theorem ValsAt.split {w : World} {v : Value} {vs : List Value} (h : ValsAt w v vs) : (v = .slice none 0 0 ∧ vs = []) ∨ ∃ p cap, v = .slice (some p) vs.length cap ∧ ∀ j u, vs[j]? = some u → w.cell? (p.add j) = some u := by
  obtain ⟨a, cap, rfl, h1, h2, h3, h4⟩ := h
  cases a with
  | none =>
    obtain rfl := h3 rfl
    obtain rfl := List.length_eq_zero_iff.1 (show vs.length = 0 by omega)
    exact .inl ⟨rfl, rfl⟩
  | some p =>
    refine .inr ⟨p, cap, rfl, fun j u hj => ?_⟩
    have hjl : j < vs.length := (List.getElem?_eq_some_iff.1 hj).1
    have := h4 j hjl
    simp only [valAt] at this
    rw [this, ← hj]; simp [hjl]
theorem IntsAt.alloc {w : World} {v : Value} {xs : List Int} (h : IntsAt w v xs) (o : Obj) : IntsAt (w.alloc o) v xs := h.below ((Below.refl _ _).alloc (Nat.le_refl _) _)

/-- append([]T{x}, ys...) in a region that draws. -/
theorem step_under {T E : TypeId} {z : Value} {bytes : Nat} (oc : OneCell T E z bytes) {ops : Array Oper} {o : Oper} {a : Act} {w : World} {K : Act → World → Prop} {Q : Exit → Act → World → Prop} {Ep : Prop}
    (hg : o.guard = none) (s x : Operand) (hop : o.op = Op.call { callee := Callee.builtin Builtin.append, args := #[s, x], argTypes := #[T, T] })
    (b : Nat) (x0 : Value) (hs : a.eval s = .slice (some ⟨b, 0, none⟩) 1 1) (hb : w.cell? ⟨b, 0, none⟩ = some x0)
    (u : Value) (ys : List Value) (hx : a.eval x = u) (hu : ValsAt w u ys) (h0 : 0 < ys.length) (hl : ys.length ≤ 1000) (h1 : ∀ u ∈ ys, u.oneCell' = true)
    (hK : ∀ v' w', OwnV E w.heap.size w' v' (x0 :: ys) → Below w.heap.size w w' → K (a.put o.dst v') w') :
    if Region.wanted o (yielded ops a.tmps) = true then Oper.wp Tryd.prog o a w K Q else Ep := by
  obtain ⟨i, hi, hz0, hz1, hz2⟩ := info_parts oc.hi
  rcases hu.split with ⟨_, rfl⟩ | ⟨p, cap, rfl, hc⟩
  · simp at h0
  · have hb' := oc.hb
    refine step_append_grows hg s x T hop E i z 1 bytes oc.ht hi hz0 hz1 hz2 (by rw [oc.hz]; rfl) (by decide) (some ⟨b, 0, none⟩) 1 1 [x0] hs (fun h => by cases h) rfl
      (fun b' hb2 j u hj => by
        obtain rfl := Option.some.inj hb2
        obtain ⟨hj1, hj2⟩ := List.getElem?_eq_some_iff.1 hj
        obtain rfl : j = 0 := by simpa using hj1
        simp at hj2; subst hj2
        exact hb) p ys.length cap ys hx (by simp) hc h1 (by omega) (by unfold maxLen; omega) (by
          calc (1 + ys.length) * bytes ≤ 1001 * 32 := Nat.mul_le_mul (by omega) hb'
            _ ≤ _ := by decide) ?_
    intro v' w' hown hgr
    have hv : OwnV E w.heap.size w' v' (x0 :: ys) := by
      unfold OwnV
      rw [show (x0 :: ys).length = 1 + ys.length by simp; omega]
      exact hown
    exact hK v' w' hv ((Below.refl _ _).grown hgr (Nat.le_refl _) (by intro k hk; cases hk))

end Go.Proofs.YtbpdmpcakenjhaaDoor

namespace Go.Proofs.YtbpdmpcakenjhaaDoor
open Go.RowKit
set_option maxRecDepth 100000

theorem ValsAt.shape {w : World} {v : Value} {vs : List Value} (h : ValsAt w v vs) : ∃ a n c, v = .slice a n c := by
  obtain ⟨a, cap, e, _⟩ := h; exact ⟨_, _, _, e⟩
theorem cell_keep {w w' : World} {b i : Nat} {x : Value} (hb : Below w.heap.size w w') (h : w.cell? ⟨b, i, none⟩ = some x) : w'.cell? ⟨b, i, none⟩ = some x :=
  (hb.cell (p := ⟨b, i, none⟩) (World.block_lt_of_cell? _ _ h)).trans h
theorem cell_alloc {w : World} {b i : Nat} {x : Value} (h : w.cell? ⟨b, i, none⟩ = some x) (o : Obj) : (w.alloc o).cell? ⟨b, i, none⟩ = some x := cell_keep ((Below.refl _ _).alloc (Nat.le_refl _) _) h
theorem cell_new {w : World} {b : Nat} {x : Value} {T : TypeId} (hb : b = w.heap.size) : (w.alloc (.cells #[x] T)).cell? ⟨b, 0, none⟩ = some x := by subst hb; simp
theorem cell_drew {w : World} {b i : Nat} {x : Value} (h : w.cell? ⟨b, i, none⟩ = some x) : w.drew.cell? ⟨b, i, none⟩ = some x := h

/-- Three cells of a variable of the call's own. -/
def Box3 (w : World) (b : Nat) (x0 x1 x2 : Value) : Prop := (w.cell? ⟨b, 0, none⟩ = some x0 ∧ w.cell? ⟨b, 1, none⟩ = some x1 ∧ w.cell? ⟨b, 2, none⟩ = some x2) ∧ w.frozen? ⟨b, 0, none⟩ = false ∧ w.frozen? ⟨b, 1, none⟩ = false ∧ w.frozen? ⟨b, 2, none⟩ = false
theorem Box3.below {w w' : World} {b : Nat} {x0 x1 x2 : Value} (h : Box3 w b x0 x1 x2) (hb : Below w.heap.size w w') : Box3 w' b x0 x1 x2 := by
  obtain ⟨⟨h0, h1, h2⟩, f0, f1, f2⟩ := h
  have hlt := World.block_lt_of_cell? _ _ h0
  exact ⟨⟨cell_keep hb h0, cell_keep hb h1, cell_keep hb h2⟩, (hb.frozen (p := ⟨b, 0, none⟩) hlt).trans f0, (hb.frozen (p := ⟨b, 1, none⟩) hlt).trans f1, (hb.frozen (p := ⟨b, 2, none⟩) hlt).trans f2⟩
theorem Box3.alloc {w : World} {b : Nat} {x0 x1 x2 : Value} (h : Box3 w b x0 x1 x2) (o : Obj) : Box3 (w.alloc o) b x0 x1 x2 := h.below ((Below.refl _ _).alloc (Nat.le_refl _) _)
theorem Box3.drew {w : World} {b : Nat} {x0 x1 x2 : Value} (h : Box3 w b x0 x1 x2) : Box3 w.drew b x0 x1 x2 := h
theorem OwnV.drew {E : TypeId} {B : Nat} {w : World} {v : Value} {vs : List Value} (h : OwnV E B w v vs) : OwnV E B w.drew v vs := h
theorem Below.allocL {w w' : World} (h : Below w.heap.size w w') (o : Obj) : Below w.heap.size w (w'.alloc o) := h.alloc h.size o
theorem Below.stepL {w1 w2 w3 : World} (h : Below w1.heap.size w1 w2) (k : Below w2.heap.size w2 w3) : Below w1.heap.size w1 w3 := h.trans (k.mono h.size)
theorem belowAlloc' (w : World) (o : Obj) : Below w.heap.size w (w.alloc o) := (Below.refl _ _).alloc (Nat.le_refl _) _
theorem Below.drewL {w w' : World} {n : Nat} (h : Below n w w') : Below n w w'.drew := h.drew

end Go.Proofs.YtbpdmpcakenjhaaDoor

namespace Go.Proofs.YtbpdmpcakenjhaaDoor
open Go.RowKit
set_option maxRecDepth 100000

def sOverlap : ByteArray := ⟨#[111, 118, 101, 114, 108, 97, 112]⟩
/-- rule.Small's answer. -/
def smallP (k R : Int) (T : List Int) : PErr :=
  match checkP k R T with
  | some t => some t
  | none => if 256 < T.length then fresh sRule 0 4 else none
theorem smallP_ok {K R : Nat} {T : List Int} (h : RuleOk K R T) : smallP K R T = if 256 < T.length then fresh sRule 0 4 else none := by
  unfold smallP; rw [h.check]
theorem smallP_none {k R : Int} {T : List Int} (h : smallP k R T = none) : checkP k R T = none ∧ T.length ≤ 256 := by
  unfold smallP at h
  cases hc : checkP k R T with
  | some t => rw [hc] at h; cases h
  | none =>
    rw [hc] at h
    refine ⟨rfl, ?_⟩
    by_cases hl : 256 < T.length
    · rw [if_pos hl] at h; simp [fresh] at h
    · omega

theorem small_any (r : Nat → Addr) (k R : Int) (va : Option Addr) (vn vc : Nat) (T : List Int) (w : World) (hg : Glob r w) (h : IntsAt w (.slice va vn vc) T) :
    Calls Tryd.prog 94 #[.agg #[.int .i64 k, .int .i64 R, .slice va vn vc]] w (Ret1 (fun x w' => ErrIs r w' (smallP k R T) x) w) := by
  have b0 := belowAlloc w (.cells #[.int .i64 k, .int .i64 R, .slice va vn vc] 24)
  have q : Box3 (w.alloc (.cells #[.int .i64 k, .int .i64 R, .slice va vn vc] 24)) w.heap.size (.int .i64 k) (.int .i64 R) (.slice va vn vc) := by simp [Box3, go_sem]
  have lT := h.len
  replace hg := Lib.hid (hg.below b0)
  replace h := Lib.hid (h.below b0)
  obtain ⟨e0, hsm, he0⟩ : ∃ e0, (smallP k R T = match e0 with | some t => some t | none => if 256 < T.length then fresh sRule 0 4 else none) ∧ checkP k R T = e0 := ⟨_, rfl, rfl⟩
  replace he0 := Lib.hid he0
  go_enter Tryd.func94, Tryd.ntmps94
  go_wp2_with fail
  refine (check_any r k R _ T _ hg.out h.out).mono ?_
  rintro e w1 ⟨x, rfl, b1, he⟩
  rw [he0.out] at he
  cases e0 with
  | some t =>
    simp only [] at hsm
    replace hsm := Lib.hid hsm
    obtain ⟨T1, a1, rfl⟩ := ErrIs.some_shape he
    replace he := Lib.hid he
    go_wp2
    go_ret
    exact ⟨_, rfl, Below.step b0 b1, by rw [hsm.out]; exact he.out⟩
  | none =>
    obtain rfl := he.none_eq
    simp only [] at hsm
    clear he
    obtain ⟨⟨z0, z1, z2⟩, -, -, -⟩ := q.below b1
    by_cases hl : 256 < T.length
    · rw [if_pos hl] at hsm
      replace hsm := Lib.hid hsm
      go_wp2_with fail
      refine (rule_wrong r _ _ _ (hg.out.below b1) (by decide) (by decide)).mono ?_
      rintro e w2 ⟨x, rfl, b2, he⟩
      go_wp2
      go_ret
      exact ⟨_, rfl, Below.step b0 (Below.step b1 b2), by rw [hsm.out]; exact he⟩
    · rw [if_neg hl] at hsm
      replace hsm := Lib.hid hsm
      go_wp2
      go_ret
      exact ⟨_, rfl, Below.step b0 b1, by rw [hsm.out]; rfl⟩

theorem over_small (r : Nat → Addr) (k R : Int) (va : Option Addr) (vn vc : Nat) (T : List Int) (w : World) (hg : Glob r w) (h : IntsAt w (.slice va vn vc) T) :
    Calls Tryd.prog 75 #[.agg #[.int .i64 k, .int .i64 R, .slice va vn vc]] w (Ret1 (fun x w' => ErrIs r w' (under sOverlap 0 (smallP k R T)) x) w) := by
  have b0 := belowAlloc w (.cells #[.int .i64 k, .int .i64 R, .slice va vn vc] 24)
  replace hg := Lib.hid (hg.below b0)
  replace h := Lib.hid (h.below b0)
  go_enter Tryd.func75, Tryd.ntmps75
  go_wp2_with fail
  refine (small_any r k R va vn vc T _ hg.out h.out).mono ?_
  rintro e w1 ⟨x, rfl, b1, he⟩
  go_wp2_with fail
  refine (under_any r _ 0 _ x _ he).mono ?_
  rintro e w2 ⟨y, rfl, b2, hy⟩
  go_wp2
  go_ret
  exact ⟨_, rfl, Below.step b0 (Below.step b1 b2), hy⟩

theorem over_wrong (r : Nat → Addr) (at_ n : Int) (w : World) (hg : Glob r w) (h1 : 1 ≤ n) (h2 : n ≤ 11) :
    Calls Tryd.prog 44 #[.int .i64 at_, .int .i64 n] w (Ret1 (fun v w' => ErrIs r w' (fresh sOverlap at_ n) v) w) := by
  go_enter Tryd.func44, Tryd.ntmps44
  go_wp2_with fail
  refine (new_any r _ at_ n w hg h1 h2).mono ?_
  rintro e w' ⟨v, rfl, hb, he⟩
  go_wp2
  go_ret
  exact ⟨_, rfl, hb, he⟩

theorem over_nodes (K R : Nat) (va : Option Addr) (vn vc : Nat) (T : List Int) (w : World) (h : IntsAt w (.slice va vn vc) T) (h1 : 1 ≤ K) (hT : T.length ≤ 16384) :
    Calls Tryd.prog 45 #[.agg #[.int .i64 K, .int .i64 R, .slice va vn vc]] w fun e w' => e = .returned (.int .i64 ((T.length / K : Nat) : Int)) ∧ w' = w.alloc (.cells #[.int .i64 K, .int .i64 R, .slice va vn vc] 24) := by
  have hK0 : ((K : Int) == 0) = false := by rw [beq_eq_false_iff_ne]; omega
  have hK1 : ¬ (K : Int) = 0 := by omega
  have hK2 : (0 : Int) < K := by omega
  have hK3 : ¬ K = 0 := by omega
  have lT := h.len
  have hq0 : 0 ≤ (T.length : Int) / (K : Int) := Int.ediv_nonneg (by omega) (by omega)
  have hqc : (T.length : Int) / (K : Int) = ((T.length / K : Nat) : Int) := by simp
  have hqw : IntKind.i64.wrap ((T.length : Int) / (K : Int)) = (T.length : Int) / (K : Int) := by
    have : T.length / K ≤ 16384 := Nat.le_trans (Nat.div_le_self _ _) hT
    exact wrapK (by omega) (by rw [hqc]; omega)
  rw [← hqc]
  replace hqc := Lib.hid hqc
  go_enter Tryd.func45, Tryd.ntmps45
  go_wp2
  go_ret
  exact ⟨rfl, rfl⟩

theorem over_check1 (x k : Int) (b : Nat) (w : World) (hb : w.cell? ⟨b, 0, none⟩ = some (.int .i64 k)) :
    Calls Tryd.prog 76 #[.int .i64 x, .pointer (some ⟨b, 0, none⟩)] w fun e w' => e = .returned (.bool (odd1 k x)) ∧ w = w' := by
  by_cases h : x < 0
  · have e : odd1 k x = true := by simp [odd1, h]
    rw [e]
    go_enter Tryd.func76, Tryd.ntmps76
    go_wp2
    go_ret
    exact ⟨rfl, rfl⟩
  · have e : odd1 k x = decide (k ≤ x) := by simp [odd1, h]
    rw [e]
    go_enter Tryd.func76, Tryd.ntmps76
    go_wp2
    go_ret
    exact ⟨ret_bool (by simp), rfl⟩
theorem eg_over_check1 (args : Array Value) (w : World) : (callFunc 76 args).run Tryd.prog w = .ok (.enter 76 args) w := by kernel_rfl

/-- overlap.check's answer. -/
def overP (k R : Int) (T ws : List Int) (most : Int) : PErr :=
  match smallP k R T with
  | some t => under sOverlap 0 (some t)
  | none => if most < ws.length then fresh sOverlap 1 4 else if idxOf (odd1 k) ws = -1 then none else fresh sOverlap (idxOf (odd1 k) ws) 2

set_option maxHeartbeats 1000000 in
theorem over_check (r : Nat → Addr) (k R : Int) (va : Option Addr) (vn vc : Nat) (T : List Int) (u : Value) (ws : List Int) (most : Int) (w : World) (hg : Glob r w) (h : IntsAt w (.slice va vn vc) T) (hu : IntsAt w u ws) :
    Calls Tryd.prog 43 #[.agg #[.int .i64 k, .int .i64 R, .slice va vn vc], u, .int .i64 most] w (Ret1 (fun x w' => ErrIs r w' (overP k R T ws most) x) w) := by
  have b0 := belowAlloc w (.cells #[.int .i64 k, .int .i64 R, .slice va vn vc] 24)
  have q : Box3 (w.alloc (.cells #[.int .i64 k, .int .i64 R, .slice va vn vc] 24)) w.heap.size (.int .i64 k) (.int .i64 R) (.slice va vn vc) := by simp [Box3, go_sem]
  have l1 := hu.len
  have lm := hu.len_le
  obtain ⟨a1, n1, c1, rfl⟩ := hu.shape
  replace hg := Lib.hid (hg.below b0)
  replace h := Lib.hid (h.below b0)
  replace hu := Lib.hid (hu.below b0)
  obtain ⟨e0, hsm, he0⟩ : ∃ e0, (overP k R T ws most = match e0 with | some t => under sOverlap 0 (some t) | none => if most < ws.length then fresh sOverlap 1 4 else if idxOf (odd1 k) ws = -1 then none else fresh sOverlap (idxOf (odd1 k) ws) 2) ∧ smallP k R T = e0 := ⟨_, rfl, rfl⟩
  replace he0 := Lib.hid he0
  go_enter Tryd.func43, Tryd.ntmps43
  go_wp2_with fail
  refine (over_small r k R va vn vc T _ hg.out h.out).mono ?_
  rintro e w1 ⟨x, rfl, b1, he⟩
  rw [he0.out] at he
  cases e0 with
  | some t =>
    simp only [] at hsm
    replace hsm := Lib.hid hsm
    obtain ⟨T1, a1, rfl⟩ := ErrIs.some_shape he
    replace he := Lib.hid he
    go_wp2
    go_ret
    exact ⟨_, rfl, Below.step b0 b1, by rw [hsm.out]; exact he.out⟩
  | none =>
    obtain rfl := he.none_eq
    simp only [] at hsm
    clear he
    obtain ⟨⟨z0, z1, z2⟩, -, -, -⟩ := q.below b1
    by_cases hl : most < ws.length
    · rw [if_pos hl] at hsm
      replace hsm := Lib.hid hsm
      go_wp2_with fail
      refine (over_wrong r _ _ _ (hg.out.below b1) (by decide) (by decide)).mono ?_
      rintro e w2 ⟨x, rfl, b2, he⟩
      go_wp2
      go_ret
      exact ⟨_, rfl, Below.step b0 (Below.step b1 b2), by rw [hsm.out]; exact he⟩
    · rw [if_neg hl] at hsm
      rcases idxOf_cases (odd1 k) ws with ⟨hi, _⟩ | ⟨i, hi, hi', _⟩
      · rw [if_pos hi] at hsm
        replace hi := Lib.hid hi
        replace hsm := Lib.hid hsm
        go_wp2_with fail
        refine (indexFunc_any _ _ 76 ws (odd1 k) _ (hu.out.below b1) eg_over_check1 (fun x _ => over_check1 x k _ _ z0)).mono ?_
        rintro e w2 ⟨rfl, rfl⟩
        rw [hi.out]
        go_wp2
        go_ret
        exact ⟨_, rfl, Below.step b0 b1, by rw [hsm.out]; rfl⟩
      · rw [if_neg (by omega), hi] at hsm
        replace hi := Lib.hid hi
        replace hsm := Lib.hid hsm
        go_wp2_with fail
        refine (indexFunc_any _ _ 76 ws (odd1 k) _ (hu.out.below b1) eg_over_check1 (fun x _ => over_check1 x k _ _ z0)).mono ?_
        rintro e w2 ⟨rfl, rfl⟩
        rw [hi.out]
        go_wp2_with fail
        refine (over_wrong r _ _ _ (hg.out.below b1) (by decide) (by decide)).mono ?_
        rintro e w2 ⟨x, rfl, b2, he⟩
        go_wp2
        go_ret
        exact ⟨_, rfl, Below.step b0 (Below.step b1 b2), by rw [hsm.out]; exact he⟩
end Go.Proofs.YtbpdmpcakenjhaaDoor

namespace Go.Proofs.YtbpdmpcakenjhaaDoor
open Go.RowKit
set_option maxRecDepth 100000

theorem EOwn.shape {B : Nat} {w : World} {t : PErr} {v : Value} (h : EOwn B w t v) : ∃ n a1 n1 c1 a2 n2 c2, v = .agg #[.int .i64 n, .slice a1 n1 c1, .slice a2 n2 c2] := h.at.shape

/-- Two boxes of three cells: they stay. -/
theorem cells6 {w w1 : World} {x0 x1 x2 x3 x4 x5 : Value} {T1 T2 : TypeId} (hb : Below ((w.alloc (.cells #[x0, x1, x2] T1)).alloc (.cells #[x3, x4, x5] T2)).heap.size ((w.alloc (.cells #[x0, x1, x2] T1)).alloc (.cells #[x3, x4, x5] T2)) w1) :
    (w1.cell? ⟨w.heap.size, 0, none⟩ = some x0 ∧ w1.cell? ⟨w.heap.size, 1, none⟩ = some x1 ∧ w1.cell? ⟨w.heap.size, 2, none⟩ = some x2) ∧
    (w1.cell? ⟨w.heap.size + 1, 0, none⟩ = some x3 ∧ w1.cell? ⟨w.heap.size + 1, 1, none⟩ = some x4 ∧ w1.cell? ⟨w.heap.size + 1, 2, none⟩ = some x5) ∧
    (w1.frozen? ⟨w.heap.size + 1, 0, none⟩ = false ∧ w1.frozen? ⟨w.heap.size + 1, 1, none⟩ = false ∧ w1.frozen? ⟨w.heap.size + 1, 2, none⟩ = false) := by
  refine ⟨keep3 (n := w.heap.size) hb ⟨by simp [go_sem], by simp [go_sem], by simp [go_sem]⟩, ?_⟩
  have := cells3 hb
  rw [show (w.alloc (.cells #[x0, x1, x2] T1)).heap.size = w.heap.size + 1 by simp] at this
  exact ⟨⟨this.1, this.2.1, this.2.2.1⟩, this.2.2.2⟩

theorem undraw {w w1 : World} {n : Nat} (h : Below (w.drewN n).heap.size (w.drewN n) w1) : Below w.heap.size w w1 := (below_drewN (Below.refl w.heap.size w) n).trans h

theorem below_set3 {B b : Nat} {w0 w : World} (h : Below B w0 w) (hb : B ≤ b) (x y z : Value) : Below B w0 (((w.setCell ⟨b, 0, none⟩ x).setCell ⟨b, 1, none⟩ y).setCell ⟨b, 2, none⟩ z) :=
  ((h.setCell (p := ⟨b, 0, none⟩) hb x).setCell (p := ⟨b, 1, none⟩) hb y).setCell (p := ⟨b, 2, none⟩) hb z

end Go.Proofs.YtbpdmpcakenjhaaDoor

namespace Go.Proofs.YtbpdmpcakenjhaaDoor
open Go.RowKit
set_option maxRecDepth 100000

theorem mul3 {x s : Int} (hx : 0 ≤ x ∧ x < 4) (hs : 0 ≤ s ∧ s < 4) : 0 ≤ x * s ∧ x * s ≤ 9 := by
  obtain ⟨h1, h2⟩ := hx
  obtain ⟨h3, h4⟩ := hs
  have a : x = 0 ∨ x = 1 ∨ x = 2 ∨ x = 3 := by omega
  rcases a with rfl | rfl | rfl | rfl <;> omega

/-- The zero rule's value. -/
abbrev zRule : Value := .agg #[.int .i64 0, .int .i64 0, .slice none 0 0]

end Go.Proofs.YtbpdmpcakenjhaaDoor

namespace Go.Proofs.YtbpdmpcakenjhaaDoor
open Go.RowKit
set_option maxRecDepth 100000

end Go.Proofs.YtbpdmpcakenjhaaDoor

namespace Go.Proofs.YtbpdmpcakenjhaaDoor
open Go.RowKit Go.Extern.Stop Go.Stop Go.Extern
set_option maxRecDepth 100000
namespace Errs

theorem typeOfE (v : Value) (w : World) : (ReflectliteType.typeOf #[.iface 174 v]).run Tryd.prog w = .ok (.iface 138 (.agg #[.pointer (some ⟨13, 174, none⟩)])) w := by kernel_rfl
theorem comparableE (w : World) : ((ReflectliteType.method fun t => do Rtype.noPackHeld "Comparable" t; (fun a => Value.bool a.comparable) <$> typeInfo t) #[.agg #[.pointer (some ⟨13, 174, none⟩)]]).run Tryd.prog w = .ok (.bool true) w := by kernel_rfl
theorem methodComparable (v : Value) (w : World) : (Go.method 307 138 v "Comparable").run Tryd.prog w = .ok (149, v) w := by kernel_rfl
theorem compE : (Tryd.prog.info? 174).map (·.comparable) = some true := by kernel_rfl
theorem sizeE : (Tryd.prog.info? 195).map (·.size) = some 1 := by kernel_rfl
theorem uErr : Tryd.prog.underlying 27 = some (.interface #[("Error", 175)]) := by kernel_rfl
theorem uES : Tryd.prog.underlying 174 = some (.pointer 195) := by kernel_rfl
theorem uIs : Tryd.prog.underlying 140 = some (.interface #[("Is", 142)]) := by kernel_rfl
theorem uUnw : Tryd.prog.underlying 143 = some (.interface #[("Unwrap", 144)]) := by kernel_rfl
theorem noIsF (v : Value) (xT : TypeId) (w : World) : (Instr.typeAssert (.iface 90 v) xT 140 true).run Tryd.prog w = .ok (.tuple #[.nilIface, .bool false]) w := run_typeAssert_lacksB uIs (by kernel_rfl) (by kernel_rfl) v xT w
theorem hasUnwrapF (v : Value) (xT : TypeId) (w : World) : (Instr.typeAssert (.iface 90 v) xT 143 true).run Tryd.prog w = .ok (.tuple #[.iface 90 v, .bool true]) w := run_typeAssert_hasB uUnw (by kernel_rfl) v xT w
theorem methodUnwrap (v : Value) (w : World) : (Go.method 307 90 v "Unwrap").run Tryd.prog w = .ok (143, v) w := by kernel_rfl

theorem unwrap_any (p : Nat) (u : Value) (w : World) (h : w.cell? ⟨p, 2, none⟩ = some u) :
    Calls Tryd.prog 143 #[.pointer (some ⟨p, 0, none⟩)] w fun e w' => e = .returned u ∧ w = w' := by
  go_enter Tryd.func143, Tryd.ntmps143
  go_wp2
  go_ret
  exact ⟨rfl, rfl⟩

set_option maxHeartbeats 800000 in
theorem is_loop (r : Nat → Addr) (n : Int) (l : List (ByteArray × Int)) (v : Value) (w : World) (h : ErrAt r w n l v) :
    Calls Tryd.prog 87 #[v, rootV r n, .bool true] w fun e w' => e = .returned (.bool true) ∧ w = w' := by
  obtain ⟨i, hi, hcmp⟩ := Option.map_eq_some_iff.1 compE
  obtain ⟨j, hj, hjs⟩ := Option.map_eq_some_iff.1 sizeE
  have heq := run_eql_iface_ptr_same (P := Tryd.prog) w (r n.toNat) uErr uES hi hcmp hj
  have nF := noIsF
  have uF := hasUnwrapF
  have mU := methodUnwrap
  clear hi hcmp hj hjs
  replace h := Lib.hid h
  go_enter Tryd.func87, Tryd.ntmps87
  go_wp2
  go_loopg [0] l.length (fun k u wr => wr = w ∧ ∃ l', l'.length = k ∧ ErrAt r w n l' u)
  case atStart => exact ⟨rfl, l, rfl, h.out⟩
  case round =>
    obtain ⟨rfl, l', hl', hu⟩ := hrel
    match l', hl', hu with
    | [], hl', hu =>
      obtain rfl : _ = rootV r n := hu
      clear hl'
      go_wp2
      go_ret
      exact ⟨rfl, rfl⟩
    | (op, at_) :: rest, hl', hu =>
      obtain ⟨p, u', rfl, c0, c1, c2, hrest⟩ := hu
      obtain ⟨T, a, rfl⟩ := hrest.shape
      have hty := run_eql_iface_types (P := Tryd.prog) 90 174 (.pointer (some ⟨p, 0, none⟩)) (.pointer (some (r n.toNat))) uErr (by decide) wr
      replace hrest := Lib.hid hrest
      replace hl' := Lib.hid hl'
      go_wp2_with (go_at_call 143; refine (unwrap_any p _ _ c2).mono ?_; rintro e w' ⟨rfl, rfl⟩)
      go_roundg rest.length
      case measure => have := hl'.out; simp at this; omega
      case rel => exact ⟨rfl, rest, rfl, hrest.out⟩

/-- errors.Is at a chain of Faults and the error that it ends in. -/
theorem is_any (r : Nat → Addr) (n : Int) (l : List (ByteArray × Int)) (v : Value) (w : World) (h : ErrAt r w n l v) :
    Calls Tryd.prog 62 #[v, rootV r n] w fun e w' => e = .returned (.bool true) ∧ w = w' := by
  have h8 := @run_callFunc_extern Tryd.prog 86 _ Extern.ReflectliteType.typeOf Tryd.func86 (by kernel_rfl) (by kernel_rfl) (by kernel_rfl) (by kernel_rfl)
  have h32 := @run_callFunc_extern Tryd.prog 149 _ (Extern.ReflectliteType.method fun t => do Extern.Rtype.noPackHeld "Comparable" t; pure (.bool (← typeInfo t).comparable)) Tryd.func149 (by kernel_rfl) (by kernel_rfl) (by kernel_rfl) (by kernel_rfl)
  have tT := typeOfE
  have cT := comparableE
  have mR := methodComparable
  obtain ⟨T, a, rfl⟩ := h.shape
  replace h := Lib.hid h
  go_enter Tryd.func62, Tryd.ntmps62
  go_wp2_with fail
  refine (is_loop r n l _ _ h.out).mono ?_
  rintro e w' ⟨rfl, rfl⟩
  go_wp2
  go_ret
  exact ⟨rfl, rfl⟩
end Errs
end Go.Proofs.YtbpdmpcakenjhaaDoor
