/-
  Walks: edenref03.Bad, edenref04.Power, Digits, Check.
  Walk: rule.Check, at every rule.
  Walks: package additive.
  Walks: edenref18.Fault.
  Walk: edenraw.Under at an error.
  Walks: errors.Is and errors.As at a chain of Faults; the model's entries for internal/reflectlite at this program's types (after the kit's worked example Toyas).
  The model's entries for internal/reflectlite at a *api.Fault and at the address of a variable of that type (after the kit's worked example Toyas).
  Walk: errors.As at a Fault (after the kit's worked example Toyas).
  Walk: edenraw.Is at an error that is what it must be.
  Plain law of AddParts: a table is a sum just if each window is the sum of two.
  Plain mathematics of AddSums: a product may be turned; the factors of a sum at one symbol alone; factors taken modulo k.
  Plain mathematics: the reference's sums, window by window; what it tells by the factors; its products.
  Walk: edenref18.Sum.
  Walk: edenref18.Make.
  Walks: additive.Of.
  Walks: additive.Onto, additive.One.
  Walks: edenref18.Onto, One.
  Walk: edenref18.One.
  Errors as edenraw.Is takes them: a number from 1 to 11, few packages.
  copy onto an owned slice; a slice cut at its front; edenraw.Lent, Kept, LentRule, KeptRule, Rules.
  Plain mathematics: the reference's factors of a rule, the first found first.
  Walk: edenref18.Of.
  Plain mathematics: the document's sides, mirrored rule and preimages with given ends are the program's.
  Walks: slices.Grow of nil, slices.Concat, slices.Reverse at []int; word.Back.
  Walks: package permut.
  Walks: permut.check, permut.fits.
  Walk: permut.Right.
-/
import Derived.Test.YtmhiambkfdkkbaaGreatDoorMPg1
import Derived.Deep.RegionHeld3
import Derived.LaidEql
import Derived.Stop.Asserts
import Derived.RowKitTokens
import Derived.Deep.LoopGhost
import Derived.Deep.RegionWith
import Derived.RegionTactic
import Derived.Laws.CopyOwn
import Derived.Lib.AppendZeros
import Derived.BigQuiet
import Derived.Deep.QuietTactic
namespace Go.Proofs.YtmhiambkfdkkbaaGreatDoor
open Go.RowKit
set_option maxRecDepth 100000

theorem ref_bad (k : Int) (v : Value) (xs : List Int) (w : World) (h : IntsAt w v xs) :
    Calls Tryz.prog 54 #[.int .i64 k, v] w fun e w' => e = .returned (.int .i64 (idxOf (odd1 k) xs)) ∧ w = w' := by
  have hlen := h.len
  have hm := h.len_le
  go_enter Tryz.func54, Tryz.ntmps54
  go_wp2
  go_loop [5] (fun i => ∃ j : Nat, j ≤ xs.length ∧ i = .int .i64 j ∧ ∀ t (ht : t < xs.length), t < j → odd1 k xs[t] = false) (fun i => xs.length - (intOf i).toNat)
  case atStart => exact ⟨0, by omega, rfl, by omega⟩
  case round =>
    obtain ⟨j, hj, rfl, hp⟩ := hrel
    replace hp := Lib.hid hp
    by_cases hlt : j < xs.length
    · have hi := h.idx j hlt
      have hc := h.cell j hlt
      by_cases ho : odd1 k xs[j] = true
      · have ho' := ho
        simp only [odd1, Bool.or_eq_true, decide_eq_true_eq] at ho'
        have hres := Lib.hid (idxOf_at (p := odd1 k) j hlt ho fun t ht h => hp.out t ht h)
        clear ho
        generalize xs[j] = x at hc ho'
        by_cases h0 : x < 0
        · clear ho'
          go_wp2
          go_ret
          exact ⟨ret_int hres.out.symm, rfl⟩
        · have h1 : k ≤ x := by omega
          clear ho'
          go_wp2
          go_ret
          exact ⟨ret_int hres.out.symm, rfl⟩
      · have ho' : odd1 k xs[j] = false := by simpa using ho
        have hH := Lib.hid ho'
        have ho2 := odd1_false.1 ho'
        clear ho ho'
        have hh : ∀ x, xs[j] = x → x = xs[j] := fun x e => e.symm
        generalize hx : xs[j] = x at hc ho2
        replace hx := Lib.hid hx
        obtain ⟨g0, g1⟩ := ho2
        clear hh
        go_wp2
        go_round
        case rel =>
          refine ⟨j + 1, by omega, by go_num, ?_⟩
          intro t ht htj
          by_cases e : t = j
          · subst e; exact hH.out
          · exact hp.out t ht (by omega)
        case measure => simp [intOf]; omega
    · go_wp2
      go_ret
      refine ⟨ret_int (idxOf_neg fun x hx => ?_).symm, rfl⟩
      obtain ⟨t, ht, rfl⟩ := List.mem_iff_getElem.1 hx
      exact hp.out t ht (by omega)

theorem ref_power0 (K n : Nat) (w : World) (h1 : 1 ≤ K) (h4 : K ≤ 4) (hn : n ≤ 7) :
    Calls Tryz.prog 86 #[.int .i64 K, .int .i64 n] w fun e w' => e = .returned (.int .i64 (pw K n)) ∧ w = w' := by
  go_enter Tryz.func86, Tryz.ntmps86
  go_wp2
  go_loop [5, 6] (fun x i => ∃ j : Nat, j ≤ n ∧ i = .int .i64 j ∧ x = .int .i64 (pw K j)) (fun _ i => n - (intOf i).toNat)
  case atStart => exact ⟨0, by omega, rfl, rfl⟩
  case round =>
    obtain ⟨j, hj, rfl, rfl⟩ := hrel
    by_cases hlt : j < n
    · have hb := pw_le (i := j + 1) h1 h4 (by omega)
      have hs : ((pw K (j + 1) : Nat) : Int) = (pw K j : Int) * (K : Int) := by rw [pw_succ]; simp
      have hb1 : 0 ≤ (pw K j : Int) * (K : Int) := by rw [← hs]; omega
      have hb2 : (pw K j : Int) * (K : Int) ≤ 16384 := by rw [← hs]; omega
      replace hs := Lib.hid hs
      go_wp2
      go_round
      case rel => exact ⟨j + 1, by omega, by go_num, by rw [hs.out]⟩
      case measure => simp [intOf]; omega
    · obtain rfl : j = n := by omega
      go_wp2
      go_ret
      exact ⟨rfl, rfl⟩

theorem ref_power (k m : Int) (K n : Nat) (w : World) (hk : k = K) (hm : m = n) (h1 : 1 ≤ K) (h4 : K ≤ 4) (hn : n ≤ 7) :
    Calls Tryz.prog 86 #[.int .i64 k, .int .i64 m] w fun e w' => e = .returned (.int .i64 (pw K n)) ∧ w = w' := by
  subst hk hm
  exact ref_power0 K n w h1 h4 hn

set_option maxHeartbeats 400000 in
theorem ref_digits0 (K N X : Nat) (w : World) (hk1 : 1 ≤ K) (hk4 : K ≤ 4) (hN : N ≤ 7) (hX : X ≤ 16384) :
    Calls Tryz.prog 79 #[.int .i64 K, .int .i64 N, .int .i64 X] w (Ret1 (fun x w' => OwnI w.heap.size w' x (digs K N X)) w) := by
  have hK0 : ((K : Int) == 0) = false := by rw [beq_eq_false_iff_ne]; omega
  have hK1 : ¬ (K : Int) = 0 := by omega
  have hK2 : (0 : Int) < K := by omega
  go_enter Tryz.func79, Tryz.ntmps79
  go_wp2_with (at_make; refine wpl_make rfl _ _ rfl _ rfl rfl (by omega) (by omega) ?_)
  intro wv w1 ho b1
  go_wp2
  go_loopw [2, 8] (fun x i wr => ∃ j : Nat, j ≤ N ∧ i = .int .i64 ((N : Int) - 1 - (j : Int)) ∧ x = .int .i64 (X / pw K j : Nat) ∧ OwnI w.heap.size wr wv ((List.replicate N (0 : Int)).take (N - j) ++ (digs K N X).drop (N - j)) ∧ Below w.heap.size w wr) (fun _ i _ => (intOf i + 1).toNat)
  case atStart => exact ⟨0, by omega, by simp, by simp [pw], by rw [Nat.sub_zero, List.drop_of_length_le (by simp [digs_length]), List.append_nil, List.take_of_length_le (by simp)]; exact ho, b1⟩
  case round =>
    obtain ⟨j, hj, rfl, rfl, hO, hbI⟩ := hrel
    obtain ⟨wi, rfl⟩ : ∃ wi : World, wi = wr := ⟨_, rfl⟩
    by_cases hjl : j < N
    · have hXl : ((List.replicate N (0 : Int)).take (N - j) ++ (digs K N X).drop (N - j)).length = N := by simp [digs_length]
      have i1 : ∀ w', (Instr.indexAt 22 wv (.int .i64 ((N : Int) - 1 - (j : Int)))).run Tryz.prog w' = .ok (.pointer (some (valAt wv (N - 1 - j)))) w' := by
        intro w'
        have := hO.at.idxI ((N : Int) - 1 - (j : Int)) (by omega) (by rw [hXl]; omega) w'
        rwa [show ((N : Int) - 1 - (j : Int)).toNat = N - 1 - j by omega] at this
      have c1 := hO.at.cellD (N - 1 - j) (by rw [hXl]; omega)
      have f1 := hO.frz (N - 1 - j) (by rw [hXl]; omega)
      have hS := hO.set (N - 1 - j) (by rw [hXl]; omega) ((X / pw K j % K : Nat) : Int)
      have hbS := hO.setBelow hbI (N - 1 - j) (by rw [hXl]; omega) (.int .i64 ((X / pw K j % K : Nat) : Int))
      rw [digs_fill K N X j hjl (List.replicate N (0 : Int)) (by simp)] at hS
      replace hS := Lib.hid hS
      replace hbS := Lib.hid hbS
      have hqd : X / pw K j / K = X / pw K (j + 1) := by rw [Nat.div_div_eq_div_mul, ← pw_succ]
      replace hqd := Lib.hid hqd
      have hql : X / pw K j ≤ 16384 := Nat.le_trans (Nat.div_le_self _ _) (by omega)
      generalize ((List.replicate N (0 : Int)).take (N - j) ++ (digs K N X).drop (N - j)).getD (N - 1 - j) 0 = y at c1
      clear hXl hO
      generalize X / pw K j = q at *
      rw [Int.natCast_emod] at hS hbS
      have hd0 : 0 ≤ (q : Int) / (K : Int) := Int.ediv_nonneg (by omega) (by omega)
      have hd1 : (q : Int) / (K : Int) ≤ 16384 := by
        have h1 : q / K ≤ q := Nat.div_le_self _ _
        have h2 : q / K ≤ 16384 := by omega
        exact_mod_cast h2
      have hdw : IntKind.i64.wrap ((q : Int) / (K : Int)) = (q : Int) / (K : Int) := wrapK (by omega) (by omega)
      go_wp2
      go_roundw
      case rel => exact ⟨j + 1, by omega, by congr 1; omega, by rw [← hqd.out]; simp, hS.out, hbS.out⟩
      case measure => simp [intOf]; omega
    · obtain rfl : j = N := by omega
      rw [Nat.sub_self, List.take_zero, List.drop_zero, List.nil_append] at hO
      replace hO := Lib.hid hO
      go_wp2
      go_ret
      exact ⟨_, rfl, hbI, hO.out⟩

theorem ref_digits (k m x : Int) (K N X : Nat) (w : World) (hk : k = K) (hm : m = N) (hx : x = X) (hk1 : 1 ≤ K) (hk4 : K ≤ 4) (hN : N ≤ 7) (hX : X ≤ 16384) :
    Calls Tryz.prog 79 #[.int .i64 k, .int .i64 m, .int .i64 x] w (Ret1 (fun x w' => OwnI w.heap.size w' x (digs K N X)) w) := by
  subst hk hm hx
  exact ref_digits0 K N X w hk1 hk4 hN hX

theorem EOwn.shape {B : Nat} {w : World} {t : PErr} {v : Value} (h : EOwn B w t v) : ∃ n a1 n1 c1 a2 n2 c2, v = .agg #[.int .i64 n, .slice a1 n1 c1, .slice a2 n2 c2] := h.at.shape

/-- Two boxes of three cells: they stay. -/
theorem cells6 {w w1 : World} {x0 x1 x2 x3 x4 x5 : Value} {T1 T2 : TypeId} (hb : Below ((w.alloc (.cells #[x0, x1, x2] T1)).alloc (.cells #[x3, x4, x5] T2)).heap.size ((w.alloc (.cells #[x0, x1, x2] T1)).alloc (.cells #[x3, x4, x5] T2)) w1) :
    (w1.cell? ⟨w.heap.size, 0, none⟩ = some x0 ∧ w1.cell? ⟨w.heap.size, 1, none⟩ = some x1 ∧ w1.cell? ⟨w.heap.size, 2, none⟩ = some x2) ∧
    (w1.cell? ⟨w.heap.size + 1, 0, none⟩ = some x3 ∧ w1.cell? ⟨w.heap.size + 1, 1, none⟩ = some x4 ∧ w1.cell? ⟨w.heap.size + 1, 2, none⟩ = some x5) ∧
    (w1.frozen? ⟨w.heap.size + 1, 0, none⟩ = false ∧ w1.frozen? ⟨w.heap.size + 1, 1, none⟩ = false ∧ w1.frozen? ⟨w.heap.size + 1, 2, none⟩ = false) := by
  refine ⟨keep3 (n := w.heap.size) hb ⟨by simp [go_sem], by simp [go_sem], by simp [go_sem]⟩, ?_⟩
  have := cells3 hb
  rw [show (w.alloc (.cells #[x0, x1, x2] T1)).heap.size = w.heap.size + 1 by simp] at this
  exact ⟨⟨this.1, this.2.1, this.2.2.1⟩, this.2.2.2⟩

theorem undraw {w w1 : World} {n : Nat} (h : Below (w.drewN n).heap.size (w.drewN n) w1) : Below w.heap.size w w1 := (below_drewN (Below.refl w.heap.size w) n).trans h

theorem below_set3 {B b : Nat} {w0 w : World} (h : Below B w0 w) (hb : B ≤ b) (x y z : Value) : Below B w0 (((w.setCell ⟨b, 0, none⟩ x).setCell ⟨b, 1, none⟩ y).setCell ⟨b, 2, none⟩ z) :=
  ((h.setCell (p := ⟨b, 0, none⟩) hb x).setCell (p := ⟨b, 1, none⟩) hb y).setCell (p := ⟨b, 2, none⟩) hb z

theorem ref_check_k (k R : Int) (va : Option Addr) (vn vc : Nat) (w : World) (h : k < 1 ∨ 4 < k) :
    Calls Tryz.prog 139 #[.agg #[.int .i64 k, .int .i64 R, .slice va vn vc]] w (Ret1 (fun x w' => EOwn w.heap.size w' (fresh sRule 0 1) x) w) := by
  have b0 := Below.step (belowAlloc w (.cells #[.int .i64 k, .int .i64 R, .slice va vn vc] 24)) (belowAlloc _ (.cells #[.int .i64 0, .slice none 0 0, .slice none 0 0] 34))
  have d : (decide (k < 1) || decide (4 < k)) = true := by simpa using h
  by_cases h1 : k < 1
  · clear h d
    go_enter Tryz.func139, Tryz.ntmps139
    go_wp2_with fail
    refine (raw_new _ _ _ _).mono ?_
    rintro e w1 ⟨x, rfl, b1, he⟩
    obtain ⟨q, a1, n1, c1, a2, n2, c2, rfl⟩ := he.shape
    obtain ⟨-, ⟨y0, y1, y2⟩, f0, f1, f2⟩ := cells6 b1
    replace he := Lib.hid he
    go_wp2
    exact bodyPost_ret (v := .agg #[.int .i64 q, .slice a1 n1 c1, .slice a2 n2 c2]) (by simp [results, Tryz.results139, go_sem, y0, y1, y2]) rfl ⟨_, rfl, below_set3 (Below.step b0 b1) (by simp) _ _ _, (he.out.set3 (by simp) _ _ _).mono (by simp; omega)⟩
  · have h2 : 4 < k := by omega
    clear h d
    go_enter Tryz.func139, Tryz.ntmps139
    go_wp2_with fail
    refine (raw_new _ _ _ _).mono ?_
    rintro e w1 ⟨x, rfl, b1, he⟩
    obtain ⟨q, a1, n1, c1, a2, n2, c2, rfl⟩ := he.shape
    obtain ⟨-, ⟨y0, y1, y2⟩, f0, f1, f2⟩ := cells6 b1
    replace he := Lib.hid he
    go_wp2
    exact bodyPost_ret (v := .agg #[.int .i64 q, .slice a1 n1 c1, .slice a2 n2 c2]) (by simp [results, Tryz.results139, go_sem, y0, y1, y2]) rfl ⟨_, rfl, below_set3 (Below.step b0 b1) (by simp) _ _ _, (he.out.set3 (by simp) _ _ _).mono (by simp; omega)⟩

set_option maxHeartbeats 400000 in
theorem ref_check_r (K : Nat) (R : Int) (va : Option Addr) (vn vc : Nat) (w : World) (h1 : 1 ≤ K) (h4 : K ≤ 4) (h : R < 0 ∨ 3 < R) :
    Calls Tryz.prog 139 #[.agg #[.int .i64 K, .int .i64 R, .slice va vn vc]] w (Ret1 (fun x w' => EOwn w.heap.size w' (fresh sRule 1 1) x) w) := by
  have b0 := Below.step (belowAlloc w (.cells #[.int .i64 K, .int .i64 R, .slice va vn vc] 24)) (belowAlloc _ (.cells #[.int .i64 0, .slice none 0 0, .slice none 0 0] 34))
  rcases h with h | h
  · go_enter Tryz.func139, Tryz.ntmps139
    go_wp2_with fail
    refine (raw_new _ _ _ _).mono ?_
    rintro e w1 ⟨x, rfl, b1, he⟩
    obtain ⟨q, a1, n1, c1, a2, n2, c2, rfl⟩ := he.shape
    obtain ⟨-, ⟨y0, y1, y2⟩, f0, f1, f2⟩ := cells6 b1
    replace he := Lib.hid he
    go_wp2
    exact bodyPost_ret (v := .agg #[.int .i64 q, .slice a1 n1 c1, .slice a2 n2 c2]) (by simp [results, Tryz.results139, go_sem, y0, y1, y2]) rfl ⟨_, rfl, below_set3 (Below.step b0 b1) (by simp) _ _ _, (he.out.set3 (by simp) _ _ _).mono (by simp; omega)⟩
  · have h0 : 0 ≤ R := by omega
    go_enter Tryz.func139, Tryz.ntmps139
    go_wp2_with fail
    refine (raw_new _ _ _ _).mono ?_
    rintro e w1 ⟨x, rfl, b1, he⟩
    obtain ⟨q, a1, n1, c1, a2, n2, c2, rfl⟩ := he.shape
    obtain ⟨-, ⟨y0, y1, y2⟩, f0, f1, f2⟩ := cells6 b1
    replace he := Lib.hid he
    go_wp2
    exact bodyPost_ret (v := .agg #[.int .i64 q, .slice a1 n1 c1, .slice a2 n2 c2]) (by simp [results, Tryz.results139, go_sem, y0, y1, y2]) rfl ⟨_, rfl, below_set3 (Below.step b0 b1) (by simp) _ _ _, (he.out.set3 (by simp) _ _ _).mono (by simp; omega)⟩

set_option maxHeartbeats 400000 in
theorem ref_check_len (K R : Nat) (va : Option Addr) (vn vc : Nat) (xs : List Int) (w : World) (h : IntsAt w (.slice va vn vc) xs) (h1 : 1 ≤ K) (h4 : K ≤ 4) (h3 : R ≤ 3) (hl : xs.length ≠ pw K (2 * R + 1)) :
    Calls Tryz.prog 139 #[.agg #[.int .i64 K, .int .i64 R, .slice va vn vc]] w (Ret1 (fun x w' => EOwn w.heap.size w' (fresh sRule 2 1) x) w) := by
  have b0 := Below.step (belowAlloc w (.cells #[.int .i64 K, .int .i64 R, .slice va vn vc] 24)) (belowAlloc _ (.cells #[.int .i64 0, .slice none 0 0, .slice none 0 0] 34))
  have hlen := h.len
  have hne : ((xs.length : Int) != (pw K (2 * R + 1) : Int)) = true := by rw [bne_iff_ne]; omega
  clear h hl
  go_enter Tryz.func139, Tryz.ntmps139
  go_wp2
  go_quiet ((go_at_call 86; exact Calls.quiet_of_same ((ref_power _ _ K (2 * R + 1) _ rfl (by omega) h1 h4 (by omega)).mono fun _ _ ⟨a, b⟩ => ⟨a, b.symm⟩)))
  go_wp2_with fail
  refine (raw_new _ _ _ _).mono ?_
  rintro e w1 ⟨x, rfl, b1, he⟩
  replace b1 := undraw b1
  obtain ⟨q, a1, n1, c1, a2, n2, c2, rfl⟩ := he.shape
  obtain ⟨-, ⟨y0, y1, y2⟩, f0, f1, f2⟩ := cells6 b1
  replace he : Hid (EOwn ((w.alloc (.cells #[.int .i64 K, .int .i64 R, .slice va vn vc] 24)).alloc (.cells #[.int .i64 0, .slice none 0 0, .slice none 0 0] 34)).heap.size w1 _ _) := Lib.hid he
  go_wp2
  exact bodyPost_ret (v := .agg #[.int .i64 q, .slice a1 n1 c1, .slice a2 n2 c2]) (by simp [results, Tryz.results139, go_sem, y0, y1, y2]) rfl ⟨_, rfl, below_set3 (Below.step b0 b1) (by simp) _ _ _, (he.out.set3 (by simp) _ _ _).mono (by simp; omega)⟩

set_option maxHeartbeats 400000 in
theorem ref_check_odd (K R : Nat) (va : Option Addr) (vn vc : Nat) (xs : List Int) (i : Nat) (w : World) (h : IntsAt w (.slice va vn vc) xs) (h1 : 1 ≤ K) (h4 : K ≤ 4) (h3 : R ≤ 3) (hl : xs.length = pw K (2 * R + 1)) (hi : idxOf (odd1 K) xs = i) (hi' : i < xs.length) :
    Calls Tryz.prog 139 #[.agg #[.int .i64 K, .int .i64 R, .slice va vn vc]] w (Ret1 (fun x w' => EOwn w.heap.size w' (fresh sRule (3 + i) 1) x) w) := by
  have b0 := Below.step (belowAlloc w (.cells #[.int .i64 K, .int .i64 R, .slice va vn vc] 24)) (belowAlloc _ (.cells #[.int .i64 0, .slice none 0 0, .slice none 0 0] 34))
  have hlen := h.len
  have hb3 : i ≤ 20000 := by have := pw_le (i := 2 * R + 1) h1 h4 (by omega); omega
  have hne : ((xs.length : Int) != (pw K (2 * R + 1) : Int)) = false := by rw [bne_eq_false_iff_eq]; omega
  replace h := Lib.hid (h.below b0)
  clear hl hi'
  replace hi := Lib.hid hi
  go_enter Tryz.func139, Tryz.ntmps139
  go_wp2
  go_quiet ((go_at_call 86; exact Calls.quiet_of_same ((ref_power _ _ K (2 * R + 1) _ rfl (by omega) h1 h4 (by omega)).mono fun _ _ ⟨a, b⟩ => ⟨a, b.symm⟩)))
  go_wp2_with fail
  refine (ref_bad K _ xs _ (by exact h.out.drewN _)).mono ?_
  rintro e w1 ⟨rfl, rfl⟩
  rw [hi.out]
  go_wp2_with fail
  refine (raw_new _ _ _ _).mono ?_
  rintro e w1 ⟨x, rfl, b1, he⟩
  replace b1 := undraw b1
  obtain ⟨q, a1, n1, c1, a2, n2, c2, rfl⟩ := he.shape
  obtain ⟨-, ⟨y0, y1, y2⟩, f0, f1, f2⟩ := cells6 b1
  replace he : Hid (EOwn ((w.alloc (.cells #[.int .i64 K, .int .i64 R, .slice va vn vc] 24)).alloc (.cells #[.int .i64 0, .slice none 0 0, .slice none 0 0] 34)).heap.size w1 _ _) := Lib.hid he
  go_wp2
  exact bodyPost_ret (v := .agg #[.int .i64 q, .slice a1 n1 c1, .slice a2 n2 c2]) (by simp [results, Tryz.results139, go_sem, y0, y1, y2]) rfl ⟨_, rfl, below_set3 (Below.step b0 b1) (by simp) _ _ _, (he.out.set3 (by simp) _ _ _).mono (by simp; omega)⟩

set_option maxHeartbeats 400000 in
theorem ref_check_ok (K R : Nat) (va : Option Addr) (vn vc : Nat) (xs : List Int) (w : World) (h : IntsAt w (.slice va vn vc) xs) (hr : RuleOk K R xs) :
    Calls Tryz.prog 139 #[.agg #[.int .i64 K, .int .i64 R, .slice va vn vc]] w (Ret1 (fun x _ => x = zErr) w) := by
  have b0 := Below.step (belowAlloc w (.cells #[.int .i64 K, .int .i64 R, .slice va vn vc] 24)) (belowAlloc _ (.cells #[.int .i64 0, .slice none 0 0, .slice none 0 0] 34))
  obtain ⟨h1, h4, h3, hl, hs⟩ := hr
  have hlen := h.len
  have hne : ((xs.length : Int) != (pw K (2 * R + 1) : Int)) = false := by rw [bne_eq_false_iff_eq]; omega
  replace h := Lib.hid (h.below b0)
  clear hl
  have hi := Lib.hid hs.odd
  clear hs
  go_enter Tryz.func139, Tryz.ntmps139
  go_wp2
  go_quiet ((go_at_call 86; exact Calls.quiet_of_same ((ref_power _ _ K (2 * R + 1) _ rfl (by omega) h1 h4 (by omega)).mono fun _ _ ⟨a, b⟩ => ⟨a, b.symm⟩)))
  go_wp2_with fail
  refine (ref_bad K _ xs _ (by exact h.out.drewN _)).mono ?_
  rintro e w1 ⟨rfl, rfl⟩
  rw [hi.out]
  go_wp2
  exact bodyPost_ret (v := zErr) (by simp [results, Tryz.results139, go_sem]) rfl ⟨_, rfl, below_set3 (below_drewN b0 _) (by simp) _ _ _, rfl⟩

/-- edenref04.Check at every rule. -/
theorem ref_check (k R : Int) (va : Option Addr) (vn vc : Nat) (xs : List Int) (w : World) (h : IntsAt w (.slice va vn vc) xs) :
    Calls Tryz.prog 139 #[.agg #[.int .i64 k, .int .i64 R, .slice va vn vc]] w (Ret1 (fun x w' => EOwn w.heap.size w' (checkP k R xs) x) w) := by
  by_cases hk : k < 1 ∨ 4 < k
  · rw [checkP, if_pos hk]; exact ref_check_k k R va vn vc w hk
  obtain ⟨K, rfl⟩ := Int.eq_ofNat_of_zero_le (show 0 ≤ k by omega)
  by_cases hr : R < 0 ∨ 3 < R
  · rw [checkP, if_neg hk, if_pos hr]; exact ref_check_r K R va vn vc w (by omega) (by omega) hr
  obtain ⟨R, rfl⟩ := Int.eq_ofNat_of_zero_le (show 0 ≤ R by omega)
  by_cases hl : xs.length = pw K (2 * R + 1)
  · rcases syms_or K xs with hs | ⟨i, hi, hlt⟩
    · have hok : RuleOk K R xs := ⟨by omega, by omega, by omega, hl, hs⟩
      rw [hok.check]; exact (ref_check_ok K R va vn vc xs w h hok).mono fun _ _ ⟨x, a, b, c⟩ => ⟨x, a, b, c⟩
    · have : checkP K R xs = fresh sRule (3 + i) 1 := by
        rw [checkP, if_neg hk, if_neg hr, if_neg (by simp [hl]), if_neg (by omega), hi]
      rw [this]
      exact ref_check_odd K R va vn vc xs i w h (by omega) (by omega) (by omega) hl hi hlt
  · have : checkP K R xs = fresh sRule 2 1 := by
      rw [checkP, if_neg hk, if_neg hr, if_pos (by simpa using hl)]
    rw [this]
    exact ref_check_len K R va vn vc xs w h (by omega) (by omega) (by omega) hl
end Go.Proofs.YtmhiambkfdkkbaaGreatDoor

namespace Go.Proofs.YtmhiambkfdkkbaaGreatDoor
open Go.RowKit

theorem check_k (r : Nat → Addr) (k R : Int) (v : Value) (w : World) (hg : Glob r w) (h : k < 1 ∨ 4 < k) :
    Calls Tryz.prog 97 #[.agg #[.int .i64 k, .int .i64 R, v]] w (Ret1 (fun x w' => ErrIs r w' (fresh sRule 0 1) x) w) := by
  have hg' := Lib.hid (hg.below ((Below.refl _ _).alloc (Nat.le_refl _) (.cells #[.int .i64 k, .int .i64 R, v] 24)))
  clear hg
  rcases h with h | h <;>
  (go_enter Tryz.func97, Tryz.ntmps97
   go_wp2_with fail
   refine (rule_wrong r _ _ _ hg'.out (by decide) (by decide)).mono ?_
   rintro e w' ⟨x, rfl, hb, he⟩
   go_wp2
   go_ret
   exact ⟨_, rfl, ((Below.refl _ _).alloc (Nat.le_refl _) _).trans (hb.mono (by simp)), he⟩)

theorem check_r (r : Nat → Addr) (k R : Int) (v : Value) (w : World) (hg : Glob r w) (h1 : 1 ≤ k) (h4 : k ≤ 4) (h : R < 0 ∨ 3 < R) :
    Calls Tryz.prog 97 #[.agg #[.int .i64 k, .int .i64 R, v]] w (Ret1 (fun x w' => ErrIs r w' (fresh sRule 1 1) x) w) := by
  have hg' := Lib.hid (hg.below ((Below.refl _ _).alloc (Nat.le_refl _) (.cells #[.int .i64 k, .int .i64 R, v] 24)))
  clear hg
  go_enter Tryz.func97, Tryz.ntmps97
  go_wp2_with fail
  refine (size_bad r _ _ _ hg'.out (by omega)).mono ?_
  rintro e w1 ⟨x, y, rfl, hb, rfl, he⟩
  obtain ⟨T, a, rfl⟩ := he.some_shape
  clear he
  go_wp2_with fail
  refine (rule_wrong r _ _ _ (hg'.out.below hb) (by decide) (by decide)).mono ?_
  rintro e w' ⟨x, rfl, hb', he⟩
  go_wp2
  go_ret
  exact ⟨_, rfl, (((Below.refl _ _).alloc (Nat.le_refl _) _).trans (hb.mono (by simp))).trans (hb'.mono (by have := hb.size; simp at this; omega)), he⟩

theorem check_len (r : Nat → Addr) (K R : Nat) (v : Value) (xs : List Int) (w : World) (hg : Glob r w) (h : IntsAt w v xs) (h1 : 1 ≤ K) (h4 : K ≤ 4) (h3 : R ≤ 3) (hl : xs.length ≠ pw K (2 * R + 1)) :
    Calls Tryz.prog 97 #[.agg #[.int .i64 K, .int .i64 R, v]] w (Ret1 (fun x w' => ErrIs r w' (fresh sRule 2 1) x) w) := by
  have hg' := Lib.hid (hg.below ((Below.refl _ _).alloc (Nat.le_refl _) (.cells #[.int .i64 K, .int .i64 R, v] 24)))
  clear hg
  have hlen := h.len
  clear h
  have hne : ((xs.length : Int) != (pw K (2 * R + 1) : Int)) = true := by simp; omega
  clear hl
  go_enter Tryz.func97, Tryz.ntmps97
  go_wp2_with fail
  refine (size_ok K R _ h1 h4 h3).mono ?_
  rintro e w1 ⟨rfl, rfl⟩
  go_wp2_with fail
  refine (rule_wrong r _ _ _ hg'.out (by decide) (by decide)).mono ?_
  rintro e w' ⟨x, rfl, hb', he⟩
  go_wp2
  go_ret
  exact ⟨_, rfl, ((Below.refl _ _).alloc (Nat.le_refl _) _).trans (hb'.mono (by simp)), he⟩

theorem check_odd (r : Nat → Addr) (K R : Nat) (v : Value) (xs : List Int) (i : Nat) (w : World) (hg : Glob r w) (h : IntsAt w v xs) (h1 : 1 ≤ K) (h4 : K ≤ 4) (h3 : R ≤ 3) (hl : xs.length = pw K (2 * R + 1)) (hi : idxOf (odd1 K) xs = i) (hi' : i < xs.length) :
    Calls Tryz.prog 97 #[.agg #[.int .i64 K, .int .i64 R, v]] w (Ret1 (fun x w' => ErrIs r w' (fresh sRule (3 + i) 1) x) w) := by
  have hg' := Lib.hid (hg.below ((Below.refl _ _).alloc (Nat.le_refl _) (.cells #[.int .i64 K, .int .i64 R, v] 24)))
  clear hg
  have hm := h.len_le
  have h' := Lib.hid (h.below ((Below.refl _ _).alloc (Nat.le_refl _) (.cells #[.int .i64 K, .int .i64 R, v] 24)))
  have hlen := h.len
  clear h
  have hne : ((xs.length : Int) != (pw K (2 * R + 1) : Int)) = false := by simp; omega
  clear hl
  replace hi := Lib.hid hi
  go_enter Tryz.func97, Tryz.ntmps97
  go_wp2_with fail
  refine (size_ok K R _ h1 h4 h3).mono ?_
  rintro e w1 ⟨rfl, rfl⟩
  go_wp2_with fail
  refine (rule_odd K v xs _ h'.out).mono ?_
  rintro e w1 ⟨x, rfl, hb, rfl⟩
  rw [hi.out]
  have hlt : i < 9223372036854775807 := by omega
  have hb3 : (3 + (i : Int)) ≤ 9223372036854775807 := by
    have := pw_le (i := 2 * R + 1) h1 h4 (by omega)
    have : ¬ ((xs.length : Int) != (pw K (2 * R + 1) : Int)) = true := by rw [hne]; simp
    simp at this
    omega
  go_wp2_with fail
  refine (rule_wrong r _ _ _ (hg'.out.below hb) (by decide) (by decide)).mono ?_
  rintro e w' ⟨x, rfl, hb', he⟩
  go_wp2
  go_ret
  exact ⟨_, rfl, (((Below.refl _ _).alloc (Nat.le_refl _) _).trans (hb.mono (by simp))).trans (hb'.mono (by have := hb.size; simp at this; omega)), he⟩

theorem check_ok (K R : Nat) (v : Value) (xs : List Int) (w : World) (h : IntsAt w v xs) (hr : RuleOk K R xs) :
    Calls Tryz.prog 97 #[.agg #[.int .i64 K, .int .i64 R, v]] w (Ret1 (fun x _ => x = .nilIface) w) := by
  obtain ⟨h1, h4, h3, hl, hs⟩ := hr
  have h' := Lib.hid (h.below ((Below.refl _ _).alloc (Nat.le_refl _) (.cells #[.int .i64 K, .int .i64 R, v] 24)))
  have hlen := h.len
  clear h
  have hne : ((xs.length : Int) != (pw K (2 * R + 1) : Int)) = false := by simp; omega
  clear hl
  replace hs := Lib.hid hs
  go_enter Tryz.func97, Tryz.ntmps97
  go_wp2_with fail
  refine (size_ok K R _ h1 h4 h3).mono ?_
  rintro e w1 ⟨rfl, rfl⟩
  go_wp2_with fail
  refine (rule_odd K v xs _ h'.out).mono ?_
  rintro e w1 ⟨x, rfl, hb, rfl⟩
  rw [hs.out.odd]
  go_wp2
  go_ret
  exact ⟨_, rfl, (((Below.refl _ _).alloc (Nat.le_refl _) _).trans (hb.mono (by simp))), rfl⟩

/-- rule.Check at every rule. -/
theorem check_any (r : Nat → Addr) (k R : Int) (v : Value) (xs : List Int) (w : World) (hg : Glob r w) (h : IntsAt w v xs) :
    Calls Tryz.prog 97 #[.agg #[.int .i64 k, .int .i64 R, v]] w (Ret1 (fun x w' => ErrIs r w' (checkP k R xs) x) w) := by
  by_cases hk : k < 1 ∨ 4 < k
  · rw [checkP, if_pos hk]; exact check_k r k R v w hg hk
  by_cases hr : R < 0 ∨ 3 < R
  · rw [checkP, if_neg hk, if_pos hr]; exact check_r r k R v w hg (by omega) (by omega) hr
  obtain ⟨K, rfl⟩ := Int.eq_ofNat_of_zero_le (show 0 ≤ k by omega)
  obtain ⟨R, rfl⟩ := Int.eq_ofNat_of_zero_le (show 0 ≤ R by omega)
  by_cases hl : xs.length = pw K (2 * R + 1)
  · rcases syms_or K xs with hs | ⟨i, hi, hlt⟩
    · have hok : RuleOk K R xs := ⟨by omega, by omega, by omega, hl, hs⟩
      rw [hok.check]; exact check_ok K R v xs w h hok
    · have : checkP K R xs = fresh sRule (3 + i) 1 := by
        rw [checkP, if_neg hk, if_neg hr, if_neg (by simp [hl]), if_neg (by omega), hi]
      rw [this]
      exact check_odd r K R v xs i w hg h (by omega) (by omega) (by omega) hl hi hlt
  · have : checkP K R xs = fresh sRule 2 1 := by
      rw [checkP, if_neg hk, if_neg hr, if_pos (by simpa using hl)]
    rw [this]
    exact check_len r K R v xs w hg h (by omega) (by omega) (by omega) hl
end Go.Proofs.YtmhiambkfdkkbaaGreatDoor

namespace Go.Proofs.YtmhiambkfdkkbaaGreatDoor
open Go.RowKit
set_option maxRecDepth 100000

theorem mul3 {x s : Int} (hx : 0 ≤ x ∧ x < 4) (hs : 0 ≤ s ∧ s < 4) : 0 ≤ x * s ∧ x * s ≤ 9 := by
  obtain ⟨h1, h2⟩ := hx
  obtain ⟨h3, h4⟩ := hs
  have a : x = 0 ∨ x = 1 ∨ x = 2 ∨ x = 3 := by omega
  rcases a with rfl | rfl | rfl | rfl <;> omega

/-- The zero rule's value. -/
abbrev zRule : Value := .agg #[.int .i64 0, .int .i64 0, .slice none 0 0]

end Go.Proofs.YtmhiambkfdkkbaaGreatDoor

namespace Go.Proofs.YtmhiambkfdkkbaaGreatDoor
open Go.RowKit
set_option maxRecDepth 100000

end Go.Proofs.YtmhiambkfdkkbaaGreatDoor

namespace Go.Proofs.YtmhiambkfdkkbaaGreatDoor
open Go.RowKit
set_option maxRecDepth 100000

theorem ValsAt.shape {w : World} {v : Value} {vs : List Value} (h : ValsAt w v vs) : ∃ a n c, v = .slice a n c := by
  obtain ⟨a, cap, e, _⟩ := h; exact ⟨_, _, _, e⟩
theorem cell_keep {w w' : World} {b i : Nat} {x : Value} (hb : Below w.heap.size w w') (h : w.cell? ⟨b, i, none⟩ = some x) : w'.cell? ⟨b, i, none⟩ = some x :=
  (hb.cell (p := ⟨b, i, none⟩) (World.block_lt_of_cell? _ _ h)).trans h
theorem cell_alloc {w : World} {b i : Nat} {x : Value} (h : w.cell? ⟨b, i, none⟩ = some x) (o : Obj) : (w.alloc o).cell? ⟨b, i, none⟩ = some x := cell_keep ((Below.refl _ _).alloc (Nat.le_refl _) _) h
theorem cell_new {w : World} {b : Nat} {x : Value} {T : TypeId} (hb : b = w.heap.size) : (w.alloc (.cells #[x] T)).cell? ⟨b, 0, none⟩ = some x := by subst hb; simp
theorem cell_drew {w : World} {b i : Nat} {x : Value} (h : w.cell? ⟨b, i, none⟩ = some x) : w.drew.cell? ⟨b, i, none⟩ = some x := h

/-- Three cells of a variable of the call's own. -/
def Box3 (w : World) (b : Nat) (x0 x1 x2 : Value) : Prop := (w.cell? ⟨b, 0, none⟩ = some x0 ∧ w.cell? ⟨b, 1, none⟩ = some x1 ∧ w.cell? ⟨b, 2, none⟩ = some x2) ∧ w.frozen? ⟨b, 0, none⟩ = false ∧ w.frozen? ⟨b, 1, none⟩ = false ∧ w.frozen? ⟨b, 2, none⟩ = false
theorem Box3.below {w w' : World} {b : Nat} {x0 x1 x2 : Value} (h : Box3 w b x0 x1 x2) (hb : Below w.heap.size w w') : Box3 w' b x0 x1 x2 := by
  obtain ⟨⟨h0, h1, h2⟩, f0, f1, f2⟩ := h
  have hlt := World.block_lt_of_cell? _ _ h0
  exact ⟨⟨cell_keep hb h0, cell_keep hb h1, cell_keep hb h2⟩, (hb.frozen (p := ⟨b, 0, none⟩) hlt).trans f0, (hb.frozen (p := ⟨b, 1, none⟩) hlt).trans f1, (hb.frozen (p := ⟨b, 2, none⟩) hlt).trans f2⟩
theorem Box3.alloc {w : World} {b : Nat} {x0 x1 x2 : Value} (h : Box3 w b x0 x1 x2) (o : Obj) : Box3 (w.alloc o) b x0 x1 x2 := h.below ((Below.refl _ _).alloc (Nat.le_refl _) _)
theorem Box3.drew {w : World} {b : Nat} {x0 x1 x2 : Value} (h : Box3 w b x0 x1 x2) : Box3 w.drew b x0 x1 x2 := h
theorem OwnV.drew {E : TypeId} {B : Nat} {w : World} {v : Value} {vs : List Value} (h : OwnV E B w v vs) : OwnV E B w.drew v vs := h
theorem Below.allocL {w w' : World} (h : Below w.heap.size w w') (o : Obj) : Below w.heap.size w (w'.alloc o) := h.alloc h.size o
theorem Below.stepL {w1 w2 w3 : World} (h : Below w1.heap.size w1 w2) (k : Below w2.heap.size w2 w3) : Below w1.heap.size w1 w3 := h.trans (k.mono h.size)
theorem belowAlloc' (w : World) (o : Obj) : Below w.heap.size w (w.alloc o) := (Below.refl _ _).alloc (Nat.le_refl _) _
theorem Below.drewL {w w' : World} {n : Nat} (h : Below n w w') : Below n w w'.drew := h.drew

set_option maxHeartbeats 1000000 in
theorem raw_under_some (op : ByteArray) (at_ : Int) (n : Int) (l : List (ByteArray × Int)) (v : Value) (w : World) (h : EAt w (some (n, l)) v) (hn : 1 ≤ n) (hl : 1 ≤ l.length) (hl2 : l.length ≤ 1000) :
    Calls Tryz.prog 58 #[.string op, .int .i64 at_, v] w (Ret1 (fun x w' => EOwn w.heap.size w' (under op at_ (some (n, l))) x) w) := by
  obtain ⟨a1, n1, c1, a2, n2, c2, rfl, hv, hi⟩ := h
  have b2 := (Below.refl w.heap.size w).alloc (Nat.le_refl _) (.cells #[.int .i64 n, .slice a1 n1 c1, .slice a2 n2 c2] 34) |>.alloc (by simp) (.cells #[.int .i64 0, .slice none 0 0, .slice none 0 0] 34)
  have hn0 : (n == 0) = false := by rw [beq_eq_false_iff_ne]; omega
  have hvl : 0 < (l.map fun x => Value.string x.1).length := by simp; omega
  have hvl2 : (l.map fun x => Value.string x.1).length ≤ 1000 := by simpa using hl2
  have hil : 0 < ((l.map (·.2)).map (Value.int .i64)).length := by simp; omega
  have hil2 : ((l.map (·.2)).map (Value.int .i64)).length ≤ 1000 := by simpa using hl2
  have hv1 : Hid (∀ u ∈ (l.map fun x => Value.string x.1), u.oneCell' = true) := by intro u hu; obtain ⟨y, _, rfl⟩ := List.mem_map.1 hu; rfl
  have hi1 : Hid (∀ u ∈ ((l.map (·.2)).map (Value.int .i64)), u.oneCell' = true) := by intro u hu; obtain ⟨y, _, rfl⟩ := List.mem_map.1 hu; rfl
  replace hv := Lib.hid (hv.below b2)
  replace hi := Lib.hid (hi.below b2).vals
  have hpost : ∀ (a1 : Option Addr) (n1 c1 : Nat) (a2 : Option Addr) (n2 c2 : Nat) (w' : World), OwnV 9 (w.heap.size + 2) w' (.slice a1 n1 c1) (.string op :: l.map fun x => Value.string x.1) → OwnV 3 (w.heap.size + 2) w' (.slice a2 n2 c2) (.int .i64 at_ :: (l.map (·.2)).map (Value.int .i64)) → EOwn w.heap.size w' (under op at_ (some (n, l))) (.agg #[.int .i64 n, .slice a1 n1 c1, .slice a2 n2 c2]) :=
    fun a1 n1 c1 a2 n2 c2 w' h1 h2 => ⟨_, _, _, _, _, _, rfl, h1.mono (by omega), h2.mono (by omega)⟩
  replace hpost := Lib.hid hpost
  generalize (l.map fun x => Value.string x.1) = LS at *
  generalize ((l.map (·.2)).map (Value.int .i64)) = LI at *
  go_enter Tryz.func58, Tryz.ntmps58
  go_wp2
  have yy : Box3 ((w.alloc (.cells #[.int .i64 n, .slice a1 n1 c1, .slice a2 n2 c2] 34)).alloc (.cells #[.int .i64 0, .slice none 0 0, .slice none 0 0] 34)) (w.heap.size + 1) (.int .i64 0) (.slice none 0 0) (.slice none 0 0) := by simp [Box3, go_sem]
  have z0 : ((w.alloc (.cells #[.int .i64 n, .slice a1 n1 c1, .slice a2 n2 c2] 34)).alloc (.cells #[.int .i64 0, .slice none 0 0, .slice none 0 0] 34)).cell? ⟨w.heap.size, 0, none⟩ = some (.int .i64 n) := by simp
  have z1 : ((w.alloc (.cells #[.int .i64 n, .slice a1 n1 c1, .slice a2 n2 c2] 34)).alloc (.cells #[.int .i64 0, .slice none 0 0, .slice none 0 0] 34)).cell? ⟨w.heap.size, 1, none⟩ = some (.slice a1 n1 c1) := by simp
  have z2 : ((w.alloc (.cells #[.int .i64 n, .slice a1 n1 c1, .slice a2 n2 c2] 34)).alloc (.cells #[.int .i64 0, .slice none 0 0, .slice none 0 0] 34)).cell? ⟨w.heap.size, 2, none⟩ = some (.slice a2 n2 c2) := by simp
  obtain ⟨W, hW⟩ : ∃ W : World, W = ((w.alloc (.cells #[.int .i64 n, .slice a1 n1 c1, .slice a2 n2 c2] 34)).alloc (.cells #[.int .i64 0, .slice none 0 0, .slice none 0 0] 34)) := ⟨_, rfl⟩
  have hWs : w.heap.size + 2 ≤ W.heap.size := by rw [hW]; simp
  rw [← hW] at b2 hv hi yy z0 z1 z2 ⊢
  clear hW
  go_region_held3 (fun w' => w'.cell? ⟨w.heap.size, 0, none⟩ = some (.int .i64 n) ∧ w'.cell? ⟨w.heap.size, 1, none⟩ = some (.slice a1 n1 c1) ∧ w'.cell? ⟨w.heap.size, 2, none⟩ = some (.slice a2 n2 c2))
    (first | exact ⟨z0, z1, z2⟩ | exact ⟨kS0, kS1, kS2⟩ | exact ⟨kI0, kI1, kI2⟩ | (simp [kI0, kI1, kI2, World.cell?_setCell_far]; done) | (simp [kS0, kS1, kS2, World.cell?_setCell_far]; done) | ((refine ⟨?_, ?_, ?_⟩) <;> (repeat (first | with_reducible exact z0 | with_reducible exact z1 | with_reducible exact z2 | with_reducible exact kS0 | with_reducible exact kS1 | with_reducible exact kS2 | with_reducible exact kI0 | with_reducible exact kI1 | with_reducible exact kI2 | with_reducible refine cell_drew ?_ | with_reducible refine cell_alloc ?_ _))))
    (first
    | (refine step_under oneStrs rfl _ _ rfl _ (.string op) rfl ?_ (.slice a1 n1 c1) LS rfl ?_ hvl hvl2 hv1.out ?_
       · repeat (first | with_reducible refine cell_drew ?_ | with_reducible refine cell_new (by simp; done) | with_reducible refine cell_alloc ?_ _ | with_reducible refine cell_keep hbI ?_)
       · repeat (first | with_reducible exact hv.out | with_reducible refine ValsAt.drew ?_ | with_reducible refine ValsAt.alloc ?_ _ | with_reducible refine ValsAt.below ?_ hbI)
       intro vS wS hS hbS
       obtain ⟨sa, sn, sc, rfl⟩ := hS.shape
       have eS : Below W.heap.size W wS := Below.stepL (by repeat (first | with_reducible exact Below.refl _ _ | with_reducible refine Below.drewL ?_ | with_reducible refine Below.allocL ?_ _)) hbS
       have mS : OwnV 9 (w.heap.size + 2) wS (.slice sa sn sc) (.string op :: LS) := hS.mono (by simp; omega)
       have kS0 : wS.cell? ⟨w.heap.size, 0, none⟩ = some (.int .i64 n) := cell_keep hbS (by repeat (first | with_reducible exact z0 | with_reducible exact kI0 | with_reducible refine cell_drew ?_ | with_reducible refine cell_alloc ?_ _))
       have kS1 : wS.cell? ⟨w.heap.size, 1, none⟩ = some (.slice a1 n1 c1) := cell_keep hbS (by repeat (first | with_reducible exact z1 | with_reducible exact kI1 | with_reducible refine cell_drew ?_ | with_reducible refine cell_alloc ?_ _))
       have kS2 : wS.cell? ⟨w.heap.size, 2, none⟩ = some (.slice a2 n2 c2) := cell_keep hbS (by repeat (first | with_reducible exact z2 | with_reducible exact kI2 | with_reducible refine cell_drew ?_ | with_reducible refine cell_alloc ?_ _))
       have yS : Box3 wS (w.heap.size + 1) (.int .i64 0) (.slice none 0 0) (.slice none 0 0) := Box3.below (by repeat (first | with_reducible exact yy | with_reducible exact yI | with_reducible refine Box3.drew ?_ | with_reducible refine Box3.alloc ?_ _)) hbS
       have yS' := yS
       obtain ⟨⟨qS0, qS1, qS2⟩, gS0, gS1, gS2⟩ := yS')
    | (refine step_under oneInts rfl _ _ rfl _ (.int .i64 at_) rfl ?_ (.slice a2 n2 c2) LI rfl ?_ hil hil2 hi1.out ?_
       · repeat (first | with_reducible refine cell_drew ?_ | with_reducible refine cell_new (by simp; done) | with_reducible refine cell_alloc ?_ _ | with_reducible refine cell_keep hbS ?_)
       · repeat (first | with_reducible exact hi.out | with_reducible refine ValsAt.drew ?_ | with_reducible refine ValsAt.alloc ?_ _ | with_reducible refine ValsAt.below ?_ hbS)
       intro vI wI hI hbI
       obtain ⟨ia, im, ic, rfl⟩ := hI.shape
       have eI : Below W.heap.size W wI := Below.stepL (by repeat (first | with_reducible exact eS | with_reducible refine Below.drewL ?_ | with_reducible refine Below.allocL ?_ _)) hbI
       have mI : OwnV 3 (w.heap.size + 2) wI (.slice ia im ic) (.int .i64 at_ :: LI) := hI.mono (by have := eS.size; simp; omega)
       have mS' : OwnV 9 (w.heap.size + 2) wI (.slice sa sn sc) (.string op :: LS) := OwnV.below (by repeat (first | with_reducible exact mS | with_reducible refine OwnV.drew ?_ | with_reducible refine OwnV.alloc ?_ _)) hbI
       have kI0 : wI.cell? ⟨w.heap.size, 0, none⟩ = some (.int .i64 n) := cell_keep hbI (by repeat (first | with_reducible exact z0 | with_reducible exact kS0 | with_reducible refine cell_drew ?_ | with_reducible refine cell_alloc ?_ _))
       have kI1 : wI.cell? ⟨w.heap.size, 1, none⟩ = some (.slice a1 n1 c1) := cell_keep hbI (by repeat (first | with_reducible exact z1 | with_reducible exact kS1 | with_reducible refine cell_drew ?_ | with_reducible refine cell_alloc ?_ _))
       have kI2 : wI.cell? ⟨w.heap.size, 2, none⟩ = some (.slice a2 n2 c2) := cell_keep hbI (by repeat (first | with_reducible exact z2 | with_reducible exact kS2 | with_reducible refine cell_drew ?_ | with_reducible refine cell_alloc ?_ _))
       have yI : Box3 wI (w.heap.size + 1) (.int .i64 0) (.slice none 0 0) (.slice none 0 0) := Box3.below (by repeat (first | with_reducible exact yy | with_reducible exact yS | with_reducible refine Box3.drew ?_ | with_reducible refine Box3.alloc ?_ _)) hbI
       have yI' := yI
       obtain ⟨⟨qI0, qI1, qI2⟩, gI0, gI1, gI2⟩ := yI'))
  all_goals
    have hE := Lib.hid (hpost.out sa sn sc ia im ic _ (((mS'.setBelowBase (a := ⟨w.heap.size + 1, 0, none⟩) (by simp) (.int .i64 n)).setBelowBase (a := ⟨w.heap.size + 1, 1, none⟩) (by simp) (.slice sa sn sc)).setBelowBase (a := ⟨w.heap.size + 1, 2, none⟩) (by simp) (.slice ia im ic)) (((mI.setBelowBase (a := ⟨w.heap.size + 1, 0, none⟩) (by simp) (.int .i64 n)).setBelowBase (a := ⟨w.heap.size + 1, 1, none⟩) (by simp) (.slice sa sn sc)).setBelowBase (a := ⟨w.heap.size + 1, 2, none⟩) (by simp) (.slice ia im ic)))
    have hB := Lib.hid ((((b2.trans (eI.mono b2.size)).setCell (p := ⟨w.heap.size + 1, 0, none⟩) (by simp) (.int .i64 n)).setCell (p := ⟨w.heap.size + 1, 1, none⟩) (by simp) (.slice sa sn sc)).setCell (p := ⟨w.heap.size + 1, 2, none⟩) (by simp) (.slice ia im ic))
    clear mS mS' mI eS eI kS0 kS1 kS2 kI0 kI1 kI2 yS qS0 qS1 qS2 gS0 gS1 gS2 hS hI hbS hbI
    go_wp2
    exact bodyPost_ret (v := .agg #[.int .i64 n, .slice sa sn sc, .slice ia im ic]) (by simp [results, Tryz.results58, go_sem, qI0, qI1, qI2]) rfl ⟨_, rfl, hB.out, hE.out⟩
end Go.Proofs.YtmhiambkfdkkbaaGreatDoor

namespace Go.Proofs.YtmhiambkfdkkbaaGreatDoor
open Go.RowKit Go.Extern.Stop Go.Stop Go.Extern
set_option maxRecDepth 100000
namespace Errs

theorem typeOfE (v : Value) (w : World) : (ReflectliteType.typeOf #[.iface 240 v]).run Tryz.prog w = .ok (.iface 171 (.agg #[.pointer (some ⟨13, 240, none⟩)])) w := by kernel_rfl
theorem comparableE (w : World) : ((ReflectliteType.method fun t => do Rtype.noPackHeld "Comparable" t; (fun a => Value.bool a.comparable) <$> typeInfo t) #[.agg #[.pointer (some ⟨13, 240, none⟩)]]).run Tryz.prog w = .ok (.bool true) w := by kernel_rfl
theorem methodComparable (v : Value) (w : World) : (Go.method 373 171 v "Comparable").run Tryz.prog w = .ok (215, v) w := by kernel_rfl
theorem compE : (Tryz.prog.info? 240).map (·.comparable) = some true := by kernel_rfl
theorem sizeE : (Tryz.prog.info? 261).map (·.size) = some 1 := by kernel_rfl
theorem uErr : Tryz.prog.underlying 30 = some (.interface #[("Error", 241)]) := by kernel_rfl
theorem uES : Tryz.prog.underlying 240 = some (.pointer 261) := by kernel_rfl
theorem uIs : Tryz.prog.underlying 173 = some (.interface #[("Is", 175)]) := by kernel_rfl
theorem uUnw : Tryz.prog.underlying 176 = some (.interface #[("Unwrap", 177)]) := by kernel_rfl
theorem noIsF (v : Value) (xT : TypeId) (w : World) : (Instr.typeAssert (.iface 78 v) xT 173 true).run Tryz.prog w = .ok (.tuple #[.nilIface, .bool false]) w := run_typeAssert_lacksB uIs (by kernel_rfl) (by kernel_rfl) v xT w
theorem hasUnwrapF (v : Value) (xT : TypeId) (w : World) : (Instr.typeAssert (.iface 78 v) xT 176 true).run Tryz.prog w = .ok (.tuple #[.iface 78 v, .bool true]) w := run_typeAssert_hasB uUnw (by kernel_rfl) v xT w
theorem methodUnwrap (v : Value) (w : World) : (Go.method 373 78 v "Unwrap").run Tryz.prog w = .ok (209, v) w := by kernel_rfl

theorem unwrap_any (p : Nat) (u : Value) (w : World) (h : w.cell? ⟨p, 2, none⟩ = some u) :
    Calls Tryz.prog 209 #[.pointer (some ⟨p, 0, none⟩)] w fun e w' => e = .returned u ∧ w = w' := by
  go_enter Tryz.func209, Tryz.ntmps209
  go_wp2
  go_ret
  exact ⟨rfl, rfl⟩

set_option maxHeartbeats 800000 in
theorem is_loop (r : Nat → Addr) (n : Int) (l : List (ByteArray × Int)) (v : Value) (w : World) (h : ErrAt r w n l v) :
    Calls Tryz.prog 91 #[v, rootV r n, .bool true] w fun e w' => e = .returned (.bool true) ∧ w = w' := by
  obtain ⟨i, hi, hcmp⟩ := Option.map_eq_some_iff.1 compE
  obtain ⟨j, hj, hjs⟩ := Option.map_eq_some_iff.1 sizeE
  have heq := run_eql_iface_ptr_same (P := Tryz.prog) w (r n.toNat) uErr uES hi hcmp hj
  have nF := noIsF
  have uF := hasUnwrapF
  have mU := methodUnwrap
  clear hi hcmp hj hjs
  replace h := Lib.hid h
  go_enter Tryz.func91, Tryz.ntmps91
  go_wp2
  go_loopg [0] l.length (fun k u wr => wr = w ∧ ∃ l', l'.length = k ∧ ErrAt r w n l' u)
  case atStart => exact ⟨rfl, l, rfl, h.out⟩
  case round =>
    obtain ⟨rfl, l', hl', hu⟩ := hrel
    match l', hl', hu with
    | [], hl', hu =>
      obtain rfl : _ = rootV r n := hu
      clear hl'
      go_wp2
      go_ret
      exact ⟨rfl, rfl⟩
    | (op, at_) :: rest, hl', hu =>
      obtain ⟨p, u', rfl, c0, c1, c2, hrest⟩ := hu
      obtain ⟨T, a, rfl⟩ := hrest.shape
      have hty := run_eql_iface_types (P := Tryz.prog) 78 240 (.pointer (some ⟨p, 0, none⟩)) (.pointer (some (r n.toNat))) uErr (by decide) wr
      replace hrest := Lib.hid hrest
      replace hl' := Lib.hid hl'
      go_wp2_with (go_at_call 209; refine (unwrap_any p _ _ c2).mono ?_; rintro e w' ⟨rfl, rfl⟩)
      go_roundg rest.length
      case measure => have := hl'.out; simp at this; omega
      case rel => exact ⟨rfl, rest, rfl, hrest.out⟩

/-- errors.Is at a chain of Faults and the error that it ends in. -/
theorem is_any (r : Nat → Addr) (n : Int) (l : List (ByteArray × Int)) (v : Value) (w : World) (h : ErrAt r w n l v) :
    Calls Tryz.prog 42 #[v, rootV r n] w fun e w' => e = .returned (.bool true) ∧ w = w' := by
  have h8 := @run_callFunc_extern Tryz.prog 90 _ Extern.ReflectliteType.typeOf Tryz.func90 (by kernel_rfl) (by kernel_rfl) (by kernel_rfl) (by kernel_rfl)
  have h32 := @run_callFunc_extern Tryz.prog 215 _ (Extern.ReflectliteType.method fun t => do Extern.Rtype.noPackHeld "Comparable" t; pure (.bool (← typeInfo t).comparable)) Tryz.func215 (by kernel_rfl) (by kernel_rfl) (by kernel_rfl) (by kernel_rfl)
  have tT := typeOfE
  have cT := comparableE
  have mR := methodComparable
  obtain ⟨T, a, rfl⟩ := h.shape
  replace h := Lib.hid h
  go_enter Tryz.func42, Tryz.ntmps42
  go_wp2_with fail
  refine (is_loop r n l _ _ h.out).mono ?_
  rintro e w' ⟨rfl, rfl⟩
  go_wp2
  go_ret
  exact ⟨rfl, rfl⟩
end Errs
end Go.Proofs.YtmhiambkfdkkbaaGreatDoor

namespace Go.Proofs.YtmhiambkfdkkbaaGreatDoor
open Go.RowKit Go.Extern.Stop Go.Stop Go.Extern
set_option maxRecDepth 100000
namespace Errs

/-! errors.As at a Fault: the target a *api.Fault variable. -/
theorem uF : Tryz.prog.underlying 78 = some (.pointer 82) := by kernel_rfl
theorem uFF : Tryz.prog.underlying 80 = some (.pointer 78) := by kernel_rfl
theorem valueOfFF (t : Addr) (w : World) : (ReflectliteValue.unpack (.iface 80 (.pointer (some t)))).run Tryz.prog w
    = .ok (.agg #[.pointer (some ⟨13, 80, none⟩), .pointer (some ⟨w.heap.size, 0, none⟩), .int .u64 150]) (w.alloc (.cells #[.pointer (some t)] 80)) := by kernel_rfl
theorem typeFF (a : Addr) (w : World) : (ReflectliteValue.methodAny (ReflectliteValue.valueError "reflectlite.Value.Type" 0) (fun t _ _ _ => ReflectliteType.toType t) #[.agg #[.pointer (some ⟨13, 80, none⟩), .pointer (some a), .int .u64 150]]).run Tryz.prog w
    = .ok (.iface 171 (.agg #[.pointer (some ⟨13, 80, none⟩)])) w := by kernel_rfl
theorem methodKind (h : Value) (w : World) : (Go.method 373 171 (.agg #[h]) "Kind").run Tryz.prog w = .ok (205, h) w := by kernel_rfl
theorem kindFF (w : World) : ((ReflectliteType.abiMethod fun t => (fun a : Nat => Value.int IntKind.u8 (a : Int)) <$> Rtype.kind t) #[.pointer (some ⟨13, 80, none⟩)]).run Tryz.prog w = .ok (.int .u8 22) w := by kernel_rfl
theorem kindF (w : World) : ((ReflectliteType.abiMethod fun t => (fun a : Nat => Value.int IntKind.u8 (a : Int)) <$> Rtype.kind t) #[.pointer (some ⟨13, 78, none⟩)]).run Tryz.prog w = .ok (.int .u8 22) w := by kernel_rfl
theorem rlm (z : Sem Value) (f : TypeId → Addr → Nat → Nat → Sem Value) (v : Value) :
    ReflectliteValue.method z f #[v] = (do match ← ReflectliteValue.parts v with | none => z | some (t, a, fl) => f t a fl (fl % 32)) := rfl
theorem partsFF (a : Addr) (w : World) : (ReflectliteValue.parts (.agg #[.pointer (some ⟨13, 80, none⟩), .pointer (some a), .int .u64 150])).run Tryz.prog w = .ok (some (80, a, 150)) w := by kernel_rfl
theorem isNilFF (a p : Addr) (W : World) (ha : W.cell? a = some (.pointer (some p))) :
    (ReflectliteValue.method (ReflectliteValue.valueError "reflectlite.Value.IsNil" 0) ReflectliteValue.isNil #[.agg #[.pointer (some ⟨13, 80, none⟩), .pointer (some a), .int .u64 150]]).run Tryz.prog W = .ok (.bool false) W := by
  rw [rlm]
  simp only [Sem.run_bind, partsFF, Result.andThen]
  simp [ReflectliteValue.isNil, loadVar, isAgg, underlying, ha, Result.andThen]
theorem methodElem (h : Value) (w : World) : (Go.method 373 171 (.agg #[h]) "Elem").run Tryz.prog w = .ok (216, .agg #[h]) w := by kernel_rfl
theorem methodImplements (h : Value) (w : World) : (Go.method 373 171 (.agg #[h]) "Implements").run Tryz.prog w = .ok (217, .agg #[h]) w := by kernel_rfl
theorem methodAssignableTo (h : Value) (w : World) : (Go.method 373 171 (.agg #[h]) "AssignableTo").run Tryz.prog w = .ok (214, .agg #[h]) w := by kernel_rfl
theorem elemFF (w : World) : (ReflectliteType.method ReflectliteType.elem #[.agg #[.pointer (some ⟨13, 80, none⟩)]]).run Tryz.prog w = .ok (.iface 171 (.agg #[.pointer (some ⟨13, 78, none⟩)])) w := by kernel_rfl
theorem implementsF (w : World) : (ReflectliteType.relation "Implements" ReflectliteType.implements_ #[.agg #[.pointer (some ⟨13, 78, none⟩)], .iface 171 (.agg #[.pointer (some ⟨13, 30, none⟩)])]).run Tryz.prog w = .ok (.bool true) w := by kernel_rfl
theorem typeOfF (v : Value) (w : World) : (ReflectliteType.typeOf #[.iface 78 v]).run Tryz.prog w = .ok (.iface 171 (.agg #[.pointer (some ⟨13, 78, none⟩)])) w := by kernel_rfl
theorem assignableF (w : World) : (ReflectliteType.relation "AssignableTo" ReflectliteType.assignableTo #[.agg #[.pointer (some ⟨13, 78, none⟩)], .iface 171 (.agg #[.pointer (some ⟨13, 78, none⟩)])]).run Tryz.prog w = .ok (.bool true) w := by kernel_rfl
theorem valueOfF (e : Addr) (w : World) : (ReflectliteValue.unpack (.iface 78 (.pointer (some e)))).run Tryz.prog w
    = .ok (.agg #[.pointer (some ⟨13, 78, none⟩), .pointer (some ⟨w.heap.size, 0, none⟩), .int .u64 150]) (w.alloc (.cells #[.pointer (some e)] 78)) := by kernel_rfl
theorem elemOfFF (w : World) : (Rtype.elem? 80).run Tryz.prog w = .ok (some 78) w := by kernel_rfl
theorem mkF (p : Addr) (w : World) : (ReflectliteValue.mk 78 p ReflectliteValue.flagAddr).run Tryz.prog w = .ok (.agg #[.pointer (some ⟨13, 78, none⟩), .pointer (some p), .int .u64 406]) w := by kernel_rfl
theorem elemVFF (a p : Addr) (W : World) (ha : W.cell? a = some (.pointer (some p))) :
    (ReflectliteValue.method (ReflectliteValue.valueError "reflectlite.Value.Elem" 0) ReflectliteValue.elem #[.agg #[.pointer (some ⟨13, 80, none⟩), .pointer (some a), .int .u64 150]]).run Tryz.prog W
      = .ok (.agg #[.pointer (some ⟨13, 78, none⟩), .pointer (some p), .int .u64 406]) W := by
  rw [rlm]
  simp only [Sem.run_bind, partsFF, Result.andThen]
  simp [ReflectliteValue.elem, loadVar, isAgg, underlying, ha, Result.andThen, elemOfFF, mkF]
theorem rls (v x : Value) : ReflectliteValue.set #[v, x] = (do
    let (some (dst, a, fl), some (src, b, _)) := (← ReflectliteValue.parts v, ← ReflectliteValue.parts x)
      | unsupported (.noEntry "extern/(internal/reflectlite.Value).Set.zeroValue")
    if fl / ReflectliteValue.flagAddr % 2 == 0 then unsupported (.noEntry "extern/(internal/reflectlite.Value).Set.unaddressable")
    let val ← loadVar src b
    if ← Rtype.directlyAssignable dst src then storeVar dst a val
    else if ← Rtype.implements dst src then
      if (← Rtype.kind src) == 20 then
        match val with
        | .nilIface => unsupported (.noEntry "extern/reflectlite: a nil value of one interface type handed on as a value of another")
        | _ => storeVar dst a val
      else storeVar dst a (.iface src val)
    else panicString ("reflectlite.Set: value of type " ++ (← Rtype.spelt src) ++ " is not assignable to type " ++ (← Rtype.spelt dst))
    pure (.tuple #[])) := rfl
theorem partsFa (a : Addr) (w : World) : (ReflectliteValue.parts (.agg #[.pointer (some ⟨13, 78, none⟩), .pointer (some a), .int .u64 406])).run Tryz.prog w = .ok (some (78, a, 406)) w := by kernel_rfl
theorem partsF (a : Addr) (w : World) : (ReflectliteValue.parts (.agg #[.pointer (some ⟨13, 78, none⟩), .pointer (some a), .int .u64 150])).run Tryz.prog w = .ok (some (78, a, 150)) w := by kernel_rfl
theorem directF (w : World) : (Rtype.directlyAssignable 78 78).run Tryz.prog w = .ok true w := by kernel_rfl
theorem setF (ta b e : Addr) (old : Value) (W : World) (hb : W.cell? b = some (.pointer (some e))) (ht : W.cell? ta = some old) (hf : W.frozen? ta = false) :
    (ReflectliteValue.set #[.agg #[.pointer (some ⟨13, 78, none⟩), .pointer (some ta), .int .u64 406], .agg #[.pointer (some ⟨13, 78, none⟩), .pointer (some b), .int .u64 150]]).run Tryz.prog W
      = .ok (.tuple #[]) (W.setCell ta (.pointer (some e))) := by
  rw [rls]
  simp only [Sem.run_bind, partsFa, partsF, Result.andThen]
  simp [ReflectliteValue.flagAddr, loadVar, isAgg, underlying, hb, Result.andThen, directF, storeVar, Value.cells, storeCells, Addr.add]
  rw [run_store Tryz.prog W ta _ _ (by rfl)]
  simp [ht, hf]

end Errs
end Go.Proofs.YtmhiambkfdkkbaaGreatDoor

namespace Go.Proofs.YtmhiambkfdkkbaaGreatDoor
open Go.RowKit Go.Extern.Stop Go.Stop Go.Extern
set_option maxRecDepth 100000
namespace Errs
set_option maxHeartbeats 4000000 in
theorem as_hit (e t : Addr) (old : Value) (w : World) (hg : w.cell? ⟨12, 0, none⟩ = some (.iface 171 (.agg #[.pointer (some ⟨13, 30, none⟩)]))) (ht0 : w.cell? t = some old) (hf0 : w.frozen? t = false) :
    Calls Tryz.prog 44 #[.iface 78 (.pointer (some e)), .iface 80 (.pointer (some t))] w fun ev w' => ev = .returned (.bool true) ∧ w' = ((((w.alloc (.cells #[.pointer (some t)] 80)).alloc (.cells #[.pointer (some ⟨13, 80, none⟩), .pointer (some ⟨w.heap.size, 0, none⟩), .int .u64 150] 136)).alloc (.cells #[.pointer (some ⟨13, 80, none⟩), .pointer (some ⟨w.heap.size, 0, none⟩), .int .u64 150] 136)).alloc (.cells #[.pointer (some e)] 78)).setCell t (.pointer (some e)) := by
  have h6 := @run_callFunc_extern Tryz.prog 92 _ (fun args => ReflectliteValue.unpack (args.getD 0 (.tuple #[]))) Tryz.func92 (by kernel_rfl) (by kernel_rfl) (by kernel_rfl) (by kernel_rfl)
  have h7 := @run_callFunc_extern Tryz.prog 93 _ (ReflectliteValue.methodAny (ReflectliteValue.valueError "reflectlite.Value.Type" 0) (fun t _ _ _ => ReflectliteType.toType t)) Tryz.func93 (by kernel_rfl) (by kernel_rfl) (by kernel_rfl) (by kernel_rfl)
  have h8 := @run_callFunc_extern Tryz.prog 94 _ (ReflectliteValue.method (ReflectliteValue.valueError "reflectlite.Value.IsNil" 0) ReflectliteValue.isNil) Tryz.func94 (by kernel_rfl) (by kernel_rfl) (by kernel_rfl) (by kernel_rfl)
  have h27 := @run_callFunc_extern Tryz.prog 205 _ (ReflectliteType.abiMethod fun t => do pure (.int .u8 (← Rtype.kind t))) Tryz.func205 (by kernel_rfl) (by kernel_rfl) (by kernel_rfl) (by kernel_rfl)
  have h37 := @run_callFunc_extern Tryz.prog 216 _ (ReflectliteType.method ReflectliteType.elem) Tryz.func216 (by kernel_rfl) (by kernel_rfl) (by kernel_rfl) (by kernel_rfl)
  have h38 := @run_callFunc_extern Tryz.prog 217 _ (ReflectliteType.relation "Implements" ReflectliteType.implements_) Tryz.func217 (by kernel_rfl) (by kernel_rfl) (by kernel_rfl) (by kernel_rfl)
  have h10 := @run_callFunc_extern Tryz.prog 90 _ ReflectliteType.typeOf Tryz.func90 (by kernel_rfl) (by kernel_rfl) (by kernel_rfl) (by kernel_rfl)
  have h35 := @run_callFunc_extern Tryz.prog 214 _ (ReflectliteType.relation "AssignableTo" ReflectliteType.assignableTo) Tryz.func214 (by kernel_rfl) (by kernel_rfl) (by kernel_rfl) (by kernel_rfl)
  have h11 := @run_callFunc_extern Tryz.prog 135 _ (ReflectliteValue.method (ReflectliteValue.valueError "reflectlite.Value.Elem" 0) ReflectliteValue.elem) Tryz.func135 (by kernel_rfl) (by kernel_rfl) (by kernel_rfl) (by kernel_rfl)
  have h12 := @run_callFunc_extern Tryz.prog 136 _ ReflectliteValue.set Tryz.func136 (by kernel_rfl) (by kernel_rfl) (by kernel_rfl) (by kernel_rfl)
  have tO := typeOfF
  have mA := methodAssignableTo
  have aF := assignableF
  have vF := valueOfF
  have f6 := valueOfFF
  have f7 := typeFF
  have mK := methodKind
  have mE := methodElem
  have mI := methodImplements
  have kFF := kindFF
  have kF := kindF
  have eFF := elemFF
  have iF := implementsF
  have n8 := isNilFF ⟨w.heap.size, 0, none⟩ t ((w.alloc (.cells #[.pointer (some t)] 80)).alloc (.cells #[.pointer (some ⟨13, 80, none⟩), .pointer (some ⟨w.heap.size, 0, none⟩), .int .u64 150] 136)) (by simp)
  have hlt : 12 < w.heap.size := World.block_lt_of_cell? _ _ hg
  have hg2 : ((w.alloc (.cells #[.pointer (some t)] 80)).alloc (.cells #[.pointer (some ⟨13, 80, none⟩), .pointer (some ⟨w.heap.size, 0, none⟩), .int .u64 150] 136)).cell? ⟨12, 0, none⟩ = some (.iface 171 (.agg #[.pointer (some ⟨13, 30, none⟩)])) := by
    rw [World.cell?_alloc_lt _ _ ⟨12, 0, none⟩ (by simp; omega), World.cell?_alloc_lt _ _ ⟨12, 0, none⟩ hlt]; exact hg
  have htl : t.block < w.heap.size := World.block_lt_of_cell? _ _ ht0
  have el := elemVFF ⟨w.heap.size, 0, none⟩ t (((w.alloc (.cells #[.pointer (some t)] 80)).alloc (.cells #[.pointer (some ⟨13, 80, none⟩), .pointer (some ⟨w.heap.size, 0, none⟩), .int .u64 150] 136)).alloc (.cells #[.pointer (some ⟨13, 80, none⟩), .pointer (some ⟨w.heap.size, 0, none⟩), .int .u64 150] 136)) (by rw [World.cell?_alloc_lt _ _ ⟨w.heap.size, 0, none⟩ (by simp; omega)]; simp)
  have st := setF t ⟨w.heap.size + 1 + 1 + 1, 0, none⟩ e old ((((w.alloc (.cells #[.pointer (some t)] 80)).alloc (.cells #[.pointer (some ⟨13, 80, none⟩), .pointer (some ⟨w.heap.size, 0, none⟩), .int .u64 150] 136)).alloc (.cells #[.pointer (some ⟨13, 80, none⟩), .pointer (some ⟨w.heap.size, 0, none⟩), .int .u64 150] 136)).alloc (.cells #[.pointer (some e)] 78))
    (by rw [World.cell?_alloc_at _ _ _ _ (by simp)]; rfl)
    (by rw [World.cell?_alloc_lt _ _ t (by simp; omega), World.cell?_alloc_lt _ _ t (by simp; omega), World.cell?_alloc_lt _ _ t (by simp; omega), World.cell?_alloc_lt _ _ t htl]; exact ht0)
    (by rw [World.frozen?_alloc_old _ _ t (by simp; omega), World.frozen?_alloc_old _ _ t (by simp; omega), World.frozen?_alloc_old _ _ t (by simp; omega), World.frozen?_alloc_old _ _ t (Nat.ne_of_lt htl)]; exact hf0)
  go_enter Tryz.func44, Tryz.ntmps44
  go_wp2
  refine wp_loop_rounds 1 ?_
  rw [rounds_succ]
  go_wp2
  go_ret
  exact ⟨rfl, rfl⟩

/-- errors.As at a Fault and a variable of the call's own: the variable holds the Fault; nothing else that was there has changed. -/
theorem as_any (e t : Addr) (old : Value) (w : World) (hg : w.cell? ⟨12, 0, none⟩ = some (.iface 171 (.agg #[.pointer (some ⟨13, 30, none⟩)]))) (ht0 : w.cell? t = some old) (hf0 : w.frozen? t = false) :
    Calls Tryz.prog 44 #[.iface 78 (.pointer (some e)), .iface 80 (.pointer (some t))] w fun ev w' => ev = .returned (.bool true) ∧ ∃ w1, Below w.heap.size w w1 ∧ w' = w1.setCell t (.pointer (some e)) :=
  (as_hit e t old w hg ht0 hf0).mono fun _ _ ⟨h1, h2⟩ => ⟨h1, _, ((((Below.refl _ _).alloc (Nat.le_refl _) _).alloc (by simp) _).alloc (by simp; omega) _).alloc (by simp; omega) _, h2⟩
end Errs
end Go.Proofs.YtmhiambkfdkkbaaGreatDoor

namespace Go.Proofs.YtmhiambkfdkkbaaGreatDoor
open Go.RowKit
set_option maxRecDepth 100000

/-- errors.errorType holds the handle of the type error. -/
def GlobE (w : World) : Prop := w.cell? ⟨12, 0, none⟩ = some (.iface 171 (.agg #[.pointer (some ⟨13, 30, none⟩)]))
theorem GlobE.below {w w' : World} (h : GlobE w) (hb : Below w.heap.size w w') : GlobE w' := cell_keep hb h

/-- An error's number and length are as every error's. -/
def PErr.Fine (t : PErr) : Prop := match t with | none => True | some (n, l) => 1 ≤ n ∧ n ≤ 11 ∧ l.length ≤ 1000

theorem takeD {P : Program} {ops : Array Oper} {Q : Exit → Act → World → Prop} {md : Region.Mode} {S : World → Prop} {i : Nat} {oi : Oper} {v : Value} {fuel : Nat} {listed : Array Bool} {a : Act} {w : World} (d : Option Tmp) (hi : ops[i]? = some oi) (hd : oi.dst = d)
    (hs : Region.noSelect ops = true) (hf : Region.free md ops listed i = true) (hr : (Region.ready md ops listed).contains i = true)
    (hQ : ∀ c a w, Q (.panic c) (a.put d v) w → Q (.panic c) a w) (hy : YieldsIf P ops S oi v a) (hS : S w)
    (h : wpAnyH P md ops Q S fuel (listed.setIfInBounds i true) (a.put d v) w) : wpAnyH P md ops Q S (fuel + 1) listed a w := by
  subst hd
  exact wpAnyH_take hi hs hf hr hQ hy hS h

theorem takeA {P : Program} {ops : Array Oper} {Q : Exit → Act → World → Prop} {md : Region.Mode} {i : Nat} {oi : Oper} {v : Value} {fuel : Nat} {listed : Array Bool} {a : Act} {w : World} (d : Option Tmp) (hi : ops[i]? = some oi) (hd : oi.dst = d)
    (hs : Region.noSelect ops = true) (hf : Region.free md ops listed i = true) (hr : (Region.ready md ops listed).contains i = true)
    (hQ : ∀ c a w, Q (.panic c) (a.put d v) w → Q (.panic c) a w) (hy : Yields P ops oi v a)
    (h : wpAny P md ops Q fuel (listed.setIfInBounds i true) (a.put d v) w) : wpAny P md ops Q (fuel + 1) listed a w := by
  subst hd
  exact wpAny_take hi hs hf hr hQ hy h

/-- errors.As at a Fault and a variable just laid: the variable holds the Fault; all that was there before it is as it was. -/
theorem as_keep (q : Addr) (wo wv w : World) (bv : Below wo.heap.size wo wv) (hw : w = wv.drew) (hG : GlobE wv) (zt : wv.cell? ⟨wo.heap.size, 0, none⟩ = some (.pointer none)) (ft : wv.frozen? ⟨wo.heap.size, 0, none⟩ = false) :
    Calls Tryz.prog 44 #[.iface 78 (.pointer (some q)), .iface 80 (.pointer (some ⟨wo.heap.size, 0, none⟩))] w fun e w' => e = .returned (.bool true) ∧ w'.cell? ⟨wo.heap.size, 0, none⟩ = some (.pointer (some q)) ∧ Below wo.heap.size wo w' := by
  subst hw
  refine (Errs.as_any q ⟨wo.heap.size, 0, none⟩ (.pointer none) wv.drew hG zt ft).mono ?_
  rintro e w6 ⟨rfl, w5, hb5, rfl⟩
  have h5 : Below wv.heap.size wv w5 := ((Below.refl wv.heap.size wv).drew).trans hb5
  refine ⟨rfl, World.cell?_setCell_same _ _ _ (cell_keep h5 zt), (Below.stepL bv h5).setCell (p := ⟨wo.heap.size, 0, none⟩) (Nat.le_refl _) _⟩

theorem raw_is_none (w : World) :
    Calls Tryz.prog 13 #[.nilIface, zErr] w (Ret1 (fun x _ => x = .bool true) w) := by
  go_enter Tryz.func13, Tryz.ntmps13
  go_wp2
  go_ret
  exact ⟨_, rfl, belowAlloc' _ _, rfl⟩

set_option maxHeartbeats 1000000 in
theorem raw_is_some (r : Nat → Addr) (n : Int) (l : List (ByteArray × Int)) (v e : Value) (w : World) (hg : Glob r w) (hG : GlobE w) (hv : ErrAt r w n l v) (he : EAt w (some (n, l)) e) (h1 : 1 ≤ n) (h11 : n ≤ 11) (hl : l.length ≤ 1000) :
    Calls Tryz.prog 13 #[v, e] w (Ret1 (fun x _ => x = .bool true) w) := by
  obtain ⟨a1, n1, c1, a2, n2, c2, rfl, hs, hi⟩ := he
  have b0 := belowAlloc' w (.cells #[.int .i64 n, .slice a1 n1 c1, .slice a2 n2 c2] 34)
  have hn0 : (n == 0) = false := by rw [beq_eq_false_iff_ne]; omega
  obtain ⟨T, p, rfl⟩ := hv.shape
  replace hv := Lib.hid (hv.below b0)
  have hg0 := Lib.hid hg
  replace hg := Lib.hid (hg.below b0)
  replace hG := Lib.hid (hG.below b0)
  have hsl := hs.len oneStrs
  rw [List.length_map] at hsl
  replace hs := Lib.hid (hs.below b0)
  replace hi := Lib.hid (hi.below b0)
  go_enter Tryz.func13, Tryz.ntmps13
  go_wp2_with fail
  refine (raw_root r n _ hg.out h1 h11).mono ?_
  rintro e w1 ⟨rfl, rfl⟩
  go_wp2_with fail
  refine (Errs.is_any r n l _ _ hv.out).mono ?_
  rintro e w1 ⟨rfl, rfl⟩
  have z : (w.alloc (.cells #[.int .i64 n, .slice a1 n1 c1, .slice a2 n2 c2] 34)).cell? ⟨w.heap.size, 0, none⟩ = some (.int .i64 n) ∧ (w.alloc (.cells #[.int .i64 n, .slice a1 n1 c1, .slice a2 n2 c2] 34)).cell? ⟨w.heap.size, 1, none⟩ = some (.slice a1 n1 c1) ∧ (w.alloc (.cells #[.int .i64 n, .slice a1 n1 c1, .slice a2 n2 c2] 34)).cell? ⟨w.heap.size, 2, none⟩ = some (.slice a2 n2 c2) := by simp
  obtain ⟨W, hW⟩ : ∃ W : World, W = w.alloc (.cells #[.int .i64 n, .slice a1 n1 c1, .slice a2 n2 c2] 34) := ⟨_, rfl⟩
  rw [← hW] at hv hg hG hs hi z b0 ⊢
  clear hW
  replace z := Lib.hid z
  go_wp2
  go_loopw [0, 5] (fun u i wr => ∃ k : Nat, k ≤ l.length ∧ i = .int .i64 k ∧ ErrAt r wr n (l.drop k) u ∧ Below W.heap.size W wr) (fun _ i _ => l.length - (intOf i).toNat)
  case atStart => exact ⟨0, by omega, rfl, hv.out, Below.refl _ _⟩
  case round =>
    obtain ⟨k, hk, rfl, hu, hB⟩ := hrel
    obtain ⟨wo, rfl⟩ : ∃ wo : World, wo = wr := ⟨_, rfl⟩
    obtain ⟨z0, z1, z2⟩ := keep3 hB z.out
    by_cases hkl : k < l.length
    · have hd : l.drop k = l[k] :: l.drop (k + 1) := List.drop_eq_getElem_cons hkl
      rw [hd] at hu
      generalize hlk : l[k] = x at hu
      obtain ⟨op, at_⟩ := x
      obtain ⟨q, u', rfl, d0, d1, d2, hrest⟩ := hu
      have hs' := hs.out.below hB
      have hi' := hi.out.below hB
      have i1 := hs'.idx oneStrs k (by simpa using hkl)
      have e1 := hs'.cell k (by simpa using hkl)
      have i2 := hi'.idx k (by simpa using hkl)
      have e2 := hi'.cell k (by simpa using hkl)
      simp only [List.getElem_map, hlk] at e1 e2
      replace hd := Lib.hid hd
      replace hlk := Lib.hid hlk
      replace hrest := Lib.hid hrest
      clear hs' hi'
      have gE := Lib.hid (hG.out.below hB)
      generalize valAt (.slice a1 n1 c1) k = A1 at i1 e1
      generalize valAt (.slice a2 n2 c2) k = A2 at i2 e2
      have bv := belowAlloc' wo (.cells #[.pointer none] 78)
      have y1 := cell_keep bv z1
      have y2 := cell_keep bv z2
      have g0 := cell_keep bv d0
      have g1 := cell_keep bv d1
      have s1 := (bv.cell (World.block_lt_of_cell? _ _ e1)).trans e1
      have s2 := (bv.cell (World.block_lt_of_cell? _ _ e2)).trans e2
      have zt : (wo.alloc (.cells #[.pointer none] 78)).cell? ⟨wo.heap.size, 0, none⟩ = some (.pointer none) := by simp
      have ft : (wo.alloc (.cells #[.pointer none] 78)).frozen? ⟨wo.heap.size, 0, none⟩ = false := by simp
      have gv := Lib.hid (gE.out.below bv)
      go_wp2
      obtain ⟨wv, hwv⟩ : ∃ W : World, W = wo.alloc (.cells #[.pointer none] 78) := ⟨_, rfl⟩
      rw [← hwv] at bv y1 y2 g0 g1 s1 s2 zt ft gv ⊢
      clear hwv
      replace z0 := Lib.hid z0
      replace z1 := Lib.hid z1
      replace z2 := Lib.hid z2
      replace d0 := Lib.hid d0
      replace d1 := Lib.hid d1
      replace d2 := Lib.hid d2
      replace e1 := Lib.hid e1
      replace e2 := Lib.hid e2
      refine wp_region_noPanic ?_
      refine wp_region_any (by kernel_rfl) ?_
      change wpAny _ _ _ _ _ _ _ (World.drew _)
      refine takeA (i := 0) (v := ?_) (some 29) rfl rfl (by kernel_rfl) (by kernel_rfl) (by kernel_rfl) (fun _ _ _ h => h) (Or.inl ⟨by rfl, ?_⟩) ?_
      rotate_left
      · intro _; go_simp; try with_reducible rfl
      simp only [Act.put, List.setIfInBounds_toArray, List.set_cons_zero, List.set_cons_succ]
      refine takeA (i := 1) (v := ?_) (some 30) rfl rfl (by kernel_rfl) (by kernel_rfl) (by kernel_rfl) (fun _ _ _ h => h) (Or.inl ⟨by rfl, ?_⟩) ?_
      rotate_left
      · intro _; go_simp; try with_reducible rfl
      simp only [Act.put, List.setIfInBounds_toArray, List.set_cons_zero, List.set_cons_succ]
      refine wpAny_ready (rs := [2]) (by kernel_rfl) (by simp) (AllReady.cons rfl (fun K hK => ?_) AllReady.nil)
      go_simp
      go_at_call 44
      refine (as_keep ⟨q, 0, none⟩ wo wv _ bv rfl gv.out zt ft).mono ?_
      rintro e w6 ⟨rfl, p0, b6⟩
      refine hK _ _ ?_
      clear hK K y1 y2 g0 g1 s1 s2
      have p1 := cell_keep b6 z1.out
      have p2 := cell_keep b6 z2.out
      have p3 := cell_keep b6 d0.out
      have p4 := cell_keep b6 d1.out
      have p5 := (b6.cell (World.block_lt_of_cell? _ _ e1.out)).trans e1.out
      have p6 := (b6.cell (World.block_lt_of_cell? _ _ e2.out)).trans e2.out
      have p7 := cell_keep b6 d2.out
      refine wpAny_of_held (S := fun w' => w' = w6) _ _ _ _ ?_
      refine takeD (i := 3) (v := ?_) (some 32) rfl rfl (by kernel_rfl) (by kernel_rfl) (by kernel_rfl) (fun _ _ _ h => h) (Or.inl ⟨by rfl, ?_⟩) rfl ?_
      rotate_left
      · intro _ hw; subst hw; go_simp; try with_reducible rfl
      simp only [Act.put, List.setIfInBounds_toArray, List.set_cons_zero, List.set_cons_succ]
      refine takeD (i := 4) (v := ?_) (some 33) rfl rfl (by kernel_rfl) (by kernel_rfl) (by kernel_rfl) (fun _ _ _ h => h) (Or.inl ⟨by rfl, ?_⟩) rfl ?_
      rotate_left
      · intro _ hw; subst hw; go_simp; try with_reducible rfl
      simp only [Act.put, List.setIfInBounds_toArray, List.set_cons_zero, List.set_cons_succ]
      refine takeD (i := 5) (v := ?_) (some 34) rfl rfl (by kernel_rfl) (by kernel_rfl) (by kernel_rfl) (fun _ _ _ h => h) (Or.inl ⟨by rfl, ?_⟩) rfl ?_
      rotate_left
      · intro _ hw; subst hw; go_simp; try with_reducible rfl
      simp only [Act.put, List.setIfInBounds_toArray, List.set_cons_zero, List.set_cons_succ]
      refine takeD (i := 6) (v := ?_) (some 35) rfl rfl (by kernel_rfl) (by kernel_rfl) (by kernel_rfl) (fun _ _ _ h => h) (Or.inl ⟨by rfl, ?_⟩) rfl ?_
      rotate_left
      · intro _ hw; subst hw; go_simp; try with_reducible rfl
      simp only [Act.put, List.setIfInBounds_toArray, List.set_cons_zero, List.set_cons_succ]
      refine takeD (i := 7) (v := ?_) (some 36) rfl rfl (by kernel_rfl) (by kernel_rfl) (by kernel_rfl) (fun _ _ _ h => h) (Or.inl ⟨by rfl, ?_⟩) rfl ?_
      rotate_left
      · intro _ hw; subst hw; go_simp; try with_reducible rfl
      simp only [Act.put, List.setIfInBounds_toArray, List.set_cons_zero, List.set_cons_succ]
      refine takeD (i := 8) (v := ?_) (some 37) rfl rfl (by kernel_rfl) (by kernel_rfl) (by kernel_rfl) (fun _ _ _ h => h) (Or.inl ⟨by rfl, ?_⟩) rfl ?_
      rotate_left
      · intro _ hw; subst hw; go_simp; try with_reducible rfl
      simp only [Act.put, List.setIfInBounds_toArray, List.set_cons_zero, List.set_cons_succ]
      refine takeD (i := 9) (v := ?_) (some 38) rfl rfl (by kernel_rfl) (by kernel_rfl) (by kernel_rfl) (fun _ _ _ h => h) (Or.inl ⟨by rfl, ?_⟩) rfl ?_
      rotate_left
      · intro _ hw; subst hw; go_simp; try with_reducible rfl
      simp only [Act.put, List.setIfInBounds_toArray, List.set_cons_zero, List.set_cons_succ]
      refine takeD (i := 10) (v := ?_) (some 39) rfl rfl (by kernel_rfl) (by kernel_rfl) (by kernel_rfl) (fun _ _ _ h => h) (Or.inl ⟨by rfl, ?_⟩) rfl ?_
      rotate_left
      · intro _ hw; subst hw; go_simp; try with_reducible rfl
      simp only [Act.put, List.setIfInBounds_toArray, List.set_cons_zero, List.set_cons_succ]
      refine takeD (i := 11) (v := ?_) (some 40) rfl rfl (by kernel_rfl) (by kernel_rfl) (by kernel_rfl) (fun _ _ _ h => h) (Or.inl ⟨by rfl, ?_⟩) rfl ?_
      rotate_left
      · intro _ hw; subst hw; go_simp; try with_reducible rfl
      simp only [Act.put, List.setIfInBounds_toArray, List.set_cons_zero, List.set_cons_succ]
      refine takeD (i := 12) (v := ?_) (some 41) rfl rfl (by kernel_rfl) (by kernel_rfl) (by kernel_rfl) (fun _ _ _ h => h) (Or.inl ⟨by rfl, ?_⟩) rfl ?_
      rotate_left
      · intro _ hw; subst hw; go_simp; try with_reducible rfl
      simp only [Act.put, List.setIfInBounds_toArray, List.set_cons_zero, List.set_cons_succ]
      refine takeD (i := 13) (v := ?_) (some 42) rfl rfl (by kernel_rfl) (by kernel_rfl) (by kernel_rfl) (fun _ _ _ h => h) (Or.inl ⟨by rfl, ?_⟩) rfl ?_
      rotate_left
      · intro _ hw; subst hw; go_simp; try with_reducible rfl
      simp only [Act.put, List.setIfInBounds_toArray, List.set_cons_zero, List.set_cons_succ]
      refine takeD (i := 14) (v := ?_) (some 43) rfl rfl (by kernel_rfl) (by kernel_rfl) (by kernel_rfl) (fun _ _ _ h => h) (Or.inl ⟨by rfl, ?_⟩) rfl ?_
      rotate_left
      · intro _ hw; subst hw; go_simp; try with_reducible rfl
      simp only [Act.put, List.setIfInBounds_toArray, List.set_cons_zero, List.set_cons_succ]
      refine takeD (i := 15) (v := ?_) (some 44) rfl rfl (by kernel_rfl) (by kernel_rfl) (by kernel_rfl) (fun _ _ _ h => h) (Or.inl ⟨by rfl, ?_⟩) rfl ?_
      rotate_left
      · intro _ hw; subst hw; go_simp; try with_reducible rfl
      simp only [Act.put, List.setIfInBounds_toArray, List.set_cons_zero, List.set_cons_succ]
      refine takeD (i := 16) (v := ?_) (some 45) rfl rfl (by kernel_rfl) (by kernel_rfl) (by kernel_rfl) (fun _ _ _ h => h) (Or.inl ⟨by rfl, ?_⟩) rfl ?_
      rotate_left
      · intro _ hw; subst hw; go_simp; try with_reducible rfl
      simp only [Act.put, List.setIfInBounds_toArray, List.set_cons_zero, List.set_cons_succ]
      refine takeD (i := 17) (v := ?_) (some 46) rfl rfl (by kernel_rfl) (by kernel_rfl) (by kernel_rfl) (fun _ _ _ h => h) (Or.inl ⟨by rfl, ?_⟩) rfl ?_
      rotate_left
      · intro _ hw; subst hw; go_simp; try with_reducible rfl
      simp only [Act.put, List.setIfInBounds_toArray, List.set_cons_zero, List.set_cons_succ]
      refine takeD (i := 18) (v := ?_) (some 47) rfl rfl (by kernel_rfl) (by kernel_rfl) (by kernel_rfl) (fun _ _ _ h => h) (Or.inl ⟨by rfl, ?_⟩) rfl ?_
      rotate_left
      · intro _ hw; subst hw; go_simp; try with_reducible rfl
      simp only [Act.put, List.setIfInBounds_toArray, List.set_cons_zero, List.set_cons_succ]
      refine takeD (i := 19) (v := ?_) (some 48) rfl rfl (by kernel_rfl) (by kernel_rfl) (by kernel_rfl) (fun _ _ _ h => h) (Or.inl ⟨by rfl, ?_⟩) rfl ?_
      rotate_left
      · intro _ hw; subst hw; go_simp; try with_reducible rfl
      simp only [Act.put, List.setIfInBounds_toArray, List.set_cons_zero, List.set_cons_succ]
      refine takeD (i := 20) (v := ?_) (some 49) rfl rfl (by kernel_rfl) (by kernel_rfl) (by kernel_rfl) (fun _ _ _ h => h) (Or.inl ⟨by rfl, ?_⟩) rfl ?_
      rotate_left
      · intro _ hw; subst hw; go_simp; try with_reducible rfl
      simp only [Act.put, List.setIfInBounds_toArray, List.set_cons_zero, List.set_cons_succ]
      refine takeD (i := 21) (v := ?_) (some 50) rfl rfl (by kernel_rfl) (by kernel_rfl) (by kernel_rfl) (fun _ _ _ h => h) (Or.inl ⟨by rfl, ?_⟩) rfl ?_
      rotate_left
      · intro _ hw; subst hw; go_simp; try with_reducible rfl
      simp only [Act.put, List.setIfInBounds_toArray, List.set_cons_zero, List.set_cons_succ]
      refine takeD (i := 22) (v := ?_) (some 51) rfl rfl (by kernel_rfl) (by kernel_rfl) (by kernel_rfl) (fun _ _ _ h => h) (Or.inl ⟨by rfl, ?_⟩) rfl ?_
      rotate_left
      · intro _ hw; subst hw; go_simp; try with_reducible rfl
      simp only [Act.put, List.setIfInBounds_toArray, List.set_cons_zero, List.set_cons_succ]
      refine takeD (i := 23) (v := ?_) (some 52) rfl rfl (by kernel_rfl) (by kernel_rfl) (by kernel_rfl) (fun _ _ _ h => h) (Or.inl ⟨by rfl, ?_⟩) rfl ?_
      rotate_left
      · intro _ hw; subst hw; go_simp; try with_reducible rfl
      simp only [Act.put, List.setIfInBounds_toArray, List.set_cons_zero, List.set_cons_succ]
      refine takeD (i := 24) (v := ?_) (some 53) rfl rfl (by kernel_rfl) (by kernel_rfl) (by kernel_rfl) (fun _ _ _ h => h) (Or.inl ⟨by rfl, ?_⟩) rfl ?_
      rotate_left
      · intro _ hw; subst hw; go_simp; try with_reducible rfl
      simp only [Act.put, List.setIfInBounds_toArray, List.set_cons_zero, List.set_cons_succ]
      refine takeD (i := 25) (v := ?_) (some 54) rfl rfl (by kernel_rfl) (by kernel_rfl) (by kernel_rfl) (fun _ _ _ h => h) (Or.inl ⟨by rfl, ?_⟩) rfl ?_
      rotate_left
      · intro _ hw; subst hw; go_simp; try with_reducible rfl
      simp only [Act.put, List.setIfInBounds_toArray, List.set_cons_zero, List.set_cons_succ]
      refine takeD (i := 26) (v := ?_) (some 55) rfl rfl (by kernel_rfl) (by kernel_rfl) (by kernel_rfl) (fun _ _ _ h => h) (Or.inl ⟨by rfl, ?_⟩) rfl ?_
      rotate_left
      · intro _ hw; subst hw; go_simp; try with_reducible rfl
      simp only [Act.put, List.setIfInBounds_toArray, List.set_cons_zero, List.set_cons_succ]
      refine takeD (i := 27) (v := ?_) (some 56) rfl rfl (by kernel_rfl) (by kernel_rfl) (by kernel_rfl) (fun _ _ _ h => h) (Or.inl ⟨by rfl, ?_⟩) rfl ?_
      rotate_left
      · intro _ hw; subst hw; go_simp; try with_reducible rfl
      simp only [Act.put, List.setIfInBounds_toArray, List.set_cons_zero, List.set_cons_succ]
      refine takeD (i := 28) (v := ?_) (some 57) rfl rfl (by kernel_rfl) (by kernel_rfl) (by kernel_rfl) (fun _ _ _ h => h) (Or.inl ⟨by rfl, ?_⟩) rfl ?_
      rotate_left
      · intro _ hw; subst hw; go_simp; try with_reducible rfl
      simp only [Act.put, List.setIfInBounds_toArray, List.set_cons_zero, List.set_cons_succ]
      refine takeD (i := 29) (v := ?_) (some 58) rfl rfl (by kernel_rfl) (by kernel_rfl) (by kernel_rfl) (fun _ _ _ h => h) (Or.inl ⟨by rfl, ?_⟩) rfl ?_
      rotate_left
      · intro _ hw; subst hw; go_simp; try with_reducible rfl
      simp only [Act.put, List.setIfInBounds_toArray, List.set_cons_zero, List.set_cons_succ]
      refine takeD (i := 30) (v := ?_) (some 59) rfl rfl (by kernel_rfl) (by kernel_rfl) (by kernel_rfl) (fun _ _ _ h => h) (Or.inl ⟨by rfl, ?_⟩) rfl ?_
      rotate_left
      · intro _ hw; subst hw; go_simp; try with_reducible rfl
      simp only [Act.put, List.setIfInBounds_toArray, List.set_cons_zero, List.set_cons_succ]
      refine takeD (i := 31) (v := ?_) (some 60) rfl rfl (by kernel_rfl) (by kernel_rfl) (by kernel_rfl) (fun _ _ _ h => h) (Or.inl ⟨by rfl, ?_⟩) rfl ?_
      rotate_left
      · intro _ hw; subst hw; go_simp; try with_reducible rfl
      simp only [Act.put, List.setIfInBounds_toArray, List.set_cons_zero, List.set_cons_succ]
      refine wpAnyH_done (by kernel_rfl) ?_ _
      refine NoPanic.normal ?_
      have hr6 := Lib.hid (hrest.out.below b6)
      have hB6 := Lib.hid (Below.stepL hB b6)
      clear p1 p2 p3 p4 p5 p6
      go_wp2
      go_roundw
      case rel => exact ⟨k + 1, by omega, by go_num, hr6.out, hB6.out⟩
      case measure => simp [intOf]; omega
    · obtain rfl : k = l.length := by omega
      rw [List.drop_length] at hu
      obtain rfl : _ = rootV r n := hu
      obtain ⟨i, hi, hcmp⟩ := Option.map_eq_some_iff.1 Errs.compE
      obtain ⟨j, hj, hjs⟩ := Option.map_eq_some_iff.1 Errs.sizeE
      have heq := run_eql_iface_ptr_same (P := Tryz.prog) wo (r n.toNat) Errs.uErr Errs.uES hi hcmp hj
      clear hi hcmp hj hjs
      have hgo := Lib.hid (hg.out.below hB)
      have hBf := Lib.hid (Below.stepL b0 hB)
      go_wp2_with fail
      refine (raw_root r n _ hgo.out h1 h11).mono ?_
      rintro e w1 ⟨rfl, rfl⟩
      go_wp2
      go_ret
      exact ⟨_, rfl, hBf.out, rfl⟩

/-- edenraw.Is at an error that is what it must be. -/
theorem raw_is (r : Nat → Addr) (t : PErr) (v e : Value) (w : World) (hg : Glob r w) (hG : GlobE w) (hv : ErrIs r w t v) (he : EAt w t e) (ht : t.Fine) :
    Calls Tryz.prog 13 #[v, e] w (Ret1 (fun x _ => x = .bool true) w) := by
  match t, hv, he, ht with
  | none, hv, he, _ =>
    obtain rfl := ErrIs.none_eq hv
    obtain rfl : e = zErr := he
    exact raw_is_none w
  | some (n, l), hv, he, ⟨h1, h11, hl⟩ => exact raw_is_some r n l v e w hg hG hv he h1 h11 hl

/-- edenraw.Under at any error. -/
theorem raw_under (op : ByteArray) (at_ : Int) (t : PErr) (v : Value) (w : World) (h : EAt w t v) (ht : ∀ n l, t = some (n, l) → 1 ≤ n ∧ 1 ≤ l.length ∧ l.length ≤ 1000) :
    Calls Tryz.prog 58 #[.string op, .int .i64 at_, v] w (Ret1 (fun x w' => EOwn w.heap.size w' (under op at_ t) x) w) := by
  match t, h, ht with
  | none, h, _ =>
    obtain rfl : v = zErr := h
    exact raw_under_nil op at_ w
  | some (n, l), h, ht =>
    obtain ⟨h1, h2, h3⟩ := ht n l rfl
    exact raw_under_some op at_ n l v w h h1 h2 h3
end Go.Proofs.YtmhiambkfdkkbaaGreatDoor

namespace Go.Proofs.YtmhiambkfdkkbaaGreatDoor

theorem sumRow_getD (K : Nat) (x y : Int) (s n : Nat) (h : n < s) : (sumRow K x y s).getD n 0 = (y + x * n) % K := by
  simp [sumRow, List.getD, h]

theorem sumStep_getD {K : Nat} (hK : 1 ≤ K) (x : Int) : ∀ (T : List Int) (i : Nat), i < T.length * K → (sumStep K x T).getD i 0 = (T.getD (i / K) 0 + x * (i % K : Nat)) % K
  | [], i, h => by simp at h
  | y :: T, i, h => by
    have e : sumStep K x (y :: T) = sumRow K x y K ++ sumStep K x T := rfl
    rw [e]
    by_cases hi : i < K
    · rw [show (sumRow K x y K ++ sumStep K x T).getD i 0 = (sumRow K x y K).getD i 0 by
        simp only [List.getD]; rw [List.getElem?_append_left (by rw [sumRow_length]; exact hi)]]
      rw [sumRow_getD K x y K i hi, Nat.div_eq_of_lt hi, Nat.mod_eq_of_lt hi]
      rfl
    · have hi' : i - K < T.length * K := by rw [List.length_cons, Nat.succ_mul] at h; omega
      rw [show (sumRow K x y K ++ sumStep K x T).getD i 0 = (sumStep K x T).getD (i - K) 0 by
        simp only [List.getD]; rw [List.getElem?_append_right (by rw [sumRow_length]; omega), sumRow_length]]
      rw [sumStep_getD hK x T (i - K) hi']
      have h1 : i / K = (i - K) / K + 1 := by
        rw [show i = (i - K) + K by omega, Nat.add_div_right _ (by omega), Nat.add_sub_cancel]
      have h2 : i % K = (i - K) % K := Nat.mod_eq_sub_mod (by omega)
      rw [h1, h2]
      simp [List.getD]

theorem sumT_snoc (K : Nat) (f : List Int) (x : Int) : sumT K (f ++ [x]) = sumStep K x (sumT K f) := sumTable_snoc ..

/-- An entry of a sum's table, by the window's last symbol. -/
theorem sumT_getD {K : Nat} (hK : 1 ≤ K) (f : List Int) (x : Int) (i : Nat) (h : i < pw K (f.length + 1)) :
    (sumT K (f ++ [x])).getD i 0 = ((sumT K f).getD (i / K) 0 + x * (i % K : Nat)) % K := by
  rw [sumT_snoc]
  refine sumStep_getD hK x _ i ?_
  rw [sumT_length, ← pw_succ]; exact h

theorem snoc_ind {P : List Int → Prop} (h0 : P []) (h1 : ∀ f x, P f → P (f ++ [x])) (f : List Int) : P f := by
  have : P f.reverse.reverse := by
    induction f.reverse with
    | nil => exact h0
    | cons x g ih => rw [List.reverse_cons]; exact h1 _ _ ih
  simpa using this

theorem sumT_zero {K : Nat} (hK : 1 ≤ K) (f : List Int) : (sumT K f).getD 0 0 = 0 := by
  refine snoc_ind (P := fun f => (sumT K f).getD 0 0 = 0) rfl (fun f x ih => ?_) f
  rw [sumT_getD hK f x 0 (pw_pos _ hK), Nat.zero_div, ih]
  simp

theorem emod_addMul {a b : Int} {K : Nat} : (a % K + b) % K = (a + b) % K := by simp [Int.add_emod]

theorem sumT_range {K : Nat} (hK : 1 ≤ K) (f : List Int) (i : Nat) : 0 ≤ (sumT K f).getD i 0 ∧ (sumT K f).getD i 0 < K := by
  by_cases h : i < (sumT K f).length
  · simp only [List.getD, List.getElem?_eq_getElem h, Option.getD_some]
    exact sumT_syms hK f _ (by simp)
  · simp only [List.getD, List.getElem?_eq_none (Nat.le_of_not_lt h), Option.getD_none]
    omega

/-- The windows with a single 1 tell the factors. -/
theorem sumT_pw {K : Nat} (hK : 1 < K) (f : List Int) : ∀ t, t < f.length → (sumT K f).getD (pw K t) 0 = f.getD (f.length - 1 - t) 0 % K := by
  refine snoc_ind (P := fun f => ∀ t, t < f.length → (sumT K f).getD (pw K t) 0 = f.getD (f.length - 1 - t) 0 % K) (by intro t h; simp at h) (fun f x ih => ?_) f
  intro t ht
  rw [List.length_append, List.length_singleton] at ht
  rw [sumT_getD (by omega) f x _ (pw_lt hK ht)]
  cases t with
  | zero =>
    rw [pw_zero, Nat.div_eq_of_lt hK, Nat.mod_eq_of_lt hK, sumT_zero (by omega)]
    simp [List.getD]
  | succ t =>
    rw [pw_succ, Nat.mul_div_cancel _ (by omega), Nat.mul_mod_left, ih t (by omega)]
    have : (f ++ [x]).getD ((f ++ [x]).length - 1 - (t + 1)) 0 = f.getD (f.length - 1 - t) 0 := by
      simp only [List.getD, List.length_append, List.length_singleton]
      rw [show f.length + 1 - 1 - (t + 1) = f.length - 1 - t by omega, List.getElem?_append_left (by omega)]
    rw [this]
    simp

/-- Window i is one with its first symbol less by one, and the window with a single 1 there. -/
theorem sumT_add {K : Nat} (hK : 1 < K) (f : List Int) : ∀ t x, x % K ≠ 0 → x * pw K t < pw K f.length →
    (sumT K f).getD (x * pw K t) 0 = ((sumT K f).getD (x * pw K t - pw K t) 0 + (sumT K f).getD (pw K t) 0) % K := by
  refine snoc_ind (P := fun f => ∀ t x, x % K ≠ 0 → x * pw K t < pw K f.length →
    (sumT K f).getD (x * pw K t) 0 = ((sumT K f).getD (x * pw K t - pw K t) 0 + (sumT K f).getD (pw K t) 0) % K) ?_ (fun f y ih => ?_) f
  · intro t x hx h
    have : x ≠ 0 := by intro e; subst e; simp at hx
    have h1 := pw_pos t (show 1 ≤ K by omega)
    have : 1 * 1 ≤ x * pw K t := Nat.mul_le_mul (by omega) h1
    simp only [List.length_nil, pw_zero] at h
    omega
  · intro t x hx h
    have hx0 : x ≠ 0 := by intro e; subst e; simp at hx
    rw [List.length_append, List.length_singleton] at h
    have hp := pw_pos t (show 1 ≤ K by omega)
    have hle : pw K t ≤ x * pw K t := Nat.le_mul_of_pos_left _ (by omega)
    rw [sumT_getD (by omega) f y _ h, sumT_getD (by omega) f y _ (show x * pw K t - pw K t < _ by omega), sumT_getD (by omega) f y _ (show pw K t < _ by omega)]
    cases t with
    | zero =>
      rw [pw_zero, Nat.mul_one]
      have h1 : (x - 1) / K = x / K ∧ (x - 1) % K = x % K - 1 := by
        have hd := Nat.div_add_mod x K
        have hl := Nat.mod_lt x (show 0 < K by omega)
        have e : x - 1 = (x % K - 1) + K * (x / K) := by omega
        rw [e, Nat.add_mul_div_left _ _ (by omega), Nat.add_mul_mod_self_left, Nat.div_eq_of_lt (by omega), Nat.mod_eq_of_lt (by omega)]
        omega
      rw [h1.1, h1.2, Nat.div_eq_of_lt hK, Nat.mod_eq_of_lt hK, sumT_zero (by omega)]
      rw [← Int.add_emod]
      congr 1
      have : ((x % K - 1 : Nat) : Int) = ((x % K : Nat) : Int) - 1 := by omega
      rw [this, Int.mul_sub]
      simp
      omega
    | succ t =>
      have hh : x * pw K t < pw K f.length := by
        rw [pw_succ, pw_succ, ← Nat.mul_assoc] at h
        exact Nat.lt_of_mul_lt_mul_right h
      have e := ih t x hx hh
      rw [pw_succ, ← Nat.mul_assoc, ← Nat.sub_mul, Nat.mul_div_cancel _ (by omega), Nat.mul_div_cancel _ (by omega), Nat.mul_div_cancel _ (by omega), Nat.mul_mod_left, Nat.mul_mod_left, Nat.mul_mod_left, e]
      simp

/-- What the law asks of window i; and that it does not hold. -/
def Good (K : Nat) (T : List Int) (i : Nat) : Prop := (i = 0 ∧ T.getD 0 0 = 0) ∨ ∃ t x, x * pw K t = i ∧ x % K ≠ 0 ∧ T.getD i 0 = (T.getD (i - pw K t) 0 + T.getD (pw K t) 0) % K
def Bad (K : Nat) (T : List Int) (i : Nat) : Prop := (i = 0 ∧ T.getD 0 0 ≠ 0) ∨ ∃ t x, x * pw K t = i ∧ x % K ≠ 0 ∧ T.getD i 0 ≠ (T.getD (i - pw K t) 0 + T.getD (pw K t) 0) % K

theorem not_sum_of_bad {K R : Nat} {T : List Int} (h : RuleOk K R T) (i : Nat) (hi : i < T.length) (hb : Bad K T i) : isSum K R T = false := by
  have hk := h.k1
  rw [isSum, decide_eq_false_iff_not]
  intro e
  have hlen : T.length = pw K (facs K R T).length := by rw [facs_length, h.len]
  rcases hb with ⟨_, h0⟩ | ⟨t, x, hx, hxK, hne⟩
  · apply h0
    rw [← e]; exact sumT_zero hk _
  · by_cases hK : 1 < K
    · apply hne
      rw [← e, ← hx]
      exact sumT_add hK _ t x hxK (by rw [hx, ← hlen]; exact hi)
    · have : K = 1 := by omega
      subst this
      simp [Nat.mod_one] at hxK

theorem facs_getD {K R : Nat} {T : List Int} (hK : 1 < K) (t : Nat) (ht : t < 2 * R + 1) : (facs K R T).getD (2 * R + 1 - 1 - t) 0 = T.getD (pw K t) 0 := by
  unfold facs facI
  rw [if_pos hK]
  simp only [facL, List.getD]
  rw [List.getElem?_map, List.getElem?_range (by omega)]
  simp only [Option.map_some, Option.getD_some]
  rw [if_pos (by omega)]
  rw [show 2 * R + 1 - 1 - (2 * R + 1 - 1 - t) = t by omega]

theorem sum_of_good {K R : Nat} {T : List Int} (h : RuleOk K R T) (hg : ∀ i, i < T.length → Good K T i) : isSum K R T = true := by
  have hk := h.k1
  rw [isSum, decide_eq_true_iff]
  have hlen : (sumT K (facs K R T)).length = T.length := by rw [sumT_length, facs_length, h.len]
  have rng : ∀ i, 0 ≤ T.getD i 0 ∧ T.getD i 0 < K := by
    intro i
    by_cases hi : i < T.length
    · simp only [List.getD, List.getElem?_eq_getElem hi, Option.getD_some]
      exact h.syms _ (by simp)
    · simp only [List.getD, List.getElem?_eq_none (Nat.le_of_not_lt hi), Option.getD_none]
      omega
  have hpow : 1 < K → ∀ t, t < 2 * R + 1 → (sumT K (facs K R T)).getD (pw K t) 0 = T.getD (pw K t) 0 := by
    intro hK t ht
    rw [sumT_pw hK _ t (by rw [facs_length]; exact ht), facs_length, facs_getD hK t ht]
    exact Int.emod_eq_of_lt (rng _).1 (rng _).2
  have key : ∀ n i, i < n → i < T.length → (sumT K (facs K R T)).getD i 0 = T.getD i 0 := by
    intro n
    induction n with
    | zero => intro i hi; omega
    | succ n ih =>
      intro i hin hi
      rcases hg i hi with ⟨rfl, h0⟩ | ⟨t, x, hx, hxK, he⟩
      · rw [h0]; exact sumT_zero hk _
      · by_cases hK : 1 < K
        · have hx0 : x ≠ 0 := by intro e; subst e; simp at hxK
          have hp := pw_pos t hk
          have hle : pw K t ≤ x * pw K t := Nat.le_mul_of_pos_left _ (by omega)
          have ht : t < 2 * R + 1 := by
            by_cases c : t < 2 * R + 1
            · exact c
            · have := pw_mono (i := 2 * R + 1) (j := t) hk (by omega)
              have := h.len
              omega
          have e1 := sumT_add hK (facs K R T) t x hxK (by rw [hx, facs_length, ← h.len]; exact hi)
          rw [hx] at e1
          rw [e1, he, ih (i - pw K t) (by omega) (by omega), hpow hK t ht]
        · have : K = 1 := by omega
          subst this
          simp [Nat.mod_one] at hxK
  refine List.ext_getElem hlen fun i h1 h2 => ?_
  have := key (i + 1) i (by omega) h2
  simpa [List.getD, h1, h2] using this

/-- The factors of a sum are those that it was made of. -/
theorem facs_sumT {K R : Nat} {f : List Int} (hK : 1 < K) (hl : f.length = 2 * R + 1) (hs : Syms K f) : facs K R (sumT K f) = f := by
  refine List.ext_getElem (by rw [facs_length, hl]) fun i h1 h2 => ?_
  have hi : i < 2 * R + 1 := by omega
  have e1 := facs_getD (K := K) (R := R) (T := sumT K f) hK (2 * R + 1 - 1 - i) (by omega)
  rw [show 2 * R + 1 - 1 - (2 * R + 1 - 1 - i) = i by omega, sumT_pw hK f _ (by omega), hl] at e1
  rw [show 2 * R + 1 - 1 - (2 * R + 1 - 1 - i) = i by omega] at e1
  have hb := hs.getD (by omega) i
  rw [Int.emod_eq_of_lt hb.1 hb.2] at e1
  simpa [List.getD, h1, h2] using e1
theorem isSum_sumT {K R : Nat} {f : List Int} (hK : 1 < K) (hl : f.length = 2 * R + 1) (hs : Syms K f) : isSum K R (sumT K f) = true := by
  rw [isSum, facs_sumT hK hl hs]; simp

theorem mulAll_one {K : Nat} {a : List Int} (hs : Syms K a) : ∀ i, i ≤ a.length → mulAll K a [1] i = a.take i ++ List.replicate (a.length - i) 0
  | 0, _ => by simp [mulAll]
  | i + 1, h => by
    rw [mulAll, mulAll_one hs i (by omega)]
    have hi : i < a.length := by omega
    have hx := hs (a[i]) (by simp)
    have hl : (a.take i).length = i := by simp; omega
    show addAt K (a.take i ++ List.replicate (a.length - i) 0) (i + 0) (a.getD i 0 * 1) = _
    have e : a.getD i 0 = a[i] := by simp [List.getD, hi]
    have hrep : List.replicate (a.length - i) (0 : Int) = 0 :: List.replicate (a.length - (i + 1)) 0 := by
      rw [show a.length - i = (a.length - (i + 1)) + 1 by omega, List.replicate_succ]
    have hg : (a.take i ++ List.replicate (a.length - i) (0 : Int)).getD (i + 0) 0 = 0 := by
      rw [hrep]
      simp only [List.getD, Nat.add_zero]
      rw [List.getElem?_append_right (by omega), hl]
      simp
    rw [addAt, hg, e, Int.mul_one, Int.zero_add, Int.emod_eq_of_lt hx.1 hx.2, hrep, List.take_succ_eq_append_getElem hi]
    rw [List.set_append_right _ _ (by omega), hl]
    simp only [Nat.add_zero, Nat.sub_self, List.set_cons_zero, List.append_assoc, List.singleton_append]
theorem mulL_one {K : Nat} {a : List Int} (hs : Syms K a) : mulL K a [1] = a := by
  rw [mulL, mulAll_one hs _ (Nat.le_refl _)]; simp

theorem makeP_none {k R : Int} {f : List Int} (h : makeP k R f = none) : ∃ K Q : Nat, k = K ∧ R = Q ∧ 1 ≤ K ∧ K ≤ 4 ∧ Q ≤ 3 ∧ f.length = 2 * Q + 1 ∧ Syms K f := by
  unfold makeP at h
  by_cases h1 : k < 1 ∨ 4 < k ∨ R < 0 ∨ 3 < R
  · rw [if_pos h1] at h; cases h
  rw [if_neg h1] at h
  by_cases h2 : (f.length : Int) ≠ 2 * R + 1
  · rw [if_pos h2] at h; cases h
  rw [if_neg h2] at h
  refine ⟨k.toNat, R.toNat, by omega, by omega, by omega, by omega, by omega, by omega, ?_⟩
  rw [show ((k.toNat : Nat) : Int) = k by omega]
  exact numP_none h
theorem oddP_mk {Q : Nat} (h : Q ≤ 3) : oddP (2 * Q + 1) = true := by
  simp [oddP]; omega
theorem factP_of {K : Nat} {f : List Int} (h1 : 1 ≤ K) (h4 : K ≤ 4) (ho : oddP f.length = true) (hs : Syms K f) : factP K f = none := by
  rw [factP, if_neg (by omega), ho, if_neg (by decide), hs.num]
theorem mulP_one {K : Nat} {f : List Int} (h1 : 1 < K) (h4 : K ≤ 4) (ho : oddP f.length = true) (hs : Syms K f) : mulP K f [1] = none := by
  have h1' : Syms K [1] := by intro x hx; simp at hx; omega
  simp only [mulP, factP_of (by omega) h4 ho hs, h1'.num, List.length_singleton, Nat.add_sub_cancel, ho]
  decide
end Go.Proofs.YtmhiambkfdkkbaaGreatDoor

namespace Go.Proofs.YtmhiambkfdkkbaaGreatDoor

theorem Sm_add (f g : Nat → Int) (n : Nat) : Sm (fun i => f i + g i) n = Sm f n + Sm g n := by
  induction n with
  | zero => rfl
  | succ n ih => rw [Sm, Sm, Sm, ih]; omega
theorem Sm_swap (f : Nat → Nat → Int) (n m : Nat) : Sm (fun i => Sm (f i) m) n = Sm (fun j => Sm (fun i => f i j) n) m := by
  induction n with
  | zero => rw [Sm, Sm_zero]; intro _ _; rfl
  | succ n ih => rw [Sm, ih, ← Sm_add]; exact Sm_congr _ fun i _ => rfl
theorem Sm_mulL (c : Int) (f : Nat → Int) (n : Nat) : Sm (fun i => c * f i) n = c * Sm f n := by
  induction n with
  | zero => simp [Sm]
  | succ n ih => rw [Sm, Sm, ih, Int.mul_add]
theorem Sm_delta (f : Nat → Int) (p n : Nat) : Sm (fun i => f i * (if i = p then 1 else 0)) n = if p < n then f p else 0 := by
  induction n with
  | zero => simp [Sm]
  | succ n ih =>
    rw [Sm, ih]
    by_cases e : n = p
    · subst e; simp
    · rw [if_neg e]
      by_cases c : p < n
      · rw [if_pos c, if_pos (by omega)]; omega
      · rw [if_neg c, if_neg (by omega)]; omega

theorem mulL_at (K : Nat) (hK : 1 ≤ K) (a b : List Int) (hb : 1 ≤ b.length) (p : Nat) (hp : p < a.length + b.length - 1) :
    (mulL K a b).getD p 0 = Sm (fun i => Sm (fun j => a.getD i 0 * b.getD j 0 * (if i + j = p then 1 else 0)) b.length) a.length % K := by
  have h := mulAll_sum K a b (fun t => if t = p then 1 else 0) hb a.length (Nat.le_refl _)
  rw [Sm_delta (fun t => (mulAll K a b a.length).getD t 0) p, if_pos hp] at h
  have hr := (mulAll_syms hK a b a.length).getD (by omega) p
  rw [Int.emod_eq_of_lt hr.1 hr.2] at h
  rw [mulL, h]
  congr 1
  refine Sm_congr _ fun i _ => ?_
  rw [← Sm_mulL]
  refine Sm_congr _ fun j _ => ?_
  rw [Int.mul_assoc]

/-- A product may be turned. -/
theorem mulL_comm (K : Nat) (hK : 1 ≤ K) (a b : List Int) (ha : 1 ≤ a.length) (hb : 1 ≤ b.length) : mulL K a b = mulL K b a := by
  have l1 := mulL_length K a b
  have l2 := mulL_length K b a
  refine List.ext_getElem (by omega) fun p h1 h2 => ?_
  have e1 := mulL_at K hK a b hb p (by omega)
  have e2 := mulL_at K hK b a ha p (by omega)
  rw [Sm_swap] at e2
  have : (mulL K a b).getD p 0 = (mulL K b a).getD p 0 := by
    rw [e1, e2]
    congr 1
    refine Sm_congr _ fun i _ => Sm_congr _ fun j _ => ?_
    rw [Int.mul_comm (a.getD i 0), Nat.add_comm]
  simpa [List.getD, h1, h2] using this

theorem facs_sumT1 {K R : Nat} {f : List Int} (hK : 1 ≤ K) (hl : f.length = 2 * R + 1) (hs : Syms K f) : facs K R (sumT K f) = f := by
  by_cases h : 1 < K
  · exact facs_sumT h hl hs
  · obtain rfl : K = 1 := by omega
    have e : f = List.replicate (2 * R + 1) 0 := List.eq_replicate_iff.2 ⟨hl, fun x hx => by have := hs x hx; omega⟩
    simp only [facs, facI, Nat.lt_irrefl, if_false]
    exact e.symm
theorem isSum_sumT1 {K R : Nat} {f : List Int} (hK : 1 ≤ K) (hl : f.length = 2 * R + 1) (hs : Syms K f) : isSum K R (sumT K f) = true := by
  rw [isSum, facs_sumT1 hK hl hs]; simp

/-- Factors taken modulo k. -/
def modL (K : Nat) (f : List Int) (n : Nat) : List Int := (f.take n).map (· % (K : Int))
theorem modL_length (K : Nat) (f : List Int) (n : Nat) (h : n ≤ f.length) : (modL K f n).length = n := by simp [modL]; omega
theorem modL_syms {K : Nat} (hK : 1 ≤ K) (f : List Int) (n : Nat) : Syms K (modL K f n) := by
  intro x hx
  obtain ⟨y, _, rfl⟩ := List.mem_map.1 hx
  exact ⟨Int.emod_nonneg _ (by omega), Int.emod_lt_of_pos _ (by omega)⟩
theorem modL_succ (K : Nat) (f : List Int) (j : Nat) (h : j < f.length) : modL K f (j + 1) = modL K f j ++ [f[j] % (K : Int)] := by
  rw [modL, modL, take_snoc f j h, List.map_append]; rfl
/-- Being filled. -/
def modF (K : Nat) (f : List Int) (n j : Nat) : List Int := modL K f j ++ List.replicate (n - j) 0
theorem modF_length (K : Nat) (f : List Int) (n j : Nat) (hn : n ≤ f.length) (h : j ≤ n) : (modF K f n j).length = n := by
  rw [modF, List.length_append, modL_length K f j (by omega), List.length_replicate]; omega
theorem modF_set (K : Nat) (f : List Int) (n j : Nat) (hn : n ≤ f.length) (h : j < n) : (modF K f n j).set j (f[j]'(by omega) % (K : Int)) = modF K f n (j + 1) := by
  have hl := modL_length K f j (by omega)
  rw [modF, List.set_append_right _ _ (by omega), hl, Nat.sub_self, show n - j = (n - (j + 1)) + 1 by omega, List.replicate_succ, List.set_cons_zero, modF, modL_succ K f j (by omega), List.append_assoc]
  rfl
theorem tmod_twice {x : Int} {K : Nat} (hK : 1 ≤ K) : (x.tmod K + K).tmod K = x % K ∧ -4 * (K : Int) ≤ x.tmod K ∧ x.tmod K < K := by
  have h1 : -(K : Int) < x.tmod K := by have := Int.lt_tmod_of_pos x (show (0 : Int) < K by omega); omega
  have h2 : x.tmod K < K := Int.tmod_lt_of_pos x (by omega)
  refine ⟨?_, by omega, h2⟩
  rw [Int.tmod_eq_emod_of_nonneg (by omega)]
  have h3 := Int.mul_tdiv_add_tmod x K
  have h4 : x.tmod K = x - K * x.tdiv K := by omega
  rw [h4, show x - (K : Int) * x.tdiv K + K = x + K * (1 - x.tdiv K) by rw [Int.mul_sub]; omega, Int.add_mul_emod_self_left]
end Go.Proofs.YtmhiambkfdkkbaaGreatDoor

namespace Go.Proofs.YtmhiambkfdkkbaaGreatDoor

/-- The reference's symbol of window i. -/
def sumR (K : Nat) (f : List Int) (i : Nat) : Int := Sm (fun j => f.getD j 0 * (digs K f.length i).getD j 0) f.length % K
theorem sumT_range_eq {K : Nat} (hK : 1 ≤ K) (f : List Int) : sumT K f = (List.range (pw K f.length)).map (sumR K f) := by
  refine List.ext_getElem (by simp [sumT_length]) fun i h1 h2 => ?_
  have hi : i < pw K f.length := by rw [← sumT_length]; exact h1
  have h := sumT_at K f (digs K f.length i) (digs_length ..).symm (digs_syms hK _ _)
  rw [numW_digs hK _ _ hi] at h
  simp only [List.getElem_map, List.getElem_range]
  rw [sumR, ← h]
  simp [List.getD, h1]
theorem Sm_bound {K : Nat} (h4 : K ≤ 4) (u v : Nat → Int) (hu : ∀ j, 0 ≤ u j ∧ u j < K) (hv : ∀ j, 0 ≤ v j ∧ v j < K) (n : Nat) : 0 ≤ Sm (fun j => u j * v j) n ∧ Sm (fun j => u j * v j) n ≤ 9 * n := by
  induction n with
  | zero => simp [Sm]
  | succ n ih =>
    rw [Sm]
    have h1 := hu n
    have h2 := hv n
    have h3 : 0 ≤ u n * v n := Int.mul_nonneg h1.1 h2.1
    have h5 : u n * v n ≤ 3 * 3 := Int.mul_le_mul (by omega) (by omega) h2.1 (by omega)
    omega
theorem prod_bound {K : Nat} (h4 : K ≤ 4) {x y : Int} (hx : 0 ≤ x ∧ x < K) (hy : 0 ≤ y ∧ y < K) : 0 ≤ x * y ∧ x * y ≤ 9 := by
  have h5 : x * y ≤ 3 * 3 := Int.mul_le_mul (by omega) (by omega) hy.1 (by omega)
  exact ⟨Int.mul_nonneg hx.1 hy.1, by omega⟩

/-- What the reference tells of a sum: has every word a preimage? -/
def ontoR (k : Int) (f : List Int) : Bool := !((decide (k = 2 ∨ k = 4) && f.all fun x => x % 2 == 0) || (decide (k = 3) && f.all fun x => x % 3 == 0))
theorem cnt_zero (p : Int) (f : List Int) : mayOnto (cnt p f) = !(f.all fun x => x % p == 0) := by
  unfold mayOnto cnt
  induction f with
  | nil => rfl
  | cons x f ih =>
    rw [List.countP_cons, List.all_cons]
    by_cases h : x % p = 0
    · simp [h, ← ih]
    · have : (x % p == 0) = false := by simpa using h
      simp [h, this]
theorem ontoR_eq {k : Int} {f : List Int} : ontoR k f = wholeP mayOnto k f := by
  unfold ontoR wholeP primesP
  by_cases h : k = 2 ∨ k = 4
  · have h3 : ¬ k = 3 := by omega
    rw [if_pos h]
    simp [h, h3, cnt_zero]
  · rw [if_neg h]
    by_cases h3 : k = 3
    · rw [if_pos h3]
      simp [h3, cnt_zero]
    · rw [if_neg h3]
      simp [h, h3]

def allD (d : Nat) (f : List Int) : Bool := f.all fun x => x % (d : Int) == 0
theorem allD_snoc (d : Nat) (f : List Int) (x : Int) : allD d (f ++ [x]) = (allD d f && (x % (d : Int) == 0)) := by simp [allD]
theorem allD_four {f : List Int} (h : allD 4 f = true) : allD 2 f = true := by
  simp only [allD, List.all_eq_true, beq_iff_eq] at *
  intro x hx
  have := h x hx
  omega
theorem ontoR_false {K d : Nat} {f : List Int} (h4 : K ≤ 4) (h2 : 2 ≤ d) (hd : d ≤ K) (hk : K % d = 0) (ha : allD d f = true) : ontoR K f = false := by
  have hc : (K = 2 ∧ d = 2) ∨ (K = 3 ∧ d = 3) ∨ (K = 4 ∧ d = 2) ∨ (K = 4 ∧ d = 4) := by
    have hKc : K = 2 ∨ K = 3 ∨ K = 4 := by omega
    have hdc : d = 2 ∨ d = 3 ∨ d = 4 := by omega
    rcases hKc with rfl | rfl | rfl <;> rcases hdc with rfl | rfl | rfl <;> simp_all
  rcases hc with ⟨rfl, rfl⟩ | ⟨rfl, rfl⟩ | ⟨rfl, rfl⟩ | ⟨rfl, rfl⟩
  · simp only [allD] at ha; simp [ontoR]; simpa using ha
  · simp only [allD] at ha; simp [ontoR]; simpa using ha
  · simp only [allD] at ha; simp [ontoR]; simpa using ha
  · have ha := allD_four ha; simp only [allD] at ha; simp [ontoR]; simpa using ha
theorem ontoR_true {K : Nat} {f : List Int} (h1 : 1 ≤ K) (h4 : K ≤ 4) (h : ∀ d, 2 ≤ d → d ≤ K → ¬ (K % d = 0 ∧ allD d f = true)) : ontoR K f = true := by
  have hc : K = 1 ∨ K = 2 ∨ K = 3 ∨ K = 4 := by omega
  rcases hc with rfl | rfl | rfl | rfl
  · simp [ontoR]
  · have := h 2 (by omega) (by omega)
    simp [allD] at this
    simpa [ontoR] using this
  · have := h 3 (by omega) (by omega)
    simp [allD] at this
    simpa [ontoR] using this
  · have := h 2 (by omega) (by omega)
    simp [allD] at this
    simpa [ontoR] using this
theorem oneR_false {K p : Nat} {f : List Int} (h4 : K ≤ 4) (h1 : 1 ≤ K) (hp : p = 2 ∨ p = 3) (hk : K % p = 0) (hn : cnt p f ≠ 1) : wholeP mayOne K f = false := by
  have hc : (p = 2 ∧ (K = 2 ∨ K = 4)) ∨ (p = 3 ∧ K = 3) := by
    have : K = 1 ∨ K = 2 ∨ K = 3 ∨ K = 4 := by omega
    rcases this with rfl | rfl | rfl | rfl <;> rcases hp with rfl | rfl <;> simp_all
  have hm : mayOne (cnt p f) = false := by simp [mayOne]; omega
  rcases hc with ⟨rfl, rfl | rfl⟩ | ⟨rfl, rfl⟩ <;> simpa [wholeP, primesP] using hm
theorem oneR_true {K : Nat} {f : List Int} (h4 : K ≤ 4) (h1 : 1 ≤ K) (h : ∀ p, p = 2 ∨ p = 3 → K % p = 0 → cnt p f = 1) : wholeP mayOne K f = true := by
  have : K = 1 ∨ K = 2 ∨ K = 3 ∨ K = 4 := by omega
  rcases this with rfl | rfl | rfl | rfl
  · simp [wholeP, primesP]
  · have := h 2 (.inl rfl) rfl; simp [wholeP, primesP, mayOne] at *; omega
  · have := h 3 (.inr rfl) rfl; simp [wholeP, primesP, mayOne] at *; omega
  · have := h 2 (.inl rfl) rfl; simp [wholeP, primesP, mayOne] at *; omega
end Go.Proofs.YtmhiambkfdkkbaaGreatDoor

namespace Go.Proofs.YtmhiambkfdkkbaaGreatDoor
open Go.RowKit
set_option maxRecDepth 100000

/-- append(s, y) onto a list of one's own, in a region that draws. -/
theorem step_app1 {ops : Array Oper} {o : Oper} {a : Act} {w : World} {K : Act → World → Prop} {Q : Exit → Act → World → Prop} {Ep : Prop} (hgd : o.guard = none) (s x : Operand)
    (ho : o.op = .call { callee := .builtin .append, args := #[s, x], argTypes := #[22, 22] })
    (B : Nat) (v : Value) (xs : List Int) (y : Int) (b : Nat) (hs : a.eval s = v) (hx : a.eval x = .slice (some ⟨b, 0, none⟩) 1 1) (hown : OwnI B w v xs) (hc : w.cell? ⟨b, 0, none⟩ = some (.int .i64 y))
    (hlen : xs.length < 4398046511104) (hB : B ≤ w.heap.size)
    (h : ∀ v' w', OwnI B w' v' (xs ++ [y]) → Below B w w' → K (a.put o.dst v') w') :
    if Region.wanted o (yielded ops a.tmps) = true then Oper.wp Tryz.prog o a w K Q else Ep := by
  have hw : Region.wanted o (yielded ops a.tmps) = true := by simp [Region.wanted, hgd]
  rw [if_pos hw]
  obtain ⟨v', w', hr, h2, h3⟩ := run_app oneInts w B o.type v _ hown.toV ⟨b, 0, none⟩ 1 [.int .i64 y] (by simp) (fun j u hj => by
    obtain ⟨hj1, hj2⟩ := List.getElem?_eq_some_iff.1 hj
    obtain rfl : j = 0 := by simpa using hj1
    simp at hj2; subst hj2
    exact hc) (by simp [Value.oneCell']) (by simp; omega) hB
  rw [show ([.int .i64 y] : List Value).length = 1 from rfl] at hr
  unfold Oper.wp
  simp [execOp, ho, resolve, invoke, builtin, hs, hx, hr, Result.andThen]
  have ho' : OwnI B w' v' (xs ++ [y]) := OwnV.toI (by simpa using h2)
  rcases h3 with ⟨_, hg⟩ | ⟨_, hg⟩
  · exact h v' w' ho' ((Below.refl _ _).grown hg hB (fun k hk => (hown.lt k hk).1))
  · exact h v' w' ho' ((Below.refl _ _).grown hg hB (by intro k hk; cases hk))

theorem Box3.belowB {B : Nat} {w w' : World} {b : Nat} {x0 x1 x2 : Value} (h : Box3 w b x0 x1 x2) (hb : Below B w w') (hlt : b < B) : Box3 w' b x0 x1 x2 := by
  obtain ⟨⟨h0, h1, h2⟩, f0, f1, f2⟩ := h
  exact ⟨⟨(hb.cell (p := ⟨b, 0, none⟩) hlt).trans h0, (hb.cell (p := ⟨b, 1, none⟩) hlt).trans h1, (hb.cell (p := ⟨b, 2, none⟩) hlt).trans h2⟩, (hb.frozen (p := ⟨b, 0, none⟩) hlt).trans f0, (hb.frozen (p := ⟨b, 1, none⟩) hlt).trans f1, (hb.frozen (p := ⟨b, 2, none⟩) hlt).trans f2⟩
theorem Box3.far {w : World} {b b' : Nat} {x0 x1 x2 : Value} (h : Box3 w b x0 x1 x2) (hne : b' ≠ b) (i : Nat) (u : Value) : Box3 (w.setCell ⟨b', i, none⟩ u) b x0 x1 x2 := by
  obtain ⟨⟨h0, h1, h2⟩, f0, f1, f2⟩ := h
  refine ⟨⟨?_, ?_, ?_⟩, ?_, ?_, ?_⟩
  · rw [World.cell?_setCell_far _ _ _ _ hne]; exact h0
  · rw [World.cell?_setCell_far _ _ _ _ hne]; exact h1
  · rw [World.cell?_setCell_far _ _ _ _ hne]; exact h2
  · simpa using f0
  · simpa using f1
  · simpa using f2
theorem Box3.set2 {w : World} {b : Nat} {x0 x1 x2 : Value} (h : Box3 w b x0 x1 x2) (u : Value) : Box3 (w.setCell ⟨b, 2, none⟩ u) b x0 x1 u := by
  obtain ⟨⟨h0, h1, h2⟩, f0, f1, f2⟩ := h
  refine ⟨⟨?_, ?_, World.cell?_setCell_same _ _ _ h2⟩, ?_, ?_, ?_⟩
  · rw [World.cell?_setCell_other _ _ _ _ (by simp)]; exact h0
  · rw [World.cell?_setCell_other _ _ _ _ (by simp)]; exact h1
  · simpa using f0
  · simpa using f1
  · simpa using f2

end Go.Proofs.YtmhiambkfdkkbaaGreatDoor

namespace Go.Proofs.YtmhiambkfdkkbaaGreatDoor
open Go.RowKit
set_option maxRecDepth 100000

end Go.Proofs.YtmhiambkfdkkbaaGreatDoor

namespace Go.Proofs.YtmhiambkfdkkbaaGreatDoor
open Go.RowKit
set_option maxRecDepth 100000

end Go.Proofs.YtmhiambkfdkkbaaGreatDoor

namespace Go.Proofs.YtmhiambkfdkkbaaGreatDoor
open Go.RowKit
set_option maxRecDepth 100000

/-- What Onto, One answer. -/
def toldP (may : Int → Bool) (k : Int) (f : List Int) : Bool := if factP k f = none then wholeP may k f else false
theorem factP_none {k : Int} {f : List Int} (h : factP k f = none) : 1 ≤ k ∧ k ≤ 4 ∧ oddP f.length = true ∧ Syms k f := by
  unfold factP at h
  by_cases hk : k < 1 ∨ 4 < k
  · rw [if_pos hk] at h; cases h
  rw [if_neg hk] at h
  cases ho : oddP f.length
  · rw [ho, if_pos rfl] at h; cases h
  · rw [ho, if_neg (by decide)] at h
    exact ⟨by omega, by omega, rfl, numP_none h⟩

end Go.Proofs.YtmhiambkfdkkbaaGreatDoor

namespace Go.Proofs.YtmhiambkfdkkbaaGreatDoor
open Go.RowKit
set_option maxRecDepth 100000

theorem EOwn.drew {B : Nat} {w : World} {t : PErr} {v : Value} (h : EOwn B w t v) : EOwn B w.drew t v := by
  match t, h with
  | none, h => exact h
  | some (n, l), h => exact h
theorem factP_num {k : Int} {f : List Int} {t : Int × List (ByteArray × Int)} (h : factP k f = some t) : 1 ≤ t.1 ∧ t.1 ≤ 11 ∧ t.2.length = 1 := by
  unfold factP numP fresh at h
  split at h
  · cases h; decide
  · split at h
    · cases h; decide
    · split at h
      · cases h
      · cases h; exact ⟨by simp, by simp, rfl⟩

end Go.Proofs.YtmhiambkfdkkbaaGreatDoor

namespace Go.Proofs.YtmhiambkfdkkbaaGreatDoor
open Go.RowKit
set_option maxRecDepth 100000

end Go.Proofs.YtmhiambkfdkkbaaGreatDoor

namespace Go.Proofs.YtmhiambkfdkkbaaGreatDoor
open Go.RowKit
set_option maxRecDepth 100000

theorem fresh_fine {op : ByteArray} {at_ n : Int} (h1 : 1 ≤ n) (h2 : n ≤ 11) : (fresh op at_ n).Fine := ⟨h1, h2, by simp⟩
theorem checkP_num {k R : Int} {xs : List Int} {t : Int × List (ByteArray × Int)} (h : checkP k R xs = some t) : t.1 = 1 ∧ t.2.length = 1 := by
  unfold checkP fresh at h
  split at h
  · cases h; exact ⟨rfl, rfl⟩
  · split at h
    · cases h; exact ⟨rfl, rfl⟩
    · split at h
      · cases h; exact ⟨rfl, rfl⟩
      · split at h
        · cases h
        · cases h; exact ⟨rfl, rfl⟩

theorem under_check_fine (op : ByteArray) (k R : Int) (T : List Int) : (under op 0 (checkP k R T)).Fine := by
  cases hc : checkP k R T with
  | none => trivial
  | some t =>
    obtain ⟨n, l⟩ := t
    have := checkP_num hc
    simp only at this
    exact ⟨by omega, by omega, by simp; omega⟩
end Go.Proofs.YtmhiambkfdkkbaaGreatDoor

namespace Go.Proofs.YtmhiambkfdkkbaaGreatDoor
open Go.RowKit
set_option maxRecDepth 100000

theorem sizeInt1 : (Tryz.prog.info? 3).map (·.size) = some 1 := by kernel_rfl

theorem splice_take {α : Type} (C ys : List α) (off n : Nat) (h : off + ys.length ≤ n) (hn : n ≤ C.length) :
    (C.take off ++ ys ++ C.drop (off + ys.length)).take n = (C.take n).take off ++ ys ++ (C.take n).drop (off + ys.length) := by
  have hl : (C.take off ++ ys).length = off + ys.length := by simp; omega
  rw [List.take_append, List.take_of_length_le (by omega), hl, List.drop_take, List.take_take, Nat.min_eq_left (by omega)]

/-- copy(d, u), d at place off of an owned slice. -/
theorem run_copyI {w : World} {B : Nat} {v u d : Value} {xs ys : List Int} (off : Nat) (ty : TypeId) (dp : Option Addr) (dLen dCap : Nat) (hown : OwnI B w v xs) (hu : IntsAt w u ys) (hd : d = .slice dp dLen dCap)
    (hdl : ys.length ≤ dLen) (hfit : off + ys.length ≤ xs.length) (hdp : 0 < ys.length → dp = some (valAt v off)) :
    ∃ w', (Builtin.copy_ #[22, 22] ty #[d, u]).run Tryz.prog w = .ok (.int .i64 ys.length) w' ∧ OwnI B w' v (xs.take off ++ ys ++ xs.drop (off + ys.length)) ∧ Below B w w' ∧ w.grownBy w' v.ownBlock := by
  subst hd
  obtain ⟨sp, sCap, rfl, h1, h2, h3, h4⟩ := hu
  by_cases h0 : ys.length = 0
  · obtain rfl : ys = [] := List.eq_nil_of_length_eq_zero h0
    have hr := run_copy_none (P := Tryz.prog) w 22 22 ty 3 dp sp dLen dCap 0 sCap uInts sizeInt1 (by simp)
    exact ⟨w, hr, by simpa using hown, Below.refl _ _, World.grownBy.refl _ _⟩
  · obtain rfl := hdp (by omega)
    cases sp with
    | none => have := h3 rfl; omega
    | some p =>
      rcases hown.2 with ⟨rfl, hn⟩ | ⟨g, cap, cur, rfl, hb, hg, hn, hm, hcs, ht⟩
      · omega
      · rw [valAt_row]
        have hsrc : ∀ j u, (ys.map (Value.int .i64))[j]? = some u → w.cell? (p.add j) = some u := by
          intro j u hj
          have hjl : j < ys.length := by have := (List.getElem?_eq_some_iff.1 hj).1; simpa using this
          have := h4 j hjl
          simp only [valAt] at this
          rw [this, ← hj]; simp [hjl]
        have hcl : cur.toList.length = cap := by rw [Array.length_toList, hcs]; omega
        have hr := run_copy_row (P := Tryz.prog) w 22 22 ty 3 g off dLen dCap p ys.length sCap cur 3 (ys.map (.int .i64)) uInts sizeInt1 hg (by simp; exact (Nat.min_eq_left hdl).symm) hsrc (by rw [hcs]; simp; omega) (ints_oneCell _ _)
        rw [show goInt (ys.map (Value.int .i64)).length = .int .i64 ys.length by rw [List.length_map]; rfl] at hr
        have hst : w.grownBy (w.setRow g (cur.toList.take off ++ ys.map (Value.int .i64) ++ cur.toList.drop (off + (ys.map (Value.int .i64)).length)).toArray) (some g) :=
          ⟨rfl, rfl, rfl, by simp, fun k _ hk => setRow_other w g k _ (fun e => hk (by simp [e]))⟩
        refine ⟨_, hr, ?_, (Below.refl _ _).grown hst (by have := (Array.getElem?_eq_some_iff.1 hg).1; omega) (by intro k hk; simp at hk; omega), hst⟩
        have hlen : (xs.take off ++ ys ++ xs.drop (off + ys.length)).length = xs.length := by simp; omega
        refine ⟨by simp, .inr ⟨g, cap, _, by rw [hlen], hb, setRow_heap w g cur _ _ _ hg, by rw [hlen]; exact hn, hm, ?_, ?_⟩⟩
        · simp only [List.size_toArray, List.length_append, List.length_take, List.length_drop, List.length_map, hcl]; omega
        · rw [hlen]
          have e := splice_take cur.toList (ys.map (Value.int .i64)) off xs.length (by simpa using hfit) (by omega)
          rw [Nat.mul_one] at ht ⊢
          rw [e, ht]
          simp [List.map_take, List.map_drop]

/-- copy(v, u), v owned and no shorter. -/
theorem run_copy0 {w : World} {B : Nat} {v u : Value} {xs ys : List Int} (ty : TypeId) (hown : OwnI B w v xs) (hu : IntsAt w u ys) (hfit : ys.length ≤ xs.length) :
    ∃ w', (Builtin.copy_ #[22, 22] ty #[v, u]).run Tryz.prog w = .ok (.int .i64 ys.length) w' ∧ OwnI B w' v (ys ++ xs.drop ys.length) ∧ Below B w w' ∧ w.grownBy w' v.ownBlock := by
  obtain ⟨a, cap, e, _⟩ := hown.at
  have := run_copyI 0 ty a xs.length cap hown hu e hfit (by omega) (by
    intro h0
    rcases hown.2 with ⟨rfl, hn⟩ | ⟨g, cap', cur, rfl, _⟩
    · omega
    · simp at e; obtain ⟨rfl, -⟩ := e; rw [valAt_row])
  simpa using this

/-- A slice cut to its first h elements. -/
def preV (v : Value) (h : Nat) : Value := match v with | .slice a _ c => .slice a h c | v => v
theorem preV_at (v : Value) (h i : Nat) : valAt (preV v h) i = valAt v i := by
  cases v with
  | slice a n c => cases a <;> rfl
  | _ => rfl

theorem run_pre {a : Option Addr} {n c : Nat} (h : Nat) (hh : h ≤ c) (w : World) :
    (Instr.slice 22 (.slice a n c) none (some (.int .i64 h)) none).run Tryz.prog w = .ok (preV (.slice a n c) h) w := by
  rw [run_slice_h w 22 a n c uIntsE .i64 h (by omega) (by omega), eInts, sInt]
  simp only [Result.andThen, sliced, preV]
  rw [Int.toNat_natCast]
  have e : Option.map (fun x => x.add 0) a = a := by cases a <;> simp [Addr.add]
  simp [e]

theorem IntsAt.pre {w : World} {v : Value} {xs : List Int} (h : IntsAt w v xs) (k : Nat) (hk : k ≤ xs.length) : IntsAt w (preV v k) (xs.take k) := by
  obtain ⟨a, cap, rfl, h1, h2, h3, h4⟩ := h
  have hl : (xs.take k).length = k := by simp; omega
  refine ⟨a, cap, by rw [hl]; rfl, by omega, h2, h3, fun i hi => ?_⟩
  rw [preV_at, h4 i (by omega)]
  simp
theorem OwnI.runPre {B : Nat} {w : World} {v : Value} {xs : List Int} (h : OwnI B w v xs) (k : Nat) (hk : k ≤ xs.length) (w' : World) :
    (Instr.slice 22 v none (some (.int .i64 k)) none).run Tryz.prog w' = .ok (preV v k) w' := by
  obtain ⟨a, cap, rfl, h1, _⟩ := h.at
  exact run_pre k (by omega) w'
theorem IntsAt.runPre {w : World} {v : Value} {xs : List Int} (h : IntsAt w v xs) (k : Nat) (hk : k ≤ xs.length) (w' : World) :
    (Instr.slice 22 v none (some (.int .i64 k)) none).run Tryz.prog w' = .ok (preV v k) w' := by
  obtain ⟨a, cap, rfl, h1, _⟩ := h
  exact run_pre k (by omega) w'

/-- Numbers lent: two marks lie in the room behind them. -/
def LentI (B : Nat) (w : World) (m : Value) (xs : List Int) : Prop := ∃ v, m = preV v xs.length ∧ OwnI B w v (xs ++ [7001, 7002])
theorem LentI.at {B : Nat} {w : World} {m : Value} {xs : List Int} (h : LentI B w m xs) : IntsAt w m xs := by
  obtain ⟨v, rfl, ho⟩ := h
  have := ho.at.pre xs.length (by simp)
  rwa [List.take_left'] at this
  rfl
theorem LentI.below {B : Nat} {w w' : World} {m : Value} {xs : List Int} (h : LentI B w m xs) (hb : Below w.heap.size w w') : LentI B w' m xs := by
  obtain ⟨v, e, ho⟩ := h
  exact ⟨v, e, ho.below hb⟩
/-- What is kept below a block number. -/
theorem OwnI.belowB {B B' : Nat} {w w' : World} {v : Value} {xs : List Int} (h : OwnI B w v xs) (hb : Below B' w w') (hlt : ∀ k, v.ownBlock = some k → k < B') : OwnI B w' v xs := by
  refine ⟨h.1, ?_⟩
  rcases h.2 with h2 | ⟨g, cap, cur, rfl, hB, hg, r⟩
  · exact .inl h2
  · exact .inr ⟨g, cap, cur, rfl, hB, by rw [hb.block g (hlt g rfl)]; exact hg, r⟩
theorem LentI.belowB {B B' : Nat} {w0 w w' : World} {m : Value} {xs : List Int} (h : LentI B w m xs) (h0 : LentI B w0 m xs) (hs : w0.heap.size ≤ B') (hb : Below B' w w') : LentI B w' m xs := by
  obtain ⟨v, rfl, ho⟩ := h
  obtain ⟨v0, e0, ho0⟩ := h0
  refine ⟨v, rfl, ho.belowB hb fun k hk => ?_⟩
  have hbk : v0.ownBlock = v.ownBlock := by
    obtain ⟨a, n, c, rfl⟩ := ho.at.shape
    obtain ⟨a', n', c', rfl⟩ := ho0.at.shape
    simp [preV] at e0
    obtain ⟨rfl, rfl⟩ := e0
    cases a <;> rfl
  have := (ho0.lt k (hbk.trans hk)).2
  omega

theorem lent_any (v : Value) (xs : List Int) (w : World) (h : IntsAt w v xs) (hl : xs.length ≤ 17592186044414) :
    Calls Tryz.prog 12 #[v] w (Ret1 (fun x w' => LentI w.heap.size w' x xs) w) := by
  have hlen := h.len
  replace h := Lib.hid h
  go_enter Tryz.func12, Tryz.ntmps12
  go_wp2_with (at_make; refine wpl_make rfl _ _ rfl _ rfl rfl (by omega) (by omega) ?_)
  intro m w1 ho hb
  have hn : ((xs.length : Int) + 2).toNat = xs.length + 2 := by omega
  rw [hn] at ho
  clear hn
  obtain ⟨w2, hcp, ho2, hb2, _⟩ := run_copy0 3 ho (h.out.below hb) (by simp)
  have e1 : xs ++ (List.replicate (xs.length + 2) (0 : Int)).drop xs.length = xs ++ [0, 0] := by rw [List.drop_replicate, Nat.add_sub_cancel_left]; rfl
  rw [e1] at ho2
  clear e1
  have i1 := ho2.at.idx xs.length (by simp)
  have c1 := ho2.at.cell xs.length (by simp)
  have f1 := ho2.frz xs.length (by simp)
  have ho3 := ho2.set xs.length (by simp) 7001
  have hb3 := ho2.setBelow (hb.trans hb2) xs.length (by simp) (.int .i64 7001)
  have e2 : (xs ++ [0, 0]).set xs.length 7001 = xs ++ [7001, 0] := by simp
  rw [e2] at ho3
  have i2 : ∀ w', (Instr.indexAt 22 m (.int .i64 ((xs.length : Int) + 1))).run Tryz.prog w' = .ok (.pointer (some (valAt m (xs.length + 1)))) w' := by
    intro w'; exact ho3.at.idx (xs.length + 1) (by simp) w'
  have c2 := ho3.at.cell (xs.length + 1) (by simp)
  have f2 := ho3.frz (xs.length + 1) (by simp)
  have ho4 := ho3.set (xs.length + 1) (by simp) 7002
  have hb4 := Lib.hid (ho3.setBelow hb3 (xs.length + 1) (by simp) (.int .i64 7002))
  have e3 : (xs ++ [7001, 0]).set (xs.length + 1) 7002 = xs ++ [7001, 7002] := by simp
  rw [e3] at ho4
  have hre := ho4.runPre xs.length (by simp)
  replace ho4 := Lib.hid ho4
  clear e2 e3 ho2 ho3 ho hb hb2 hb3
  go_wp2
  go_ret
  exact ⟨_, rfl, hb4.out, m, rfl, ho4.out⟩

theorem LentI.full {B : Nat} {w : World} {m : Value} {xs : List Int} (h : LentI B w m xs) :
    ∃ v, OwnI B w v (xs ++ [7001, 7002]) ∧ ∀ w', (Instr.slice 22 m none (some (.int .i64 ((xs.length : Int) + 2))) none).run Tryz.prog w' = .ok v w' := by
  obtain ⟨v, rfl, ho⟩ := h
  refine ⟨v, ho, fun w' => ?_⟩
  obtain ⟨a, cap, rfl, h1, _⟩ := ho.at
  have := run_pre (a := a) (n := xs.length) (c := cap) (xs.length + 2) (by simpa using h1) w'
  have e : (xs ++ [7001, 7002]).length = xs.length + 2 := by simp
  rw [e]
  exact this

theorem kept_any (B : Nat) (m l : Value) (xs : List Int) (w : World) (h : LentI B w m xs) (k : IntsAt w l xs) (hl : xs.length ≤ 17592186044414) :
    Calls Tryz.prog 17 #[m, l] w (RetB true w) := by
  have hlen := k.len
  obtain ⟨v, ho, hfull⟩ := h.full
  have i1 := ho.at.idx xs.length (by simp)
  have c1 := ho.at.cell xs.length (by simp)
  have i2 : ∀ w', (Instr.indexAt 22 v (.int .i64 ((xs.length : Int) + 1))).run Tryz.prog w' = .ok (.pointer (some (valAt v (xs.length + 1)))) w' := by
    intro w'; exact ho.at.idx (xs.length + 1) (by simp) w'
  have c2 := ho.at.cell (xs.length + 1) (by simp)
  have e1 : (xs ++ [7001, 7002])[xs.length]'(by simp) = 7001 := by simp
  have e2 : (xs ++ [7001, 7002])[xs.length + 1]'(by simp) = 7002 := by simp
  rw [e1] at c1
  rw [e2] at c2
  clear ho e1 e2
  have hm := Lib.hid h.at
  replace k := Lib.hid k
  clear h
  go_enter Tryz.func17, Tryz.ntmps17
  go_wp2_with fail
  refine (ints_any m l xs xs _ hm.out k.out).mono ?_
  rintro e w' ⟨n, rfl, rfl⟩
  rw [show decide (xs = xs) = true by simp]
  go_wp2
  go_ret
  exact ⟨n, rfl, rfl⟩

end Go.Proofs.YtmhiambkfdkkbaaGreatDoor

namespace Go.Proofs.YtmhiambkfdkkbaaGreatDoor

/-- The factors that may be, the first i of them found. -/
def facU (K n : Nat) (xs : List Int) (i : Nat) : List Int := (List.range n).map fun j => if j < i then xs.getD (pw K (n - 1 - j)) 0 else 0
theorem facU_length (K n : Nat) (xs : List Int) (i : Nat) : (facU K n xs i).length = n := by simp [facU]
theorem facU_zero (K n : Nat) (xs : List Int) : facU K n xs 0 = List.replicate n 0 := by
  refine List.ext_getElem (by simp [facU]) fun j h1 h2 => ?_
  simp [facU]
theorem facU_succ (K n : Nat) (xs : List Int) (i : Nat) : (facU K n xs i).set i (xs.getD (pw K (n - 1 - i)) 0) = facU K n xs (i + 1) := by
  refine List.ext_getElem (by simp [facU]) fun j h1 h2 => ?_
  rw [List.getElem_set]
  simp only [facU, List.getElem_map, List.getElem_range]
  by_cases e : i = j
  · subst e; simp
  · rw [if_neg e]
    by_cases c : j < i
    · rw [if_pos c, if_pos (by omega)]
    · rw [if_neg c, if_neg (by omega)]
theorem facU_all {K R : Nat} (hK : 1 < K) (xs : List Int) : facU K (2 * R + 1) xs (2 * R + 1) = facs K R xs := by
  unfold facs facI facL facU
  rw [if_pos hK]
  refine List.map_congr_left fun j hj => ?_
  have := List.mem_range.1 hj
  rw [if_pos this, if_pos (by omega)]
theorem facs_one {K R : Nat} (hK : ¬ 1 < K) (xs : List Int) : facs K R xs = List.replicate (2 * R + 1) 0 := by
  unfold facs facI
  rw [if_neg hK]
end Go.Proofs.YtmhiambkfdkkbaaGreatDoor

namespace Go.Proofs.YtmhiambkfdkkbaaGreatDoor
open Go.RowKit
set_option maxRecDepth 100000

end Go.Proofs.YtmhiambkfdkkbaaGreatDoor

namespace Go.Proofs.YtmhiambkfdkkbaaGreatDoor

theorem numW_cons (K : Nat) (s : Int) (u : List Int) : numW K (s :: u) = s.toNat * pw K u.length + numW K u := by
  have := numW_append K [s] u
  simpa [numW] using this

theorem digs_numW {K : Nat} (hK : 1 ≤ K) (w : List Int) (h : Syms K w) : digs K w.length (numW K w) = w := by
  induction hn : w.length generalizing w with
  | zero => obtain rfl := List.eq_nil_of_length_eq_zero hn; rfl
  | succ n ih =>
    have hne : w ≠ [] := by intro e; subst e; simp at hn
    obtain ⟨b, x, rfl⟩ : ∃ b x, w = b ++ [x] := ⟨w.dropLast, w.getLast hne, (List.dropLast_concat_getLast hne).symm⟩
    have hb : b.length = n := by simpa using hn
    have hx := h x (by simp)
    have hxn : x.toNat < K := by omega
    have := ih b (fun y hy => h y (by simp [hy])) hb
    rw [digs, numW_snoc]
    rw [show (numW K b * K + x.toNat) / K = numW K b by rw [Nat.mul_comm, Nat.mul_add_div (by omega), Nat.div_eq_of_lt hxn, Nat.add_zero], this,
      show (numW K b * K + x.toNat) % K = x.toNat by rw [Nat.mul_comm, Nat.mul_add_mod, Nat.mod_eq_of_lt hxn]]
    congr 2
    omega

/-- The mirrored table. -/
def mirT (K n : Nat) (T : List Int) : List Int := (List.range T.length).map fun i => T.getD (numW K (digs K n i).reverse) 0
theorem mirT_length (K n : Nat) (T : List Int) : (mirT K n T).length = T.length := by simp [mirT]
theorem mirT_syms {K : Nat} (hK : 1 ≤ K) (n : Nat) {T : List Int} (h : Syms K T) : Syms K (mirT K n T) := by
  intro y hy
  obtain ⟨i, _, rfl⟩ := List.mem_map.1 hy
  exact h.getD (by omega) _
theorem mirT_at {K n : Nat} (hK : 1 ≤ K) {T : List Int} (hT : T.length = pw K n) (w : List Int) (hw : Syms K w) (hl : w.length = n) : (mirT K n T).getD (numW K w) 0 = T.getD (numW K w.reverse) 0 := by
  have hlt := numW_lt w hw
  rw [hl, ← hT] at hlt
  have : (mirT K n T).getD (numW K w) 0 = T.getD (numW K (digs K n (numW K w)).reverse) 0 := by simp [mirT, List.getD, hlt]
  rw [this, ← hl, digs_numW hK w hw]
theorem mirT_ok {K R : Nat} {T : List Int} (h : RuleOk K R T) : RuleOk K R (mirT K (2 * R + 1) T) :=
  ⟨h.k1, h.k4, h.r3, by rw [mirT_length]; exact h.len, mirT_syms h.k1 _ h.syms⟩

/-- edenref19.right's answer. -/
def rightR (K : Nat) (T : List Int) : Bool := decide (∀ i, i < T.length → ∀ j, j < T.length → i < j → j / K = i / K → T.getD i 0 ≠ T.getD j 0)
theorem rightR_false {K : Nat} {T : List Int} (i j : Nat) (hj : j < T.length) (h : i < j) (hq : j / K = i / K) (e : T.getD i 0 = T.getD j 0) : rightR K T = false := by
  rw [rightR, decide_eq_false_iff_not]
  intro hh
  exact hh i (by omega) j hj h hq e
theorem rightR_true {K : Nat} {T : List Int} (h : ∀ i, i < T.length → ∀ j, j < T.length → i < j → j / K = i / K → T.getD i 0 ≠ T.getD j 0) : rightR K T = true := by
  rw [rightR, decide_eq_true_iff]; exact h

theorem bits2 : ∀ a b : Fin 2, ((0 ||| 2 ^ a.val) ||| 2 ^ b.val == 2 ^ 2 - 1) = decide (a ≠ b) := by decide
theorem bits3 : ∀ a b c : Fin 3, (((0 ||| 2 ^ a.val) ||| 2 ^ b.val) ||| 2 ^ c.val == 2 ^ 3 - 1) = decide (a ≠ b ∧ a ≠ c ∧ b ≠ c) := by decide
theorem bits4 : ∀ a b c d : Fin 4, ((((0 ||| 2 ^ a.val) ||| 2 ^ b.val) ||| 2 ^ c.val) ||| 2 ^ d.val == 2 ^ 4 - 1) = decide (a ≠ b ∧ a ≠ c ∧ a ≠ d ∧ b ≠ c ∧ b ≠ d ∧ c ≠ d) := by decide +kernel

theorem fullP_iff {K : Nat} (h1 : 1 ≤ K) (h4 : K ≤ 4) {T : List Int} (hT : Syms K T) (W i : Nat) :
    fullP K T W i = true ↔ ∀ s t, s < t → t < K → T.getD (i + s * W) 0 ≠ T.getD (i + t * W) 0 := by
  have hx : ∀ s, ∃ a : Fin K, T.getD (i + s * W) 0 = (a.val : Int) := fun s => by
    have := hT.getD (by omega) (i + s * W)
    exact ⟨⟨(T.getD (i + s * W) 0).toNat, by omega⟩, by simp only []; omega⟩
  have hk : K = 1 ∨ K = 2 ∨ K = 3 ∨ K = 4 := by omega
  unfold fullP
  rcases hk with rfl | rfl | rfl | rfl
  · obtain ⟨a, ha⟩ := hx 0
    simp only [seenP, ha, Int.toNat_natCast]
    have : a.val = 0 := by omega
    rw [this]
    exact ⟨fun _ s t h h' => by omega, fun _ => rfl⟩
  · obtain ⟨a, ha⟩ := hx 0
    obtain ⟨b, hb⟩ := hx 1
    simp only [seenP, ha, hb, Int.toNat_natCast, bits2, decide_eq_true_iff]
    constructor
    · intro h s t hst ht
      obtain rfl : s = 0 := by omega
      obtain rfl : t = 1 := by omega
      rw [ha, hb]
      intro e; exact h (Fin.ext (by omega))
    · intro h e
      have := h 0 1 (by omega) (by omega)
      rw [ha, hb, e] at this; exact this rfl
  · obtain ⟨a, ha⟩ := hx 0
    obtain ⟨b, hb⟩ := hx 1
    obtain ⟨c, hc⟩ := hx 2
    simp only [seenP, ha, hb, hc, Int.toNat_natCast, bits3, decide_eq_true_iff]
    constructor
    · rintro ⟨n1, n2, n3⟩ s t hst ht
      have : (s = 0 ∧ t = 1) ∨ (s = 0 ∧ t = 2) ∨ (s = 1 ∧ t = 2) := by omega
      rcases this with ⟨rfl, rfl⟩ | ⟨rfl, rfl⟩ | ⟨rfl, rfl⟩
      · rw [ha, hb]; intro e; exact n1 (Fin.ext (by omega))
      · rw [ha, hc]; intro e; exact n2 (Fin.ext (by omega))
      · rw [hb, hc]; intro e; exact n3 (Fin.ext (by omega))
    · intro h
      refine ⟨fun e => ?_, fun e => ?_, fun e => ?_⟩
      · have := h 0 1 (by omega) (by omega); rw [ha, hb, e] at this; exact this rfl
      · have := h 0 2 (by omega) (by omega); rw [ha, hc, e] at this; exact this rfl
      · have := h 1 2 (by omega) (by omega); rw [hb, hc, e] at this; exact this rfl
  · obtain ⟨a, ha⟩ := hx 0
    obtain ⟨b, hb⟩ := hx 1
    obtain ⟨c, hc⟩ := hx 2
    obtain ⟨d, hd⟩ := hx 3
    simp only [seenP, ha, hb, hc, hd, Int.toNat_natCast, bits4, decide_eq_true_iff]
    constructor
    · rintro ⟨n1, n2, n3, n4, n5, n6⟩ s t hst ht
      have : (s = 0 ∧ t = 1) ∨ (s = 0 ∧ t = 2) ∨ (s = 0 ∧ t = 3) ∨ (s = 1 ∧ t = 2) ∨ (s = 1 ∧ t = 3) ∨ (s = 2 ∧ t = 3) := by omega
      rcases this with ⟨rfl, rfl⟩ | ⟨rfl, rfl⟩ | ⟨rfl, rfl⟩ | ⟨rfl, rfl⟩ | ⟨rfl, rfl⟩ | ⟨rfl, rfl⟩
      · rw [ha, hb]; intro e; exact n1 (Fin.ext (by omega))
      · rw [ha, hc]; intro e; exact n2 (Fin.ext (by omega))
      · rw [ha, hd]; intro e; exact n3 (Fin.ext (by omega))
      · rw [hb, hc]; intro e; exact n4 (Fin.ext (by omega))
      · rw [hb, hd]; intro e; exact n5 (Fin.ext (by omega))
      · rw [hc, hd]; intro e; exact n6 (Fin.ext (by omega))
    · intro h
      refine ⟨fun e => ?_, fun e => ?_, fun e => ?_, fun e => ?_, fun e => ?_, fun e => ?_⟩
      · have := h 0 1 (by omega) (by omega); rw [ha, hb, e] at this; exact this rfl
      · have := h 0 2 (by omega) (by omega); rw [ha, hc, e] at this; exact this rfl
      · have := h 0 3 (by omega) (by omega); rw [ha, hd, e] at this; exact this rfl
      · have := h 1 2 (by omega) (by omega); rw [hb, hc, e] at this; exact this rfl
      · have := h 1 3 (by omega) (by omega); rw [hb, hd, e] at this; exact this rfl
      · have := h 2 3 (by omega) (by omega); rw [hc, hd, e] at this; exact this rfl

theorem unlikeP_iff {K : Nat} {T : List Int} {W : Nat} : unlikeP K T W = true ↔ ∀ i, i < T.length → i / W % K = 0 → fullP K T W i = true :=
  ⟨fun h i => unlikeP_full h i, unlikeP_true⟩

theorem mul_add_lt {K q s m : Nat} (hs : s < K) (hq : q < m) : q * K + s < m * K := by
  have := Nat.mul_le_mul_right K (show q + 1 ≤ m from hq)
  rw [Nat.succ_mul] at this
  omega
theorem div_mk {K q s : Nat} (hs : s < K) : (q * K + s) / K = q := by
  rw [Nat.mul_comm, Nat.mul_add_div (by omega), Nat.div_eq_of_lt hs, Nat.add_zero]
theorem mod_mk {K q s : Nat} (hs : s < K) : (q * K + s) % K = s := by
  rw [Nat.mul_comm, Nat.mul_add_mod, Nat.mod_eq_of_lt hs]

/-- The last place permutes: the program's test is the document's. -/
theorem unlike_right {K R : Nat} {T : List Int} (h : RuleOk K R T) : unlikeP K T 1 = rightR K T := by
  have h1 := h.k1
  have hl := h.half.2
  rw [Bool.eq_iff_iff, unlikeP_iff, rightR, decide_eq_true_iff]
  constructor
  · intro hu i hi j hj hij hq
    have e1 := Nat.div_add_mod' i K
    have e2 := Nat.div_add_mod' j K
    have m1 := Nat.mod_lt i (show K > 0 by omega)
    have m2 := Nat.mod_lt j (show K > 0 by omega)
    rw [hq] at e2
    have := (fullP_iff h1 h.k4 h.syms 1 (i / K * K)).1 (hu _ (by omega) (by rw [Nat.div_one, Nat.mul_mod_left])) (i % K) (j % K) (by omega) m2
    rwa [Nat.mul_one, Nat.mul_one, e1, e2] at this
  · intro hr i hi hm
    rw [Nat.div_one] at hm
    obtain ⟨q, rfl⟩ : ∃ q, i = q * K := ⟨i / K, by have := Nat.div_add_mod' i K; omega⟩
    have hq : q < pw K (2 * R) := Nat.lt_of_mul_lt_mul_right (a := K) (by rw [← hl]; exact hi)
    refine (fullP_iff h1 h.k4 h.syms 1 _).2 fun s t hst ht => ?_
    have l2 := mul_add_lt ht hq
    rw [← hl] at l2
    have := hr (q * K + s) (by omega) (q * K + t) l2 (by omega) (by rw [div_mk ht, div_mk (by omega)])
    rwa [Nat.mul_one, Nat.mul_one]

theorem digs_snoc {K : Nat} (n x : Nat) : digs K (n + 1) x = digs K n (x / K) ++ [((x % K : Nat) : Int)] := rfl

/-- The first place permutes just if the mirrored rule's last does. -/
theorem unlike_left {K R : Nat} {T : List Int} (h : RuleOk K R T) : unlikeP K T (T.length / K) = rightR K (mirT K (2 * R + 1) T) := by
  have h1 := h.k1
  obtain ⟨hW, hl⟩ := h.half
  have hMl := mirT_length K (2 * R + 1) T
  have hp := pw_pos (K := K) (2 * R) h1
  rw [hW, Bool.eq_iff_iff, unlikeP_iff, rightR, decide_eq_true_iff, hMl]
  have key : ∀ q s, q < pw K (2 * R) → s < K → (mirT K (2 * R + 1) T).getD (q * K + s) 0 = T.getD (numW K (digs K (2 * R) q).reverse + s * pw K (2 * R)) 0 := by
    intro q s hq hs
    have hsy : Syms K (digs K (2 * R) q ++ [(s : Int)]) := by
      intro y hy
      rcases List.mem_append.1 hy with hy | hy
      · exact digs_syms h1 _ _ y hy
      · rw [List.mem_singleton] at hy; subst hy; omega
    have := mirT_at h1 h.len (digs K (2 * R) q ++ [(s : Int)]) hsy (by simp [digs_length])
    rw [numW_snoc, numW_digs h1 _ _ hq, Int.toNat_natCast, List.reverse_append, List.reverse_singleton, List.singleton_append, numW_cons, Int.toNat_natCast, List.length_reverse, digs_length, Nat.add_comm (s * _)] at this
    exact this
  have rsy : ∀ q, Syms K (digs K (2 * R) q).reverse := fun q y hy => digs_syms h1 _ _ y (List.mem_reverse.1 hy)
  have rlt : ∀ q, numW K (digs K (2 * R) q).reverse < pw K (2 * R) := fun q => by
    have := numW_lt _ (rsy q)
    rwa [List.length_reverse, digs_length] at this
  constructor
  · intro hu i hi j hj hij hq
    have e1 := Nat.div_add_mod' i K
    have e2 := Nat.div_add_mod' j K
    have m1 := Nat.mod_lt i (show K > 0 by omega)
    have m2 := Nat.mod_lt j (show K > 0 by omega)
    rw [hq] at e2
    have hqi : i / K < pw K (2 * R) := by rw [Nat.div_lt_iff_lt_mul (by omega), ← hl]; exact hi
    have a1 := key (i / K) (i % K) hqi m1
    have a2 := key (i / K) (j % K) hqi m2
    rw [e1] at a1
    rw [e2] at a2
    rw [a1, a2]
    have lt := rlt (i / K)
    refine (fullP_iff h1 h.k4 h.syms (pw K (2 * R)) _).1 (hu _ ?_ ?_) (i % K) (j % K) (by omega) m2
    · rw [hl]; have := Nat.mul_le_mul_left (pw K (2 * R)) h1; omega
    · rw [Nat.div_eq_of_lt lt, Nat.zero_mod]
  · intro hr i hi hm
    have hiW : i < pw K (2 * R) := by
      have hdl : i / pw K (2 * R) < K := by rw [Nat.div_lt_iff_lt_mul (by omega), Nat.mul_comm, ← hl]; exact hi
      rw [Nat.mod_eq_of_lt hdl] at hm
      have := Nat.div_add_mod i (pw K (2 * R))
      have := Nat.mod_lt i (show pw K (2 * R) > 0 by omega)
      rw [hm] at *
      omega
    refine (fullP_iff h1 h.k4 h.syms (pw K (2 * R)) i).2 fun s t hst ht => ?_
    have hq := rlt i
    have a1 := key _ s hq (by omega)
    have a2 := key _ t hq ht
    have back : numW K (digs K (2 * R) (numW K (digs K (2 * R) i).reverse)).reverse = i := by
      have := digs_numW h1 _ (rsy i)
      rw [List.length_reverse, digs_length] at this
      rw [this, List.reverse_reverse, numW_digs h1 _ _ hiW]
    rw [back] at a1 a2
    rw [← a1, ← a2]
    have l2 := mul_add_lt ht hq
    rw [← hl] at l2
    exact hr _ (by omega) _ l2 (by omega) (by rw [div_mk ht, div_mk (by omega)])

/-- The symbols to the right, and the node behind them: the last 2 R symbols. -/
theorem num_shift {K : Nat} {u : List Int} {s : Int} (h : Syms K (u ++ [s])) : numW K ((u ++ [s]).drop 1) = numW K (u ++ [s]) % pw K u.length := by
  have hl : ((u ++ [s]).drop 1).length = u.length := by simp
  have := numW_mod (K := K) (u := (u ++ [s]).take 1) (v := (u ++ [s]).drop 1) (fun y hy => h y (List.mem_of_mem_drop hy))
  rw [List.take_append_drop, hl] at this
  exact this.symm
theorem rightP_syms {K : Nat} (hK : 1 ≤ K) (T : List Int) (node : Nat) (w : List Int) : Syms K (rightP K T node w) := by
  induction w generalizing node with
  | nil => intro y hy; cases hy
  | cons x w ih =>
    intro y hy
    rw [rightP, List.mem_cons] at hy
    rcases hy with rfl | hy
    · have := fit_lt hK T (node * K) 1 x; omega
    · exact ih _ y hy
theorem on_front {K R : Nat} {T : List Int} (hK : 1 ≤ K) (hW : T.length / K = pw K (2 * R)) (zs ys : List Int) (hz : Syms K zs) (hl : zs.length = 2 * R) :
    numW K ((zs ++ rightP K T (numW K zs) ys).drop ys.length) = rightN K T (numW K zs) ys := by
  induction hn : ys.length generalizing ys with
  | zero => obtain rfl := List.eq_nil_of_length_eq_zero hn; simp [rightP, rightN]
  | succ n ih =>
    have hne : ys ≠ [] := by intro e; subst e; simp at hn
    obtain ⟨b, x, rfl⟩ : ∃ b x, ys = b ++ [x] := ⟨ys.dropLast, ys.getLast hne, (List.dropLast_concat_getLast hne).symm⟩
    have hb : b.length = n := by simpa using hn
    have ih' := ih b hb
    rw [rightP_snoc, rightN_snoc, ← List.append_assoc, ← ih', hW]
    have hPl := rightP_length K T (numW K zs) b
    have hs := fit_lt hK T (numW K ((zs ++ rightP K T (numW K zs) b).drop n) * K) 1 x
    generalize fit K T (numW K ((zs ++ rightP K T (numW K zs) b).drop n) * K) 1 x = s at *
    have hu : Syms K (zs ++ rightP K T (numW K zs) b) := by
      intro y hy
      rcases List.mem_append.1 hy with hy | hy
      · exact hz y hy
      · exact rightP_syms hK _ _ _ y hy
    have hul : (zs ++ rightP K T (numW K zs) b).length = 2 * R + n := by simp [hPl, hl, hb]
    generalize zs ++ rightP K T (numW K zs) b = u at *
    have e : (u ++ [(s : Int)]).drop (n + 1) = (u.drop n ++ [(s : Int)]).drop 1 := by
      rw [← List.drop_drop, List.drop_append_of_le_length (by omega)]
    have hdl : (u.drop n).length = 2 * R := by simp; omega
    rw [e, num_shift, numW_snoc, hdl, Int.toNat_natCast]
    intro y hy
    rcases List.mem_append.1 hy with hy | hy
    · exact hu y (List.mem_of_mem_drop hy)
    · rw [List.mem_singleton] at hy; subst hy; omega

theorem fitP_congr {T M : List Int} {r1 W1 r2 W2 : Nat} (image : Int) (n s : Nat) (h : ∀ t, t < s + n → T.getD (r1 + t * W1) 0 = M.getD (r2 + t * W2) 0) : fitP T r1 W1 image n s = fitP M r2 W2 image n s := by
  induction n generalizing s with
  | zero => rfl
  | succ n ih => rw [fitP, fitP, h s (by omega), ih (s + 1) (fun t ht => h t (by omega))]

/-- The symbols to the left are those to the right by the mirrored rule, mirrored. -/
theorem left_mirror {K R : Nat} {T : List Int} (h : RuleOk K R T) (zs ys : List Int) (hz : Syms K zs) (hl : zs.length = 2 * R) :
    ∃ u, u.length = 2 * R ∧ Syms K u ∧ (leftS K T (numW K zs) ys).1 = numW K u ∧ rightN K (mirT K (2 * R + 1) T) (numW K zs.reverse) ys.reverse = numW K u.reverse ∧
      (leftS K T (numW K zs) ys).2 = (rightP K (mirT K (2 * R + 1) T) (numW K zs.reverse) ys.reverse).reverse := by
  have h1 := h.k1
  obtain ⟨hW, hlen⟩ := h.half
  have hMW : (mirT K (2 * R + 1) T).length / K = pw K (2 * R) := by rw [mirT_length]; exact hW
  induction ys with
  | nil => exact ⟨zs, hl, hz, rfl, rfl, rfl⟩
  | cons x w ih =>
    obtain ⟨u, hul, hu, e1, e2, e3⟩ := ih
    have hf : fit K T (numW K u) (T.length / K) x = fit K (mirT K (2 * R + 1) T) (numW K u.reverse * K) 1 x := by
      refine fitP_congr x K 0 fun t ht => ?_
      have hsy : Syms K (u.reverse ++ [(t : Int)]) := by
        intro y hy
        rcases List.mem_append.1 hy with hy | hy
        · exact hu y (List.mem_reverse.1 hy)
        · rw [List.mem_singleton] at hy; subst hy; omega
      have := mirT_at h1 h.len (u.reverse ++ [(t : Int)]) hsy (by simp [hul])
      rw [numW_snoc, Int.toNat_natCast, List.reverse_append, List.reverse_singleton, List.singleton_append, List.reverse_reverse, numW_cons, Int.toNat_natCast, hul] at this
      rw [hW, Nat.mul_one, this, Nat.add_comm]
    have hs := fit_lt h1 T (numW K u) (T.length / K) x
    have es : (leftS K T (numW K zs) (x :: w)) = ((fit K T (numW K u) (T.length / K) x * (T.length / K) + numW K u) / K, (fit K T (numW K u) (T.length / K) x : Int) :: (leftS K T (numW K zs) w).2) := by
      rw [leftS, e1]
    rw [es, List.reverse_cons, rightP_snoc, rightN_snoc, e2, ← hf, e3, hMW]
    rw [hW] at hf hs es ⊢
    generalize fit K T (numW K u) (pw K (2 * R)) x = s at *
    have hsu : Syms K ((s : Int) :: u) := by
      intro y hy
      rcases List.mem_cons.1 hy with rfl | hy
      · omega
      · exact hu y hy
    have hne : ((s : Int) :: u) ≠ [] := by simp
    have hcat := List.dropLast_concat_getLast hne
    have hv : Syms K ((s : Int) :: u).dropLast := fun y hy => hsu y (List.dropLast_subset _ hy)
    refine ⟨((s : Int) :: u).dropLast, by simp [hul], hv, ?_, ?_, ?_⟩
    · have e := numW_cons K s u
      rw [Int.toNat_natCast, hul] at e
      show (s * pw K (2 * R) + numW K u) / K = _
      rw [← e, ← hcat, numW_snoc, hcat, div_mk]
      have := hsu _ (List.getLast_mem hne)
      omega
    · have e : (u.reverse ++ [(s : Int)]).drop 1 = ((s : Int) :: u).dropLast.reverse := by
        rw [List.dropLast_eq_take, List.reverse_take]
        simp
      have hr : Syms K (u.reverse ++ [(s : Int)]) := by
        intro y hy
        apply hsu
        simpa [or_comm] using hy
      rw [← e, num_shift hr, numW_snoc, List.length_reverse, hul, Int.toNat_natCast]
    · simp
end Go.Proofs.YtmhiambkfdkkbaaGreatDoor

namespace Go.Proofs.YtmhiambkfdkkbaaGreatDoor
open Go.RowKit
set_option maxRecDepth 100000

theorem size_zeroC (n : Nat) : (Builtin.zeroCells (Value.cells (.int .i64 0)) n).size = n := by
  rw [size_zeroCells]; simp [Value.cells]

/-- The first n of a list of []ints, one after the other. -/
def catN (xs : Nat → List Int) (n : Nat) : List Int := (List.range n).flatMap xs
theorem catN_succ (xs : Nat → List Int) (n : Nat) : catN xs (n + 1) = catN xs n ++ xs n := by simp [catN, List.range_succ]

/-- The lengths' sum. -/
def lenN (xs : Nat → List Int) : Nat → Nat
  | 0 => 0
  | n + 1 => lenN xs n + (xs n).length
theorem catN_length (xs : Nat → List Int) (n : Nat) : (catN xs n).length = lenN xs n := by
  induction n with
  | zero => rfl
  | succ n ih => rw [catN_succ, List.length_append, ih]; rfl

end Go.Proofs.YtmhiambkfdkkbaaGreatDoor

namespace Go.Proofs.YtmhiambkfdkkbaaGreatDoor
open Go.RowKit
set_option maxRecDepth 100000

theorem wrap64_nat (n : Nat) (h : n < 1048576) : wrap64 (n : Int) = n := wrap64_id (by omega) (by omega)
theorem wrap64_nat1 (n : Nat) (h1 : 1 ≤ n) (h : n < 1048576) : wrap64 ((n : Int) - 1) = ((n - 1 : Nat) : Int) := by
  rw [wrap64_id (by omega) (by omega)]; omega
theorem bits_or_nat (a b : Nat) (ha : a < 1024) (hb : b < 1024) : bits .or .i64 (a : Int) (b : Int) = ((a ||| b : Nat) : Int) := by
  have hx : a ||| b < 2 ^ 10 := Nat.or_lt_two_pow (by omega) (by omega)
  have h1 : (BitVec.ofInt 64 (a : Int)).toNat = a := by
    rw [BitVec.ofInt_natCast, BitVec.toNat_ofNat]; exact Nat.mod_eq_of_lt (by omega)
  have h2 : (BitVec.ofInt 64 (b : Int)).toNat = b := by
    rw [BitVec.ofInt_natCast, BitVec.toNat_ofNat]; exact Nat.mod_eq_of_lt (by omega)
  show IntKind.i64.wrap ((BitVec.ofInt 64 (a : Int) ||| BitVec.ofInt 64 (b : Int)).toNat : Int) = _
  rw [BitVec.toNat_or, h1, h2]
  exact wrapK (by omega) (by omega)

end Go.Proofs.YtmhiambkfdkkbaaGreatDoor

namespace Go.Proofs.YtmhiambkfdkkbaaGreatDoor
open Go.RowKit
set_option maxRecDepth 100000

theorem catN_two (vs : Nat → List Int) : catN vs 2 = vs 0 ++ vs 1 := by simp [catN, List.range, List.range.loop]

end Go.Proofs.YtmhiambkfdkkbaaGreatDoor

namespace Go.Proofs.YtmhiambkfdkkbaaGreatDoor
open Go.RowKit
set_option maxRecDepth 100000

theorem wpl_append1b {w : World} {ops : Array Oper} {rest : List Oper} {o : Oper} {a : Act} {Q : Exit → Act → World → Prop} (hgd : o.guard = none) (s x : Operand)
    (ho : o.op = .call { callee := .builtin .append, args := #[s, x], argTypes := #[22, 22] })
    (B : Nat) (v : Value) (xs : List Int) (y : Int) (hown : OwnI B w v xs) (hs : a.eval s = v) (b : Nat) (hx : a.eval x = .slice (some ⟨b, 0, none⟩) 1 1) (hb : b = w.heap.size)
    (hlen : xs.length < 17592186044415) (hB : B ≤ w.heap.size)
    (h : ∀ v' w', OwnI B w' v' (xs ++ [y]) → Below B w w' → w.grownBy w' v.ownBlock → (v'.ownBlock = v.ownBlock ∨ ∃ k, v'.ownBlock = some k ∧ w.heap.size ≤ k) → wpList Tryz.prog ops Q rest (a.put o.dst v') w') :
    wpList Tryz.prog ops Q (o :: rest) a (w.alloc (.cells #[.int .i64 y] 3)) := by
  subst hb
  exact wpl_append1 hgd s x ho B v xs y hown hs hx hlen hB h

end Go.Proofs.YtmhiambkfdkkbaaGreatDoor
