/-
  Walks: edenref03.Bad, edenref04.Power, Digits, Check.
-/
import Derived.Test.YtmddapkhipmlgaaDoorRawErr
import Derived.Test.YtmddapkhipmlgaaDoorPureStep
import Derived.Test.YtmddapkhipmlgaaDoorFam
namespace Go.Proofs.YtmddapkhipmlgaaDoor
open Go.RowKit
set_option maxRecDepth 100000

theorem ref_bad (k : Int) (v : Value) (xs : List Int) (w : World) (h : IntsAt w v xs) :
    Calls Tryd.prog 71 #[.int .i64 k, v] w fun e w' => e = .returned (.int .i64 (idxOf (odd1 k) xs)) ∧ w = w' := by
  have hlen := h.len
  have hm := h.len_le
  go_enter Tryd.func71, Tryd.ntmps71
  go_wp2
  go_loop [5] (fun i => ∃ j : Nat, j ≤ xs.length ∧ i = .int .i64 j ∧ ∀ t (ht : t < xs.length), t < j → odd1 k xs[t] = false) (fun i => xs.length - (intOf i).toNat)
  case atStart => exact ⟨0, by omega, rfl, by omega⟩
  case round =>
    obtain ⟨j, hj, rfl, hp⟩ := hrel
    replace hp := Lib.hid hp
    by_cases hlt : j < xs.length
    · have hi := h.idx j hlt
      have hc := h.cell j hlt
      by_cases ho : odd1 k xs[j] = true
      · have ho' := ho
        simp only [odd1, Bool.or_eq_true, decide_eq_true_eq] at ho'
        have hres := Lib.hid (idxOf_at (p := odd1 k) j hlt ho fun t ht h => hp.out t ht h)
        clear ho
        generalize xs[j] = x at hc ho'
        by_cases h0 : x < 0
        · clear ho'
          go_wp2
          go_ret
          exact ⟨ret_int hres.out.symm, rfl⟩
        · have h1 : k ≤ x := by omega
          clear ho'
          go_wp2
          go_ret
          exact ⟨ret_int hres.out.symm, rfl⟩
      · have ho' : odd1 k xs[j] = false := by simpa using ho
        have hH := Lib.hid ho'
        have ho2 := odd1_false.1 ho'
        clear ho ho'
        have hh : ∀ x, xs[j] = x → x = xs[j] := fun x e => e.symm
        generalize hx : xs[j] = x at hc ho2
        replace hx := Lib.hid hx
        obtain ⟨g0, g1⟩ := ho2
        clear hh
        go_wp2
        go_round
        case rel =>
          refine ⟨j + 1, by omega, by go_num, ?_⟩
          intro t ht htj
          by_cases e : t = j
          · subst e; exact hH.out
          · exact hp.out t ht (by omega)
        case measure => simp [intOf]; omega
    · go_wp2
      go_ret
      refine ⟨ret_int (idxOf_neg fun x hx => ?_).symm, rfl⟩
      obtain ⟨t, ht, rfl⟩ := List.mem_iff_getElem.1 hx
      exact hp.out t ht (by omega)

theorem ref_power0 (K n : Nat) (w : World) (h1 : 1 ≤ K) (h4 : K ≤ 4) (hn : n ≤ 7) :
    Calls Tryd.prog 76 #[.int .i64 K, .int .i64 n] w fun e w' => e = .returned (.int .i64 (pw K n)) ∧ w = w' := by
  go_enter Tryd.func76, Tryd.ntmps76
  go_wp2
  go_loop [5, 6] (fun x i => ∃ j : Nat, j ≤ n ∧ i = .int .i64 j ∧ x = .int .i64 (pw K j)) (fun _ i => n - (intOf i).toNat)
  case atStart => exact ⟨0, by omega, rfl, rfl⟩
  case round =>
    obtain ⟨j, hj, rfl, rfl⟩ := hrel
    by_cases hlt : j < n
    · have hb := pw_le (i := j + 1) h1 h4 (by omega)
      have hs : ((pw K (j + 1) : Nat) : Int) = (pw K j : Int) * (K : Int) := by rw [pw_succ]; simp
      have hb1 : 0 ≤ (pw K j : Int) * (K : Int) := by rw [← hs]; omega
      have hb2 : (pw K j : Int) * (K : Int) ≤ 16384 := by rw [← hs]; omega
      replace hs := Lib.hid hs
      go_wp2
      go_round
      case rel => exact ⟨j + 1, by omega, by go_num, by rw [hs.out]⟩
      case measure => simp [intOf]; omega
    · obtain rfl : j = n := by omega
      go_wp2
      go_ret
      exact ⟨rfl, rfl⟩

theorem ref_power (k m : Int) (K n : Nat) (w : World) (hk : k = K) (hm : m = n) (h1 : 1 ≤ K) (h4 : K ≤ 4) (hn : n ≤ 7) :
    Calls Tryd.prog 76 #[.int .i64 k, .int .i64 m] w fun e w' => e = .returned (.int .i64 (pw K n)) ∧ w = w' := by
  subst hk hm
  exact ref_power0 K n w h1 h4 hn

set_option maxHeartbeats 400000 in
theorem ref_digits0 (K N X : Nat) (w : World) (hk1 : 1 ≤ K) (hk4 : K ≤ 4) (hN : N ≤ 7) (hX : X ≤ 16384) :
    Calls Tryd.prog 107 #[.int .i64 K, .int .i64 N, .int .i64 X] w (Ret1 (fun x w' => OwnI w.heap.size w' x (digs K N X)) w) := by
  have hK0 : ((K : Int) == 0) = false := by rw [beq_eq_false_iff_ne]; omega
  have hK1 : ¬ (K : Int) = 0 := by omega
  have hK2 : (0 : Int) < K := by omega
  go_enter Tryd.func107, Tryd.ntmps107
  go_wp2_with (at_make; refine wpl_make rfl _ _ rfl _ rfl rfl (by omega) (by omega) ?_)
  intro wv w1 ho b1
  go_wp2
  go_loopw [2, 8] (fun x i wr => ∃ j : Nat, j ≤ N ∧ i = .int .i64 ((N : Int) - 1 - (j : Int)) ∧ x = .int .i64 (X / pw K j : Nat) ∧ OwnI w.heap.size wr wv ((List.replicate N (0 : Int)).take (N - j) ++ (digs K N X).drop (N - j)) ∧ Below w.heap.size w wr) (fun _ i _ => (intOf i + 1).toNat)
  case atStart => exact ⟨0, by omega, by simp, by simp [pw], by rw [Nat.sub_zero, List.drop_of_length_le (by simp [digs_length]), List.append_nil, List.take_of_length_le (by simp)]; exact ho, b1⟩
  case round =>
    obtain ⟨j, hj, rfl, rfl, hO, hbI⟩ := hrel
    obtain ⟨wi, rfl⟩ : ∃ wi : World, wi = wr := ⟨_, rfl⟩
    by_cases hjl : j < N
    · have hXl : ((List.replicate N (0 : Int)).take (N - j) ++ (digs K N X).drop (N - j)).length = N := by simp [digs_length]
      have i1 : ∀ w', (Instr.indexAt 22 wv (.int .i64 ((N : Int) - 1 - (j : Int)))).run Tryd.prog w' = .ok (.pointer (some (valAt wv (N - 1 - j)))) w' := by
        intro w'
        have := hO.at.idxI ((N : Int) - 1 - (j : Int)) (by omega) (by rw [hXl]; omega) w'
        rwa [show ((N : Int) - 1 - (j : Int)).toNat = N - 1 - j by omega] at this
      have c1 := hO.at.cellD (N - 1 - j) (by rw [hXl]; omega)
      have f1 := hO.frz (N - 1 - j) (by rw [hXl]; omega)
      have hS := hO.set (N - 1 - j) (by rw [hXl]; omega) ((X / pw K j % K : Nat) : Int)
      have hbS := hO.setBelow hbI (N - 1 - j) (by rw [hXl]; omega) (.int .i64 ((X / pw K j % K : Nat) : Int))
      rw [digs_fill K N X j hjl (List.replicate N (0 : Int)) (by simp)] at hS
      replace hS := Lib.hid hS
      replace hbS := Lib.hid hbS
      have hqd : X / pw K j / K = X / pw K (j + 1) := by rw [Nat.div_div_eq_div_mul, ← pw_succ]
      replace hqd := Lib.hid hqd
      have hql : X / pw K j ≤ 16384 := Nat.le_trans (Nat.div_le_self _ _) (by omega)
      generalize ((List.replicate N (0 : Int)).take (N - j) ++ (digs K N X).drop (N - j)).getD (N - 1 - j) 0 = y at c1
      clear hXl hO
      generalize X / pw K j = q at *
      rw [Int.natCast_emod] at hS hbS
      have hd0 : 0 ≤ (q : Int) / (K : Int) := Int.ediv_nonneg (by omega) (by omega)
      have hd1 : (q : Int) / (K : Int) ≤ 16384 := by
        have h1 : q / K ≤ q := Nat.div_le_self _ _
        have h2 : q / K ≤ 16384 := by omega
        exact_mod_cast h2
      have hdw : IntKind.i64.wrap ((q : Int) / (K : Int)) = (q : Int) / (K : Int) := wrapK (by omega) (by omega)
      go_wp2
      go_roundw
      case rel => exact ⟨j + 1, by omega, by congr 1; omega, by rw [← hqd.out]; simp, hS.out, hbS.out⟩
      case measure => simp [intOf]; omega
    · obtain rfl : j = N := by omega
      rw [Nat.sub_self, List.take_zero, List.drop_zero, List.nil_append] at hO
      replace hO := Lib.hid hO
      go_wp2
      go_ret
      exact ⟨_, rfl, hbI, hO.out⟩

theorem ref_digits (k m x : Int) (K N X : Nat) (w : World) (hk : k = K) (hm : m = N) (hx : x = X) (hk1 : 1 ≤ K) (hk4 : K ≤ 4) (hN : N ≤ 7) (hX : X ≤ 16384) :
    Calls Tryd.prog 107 #[.int .i64 k, .int .i64 m, .int .i64 x] w (Ret1 (fun x w' => OwnI w.heap.size w' x (digs K N X)) w) := by
  subst hk hm hx
  exact ref_digits0 K N X w hk1 hk4 hN hX

theorem EOwn.shape {B : Nat} {w : World} {t : PErr} {v : Value} (h : EOwn B w t v) : ∃ n a1 n1 c1 a2 n2 c2, v = .agg #[.int .i64 n, .slice a1 n1 c1, .slice a2 n2 c2] := h.at.shape

/-- Two boxes of three cells: they stay. -/
theorem cells6 {w w1 : World} {x0 x1 x2 x3 x4 x5 : Value} {T1 T2 : TypeId} (hb : Below ((w.alloc (.cells #[x0, x1, x2] T1)).alloc (.cells #[x3, x4, x5] T2)).heap.size ((w.alloc (.cells #[x0, x1, x2] T1)).alloc (.cells #[x3, x4, x5] T2)) w1) :
    (w1.cell? ⟨w.heap.size, 0, none⟩ = some x0 ∧ w1.cell? ⟨w.heap.size, 1, none⟩ = some x1 ∧ w1.cell? ⟨w.heap.size, 2, none⟩ = some x2) ∧
    (w1.cell? ⟨w.heap.size + 1, 0, none⟩ = some x3 ∧ w1.cell? ⟨w.heap.size + 1, 1, none⟩ = some x4 ∧ w1.cell? ⟨w.heap.size + 1, 2, none⟩ = some x5) ∧
    (w1.frozen? ⟨w.heap.size + 1, 0, none⟩ = false ∧ w1.frozen? ⟨w.heap.size + 1, 1, none⟩ = false ∧ w1.frozen? ⟨w.heap.size + 1, 2, none⟩ = false) := by
  refine ⟨keep3 (n := w.heap.size) hb ⟨by simp [go_sem], by simp [go_sem], by simp [go_sem]⟩, ?_⟩
  have := cells3 hb
  rw [show (w.alloc (.cells #[x0, x1, x2] T1)).heap.size = w.heap.size + 1 by simp] at this
  exact ⟨⟨this.1, this.2.1, this.2.2.1⟩, this.2.2.2⟩

theorem undraw {w w1 : World} {n : Nat} (h : Below (w.drewN n).heap.size (w.drewN n) w1) : Below w.heap.size w w1 := (below_drewN (Below.refl w.heap.size w) n).trans h

theorem below_set3 {B b : Nat} {w0 w : World} (h : Below B w0 w) (hb : B ≤ b) (x y z : Value) : Below B w0 (((w.setCell ⟨b, 0, none⟩ x).setCell ⟨b, 1, none⟩ y).setCell ⟨b, 2, none⟩ z) :=
  ((h.setCell (p := ⟨b, 0, none⟩) hb x).setCell (p := ⟨b, 1, none⟩) hb y).setCell (p := ⟨b, 2, none⟩) hb z

theorem ref_check_k (k R : Int) (va : Option Addr) (vn vc : Nat) (w : World) (h : k < 1 ∨ 4 < k) :
    Calls Tryd.prog 74 #[.agg #[.int .i64 k, .int .i64 R, .slice va vn vc]] w (Ret1 (fun x w' => EOwn w.heap.size w' (fresh sRule 0 1) x) w) := by
  have b0 := Below.step (belowAlloc w (.cells #[.int .i64 k, .int .i64 R, .slice va vn vc] 24)) (belowAlloc _ (.cells #[.int .i64 0, .slice none 0 0, .slice none 0 0] 55))
  have d : (decide (k < 1) || decide (4 < k)) = true := by simpa using h
  by_cases h1 : k < 1
  · clear h d
    go_enter Tryd.func74, Tryd.ntmps74
    go_wp2_with fail
    refine (raw_new _ _ _ _).mono ?_
    rintro e w1 ⟨x, rfl, b1, he⟩
    obtain ⟨q, a1, n1, c1, a2, n2, c2, rfl⟩ := he.shape
    obtain ⟨-, ⟨y0, y1, y2⟩, f0, f1, f2⟩ := cells6 b1
    replace he := Lib.hid he
    go_wp2
    exact bodyPost_ret (v := .agg #[.int .i64 q, .slice a1 n1 c1, .slice a2 n2 c2]) (by simp [results, Tryd.results74, go_sem, y0, y1, y2]) rfl ⟨_, rfl, below_set3 (Below.step b0 b1) (by simp) _ _ _, (he.out.set3 (by simp) _ _ _).mono (by simp; omega)⟩
  · have h2 : 4 < k := by omega
    clear h d
    go_enter Tryd.func74, Tryd.ntmps74
    go_wp2_with fail
    refine (raw_new _ _ _ _).mono ?_
    rintro e w1 ⟨x, rfl, b1, he⟩
    obtain ⟨q, a1, n1, c1, a2, n2, c2, rfl⟩ := he.shape
    obtain ⟨-, ⟨y0, y1, y2⟩, f0, f1, f2⟩ := cells6 b1
    replace he := Lib.hid he
    go_wp2
    exact bodyPost_ret (v := .agg #[.int .i64 q, .slice a1 n1 c1, .slice a2 n2 c2]) (by simp [results, Tryd.results74, go_sem, y0, y1, y2]) rfl ⟨_, rfl, below_set3 (Below.step b0 b1) (by simp) _ _ _, (he.out.set3 (by simp) _ _ _).mono (by simp; omega)⟩

set_option maxHeartbeats 400000 in
theorem ref_check_r (K : Nat) (R : Int) (va : Option Addr) (vn vc : Nat) (w : World) (h1 : 1 ≤ K) (h4 : K ≤ 4) (h : R < 0 ∨ 3 < R) :
    Calls Tryd.prog 74 #[.agg #[.int .i64 K, .int .i64 R, .slice va vn vc]] w (Ret1 (fun x w' => EOwn w.heap.size w' (fresh sRule 1 1) x) w) := by
  have b0 := Below.step (belowAlloc w (.cells #[.int .i64 K, .int .i64 R, .slice va vn vc] 24)) (belowAlloc _ (.cells #[.int .i64 0, .slice none 0 0, .slice none 0 0] 55))
  rcases h with h | h
  · go_enter Tryd.func74, Tryd.ntmps74
    go_wp2_with fail
    refine (raw_new _ _ _ _).mono ?_
    rintro e w1 ⟨x, rfl, b1, he⟩
    obtain ⟨q, a1, n1, c1, a2, n2, c2, rfl⟩ := he.shape
    obtain ⟨-, ⟨y0, y1, y2⟩, f0, f1, f2⟩ := cells6 b1
    replace he := Lib.hid he
    go_wp2
    exact bodyPost_ret (v := .agg #[.int .i64 q, .slice a1 n1 c1, .slice a2 n2 c2]) (by simp [results, Tryd.results74, go_sem, y0, y1, y2]) rfl ⟨_, rfl, below_set3 (Below.step b0 b1) (by simp) _ _ _, (he.out.set3 (by simp) _ _ _).mono (by simp; omega)⟩
  · have h0 : 0 ≤ R := by omega
    go_enter Tryd.func74, Tryd.ntmps74
    go_wp2_with fail
    refine (raw_new _ _ _ _).mono ?_
    rintro e w1 ⟨x, rfl, b1, he⟩
    obtain ⟨q, a1, n1, c1, a2, n2, c2, rfl⟩ := he.shape
    obtain ⟨-, ⟨y0, y1, y2⟩, f0, f1, f2⟩ := cells6 b1
    replace he := Lib.hid he
    go_wp2
    exact bodyPost_ret (v := .agg #[.int .i64 q, .slice a1 n1 c1, .slice a2 n2 c2]) (by simp [results, Tryd.results74, go_sem, y0, y1, y2]) rfl ⟨_, rfl, below_set3 (Below.step b0 b1) (by simp) _ _ _, (he.out.set3 (by simp) _ _ _).mono (by simp; omega)⟩

set_option maxHeartbeats 400000 in
theorem ref_check_len (K R : Nat) (va : Option Addr) (vn vc : Nat) (xs : List Int) (w : World) (h : IntsAt w (.slice va vn vc) xs) (h1 : 1 ≤ K) (h4 : K ≤ 4) (h3 : R ≤ 3) (hl : xs.length ≠ pw K (2 * R + 1)) :
    Calls Tryd.prog 74 #[.agg #[.int .i64 K, .int .i64 R, .slice va vn vc]] w (Ret1 (fun x w' => EOwn w.heap.size w' (fresh sRule 2 1) x) w) := by
  have b0 := Below.step (belowAlloc w (.cells #[.int .i64 K, .int .i64 R, .slice va vn vc] 24)) (belowAlloc _ (.cells #[.int .i64 0, .slice none 0 0, .slice none 0 0] 55))
  have hlen := h.len
  have hne : ((xs.length : Int) != (pw K (2 * R + 1) : Int)) = true := by rw [bne_iff_ne]; omega
  clear h hl
  go_enter Tryd.func74, Tryd.ntmps74
  go_wp2
  go_quiet ((go_at_call 76; exact Calls.quiet_of_same ((ref_power _ _ K (2 * R + 1) _ rfl (by omega) h1 h4 (by omega)).mono fun _ _ ⟨a, b⟩ => ⟨a, b.symm⟩)))
  go_wp2_with fail
  refine (raw_new _ _ _ _).mono ?_
  rintro e w1 ⟨x, rfl, b1, he⟩
  replace b1 := undraw b1
  obtain ⟨q, a1, n1, c1, a2, n2, c2, rfl⟩ := he.shape
  obtain ⟨-, ⟨y0, y1, y2⟩, f0, f1, f2⟩ := cells6 b1
  replace he : Hid (EOwn ((w.alloc (.cells #[.int .i64 K, .int .i64 R, .slice va vn vc] 24)).alloc (.cells #[.int .i64 0, .slice none 0 0, .slice none 0 0] 55)).heap.size w1 _ _) := Lib.hid he
  go_wp2
  exact bodyPost_ret (v := .agg #[.int .i64 q, .slice a1 n1 c1, .slice a2 n2 c2]) (by simp [results, Tryd.results74, go_sem, y0, y1, y2]) rfl ⟨_, rfl, below_set3 (Below.step b0 b1) (by simp) _ _ _, (he.out.set3 (by simp) _ _ _).mono (by simp; omega)⟩

set_option maxHeartbeats 400000 in
theorem ref_check_odd (K R : Nat) (va : Option Addr) (vn vc : Nat) (xs : List Int) (i : Nat) (w : World) (h : IntsAt w (.slice va vn vc) xs) (h1 : 1 ≤ K) (h4 : K ≤ 4) (h3 : R ≤ 3) (hl : xs.length = pw K (2 * R + 1)) (hi : idxOf (odd1 K) xs = i) (hi' : i < xs.length) :
    Calls Tryd.prog 74 #[.agg #[.int .i64 K, .int .i64 R, .slice va vn vc]] w (Ret1 (fun x w' => EOwn w.heap.size w' (fresh sRule (3 + i) 1) x) w) := by
  have b0 := Below.step (belowAlloc w (.cells #[.int .i64 K, .int .i64 R, .slice va vn vc] 24)) (belowAlloc _ (.cells #[.int .i64 0, .slice none 0 0, .slice none 0 0] 55))
  have hlen := h.len
  have hb3 : i ≤ 20000 := by have := pw_le (i := 2 * R + 1) h1 h4 (by omega); omega
  have hne : ((xs.length : Int) != (pw K (2 * R + 1) : Int)) = false := by rw [bne_eq_false_iff_eq]; omega
  replace h := Lib.hid (h.below b0)
  clear hl hi'
  replace hi := Lib.hid hi
  go_enter Tryd.func74, Tryd.ntmps74
  go_wp2
  go_quiet ((go_at_call 76; exact Calls.quiet_of_same ((ref_power _ _ K (2 * R + 1) _ rfl (by omega) h1 h4 (by omega)).mono fun _ _ ⟨a, b⟩ => ⟨a, b.symm⟩)))
  go_wp2_with fail
  refine (ref_bad K _ xs _ (by exact h.out.drewN _)).mono ?_
  rintro e w1 ⟨rfl, rfl⟩
  rw [hi.out]
  go_wp2_with fail
  refine (raw_new _ _ _ _).mono ?_
  rintro e w1 ⟨x, rfl, b1, he⟩
  replace b1 := undraw b1
  obtain ⟨q, a1, n1, c1, a2, n2, c2, rfl⟩ := he.shape
  obtain ⟨-, ⟨y0, y1, y2⟩, f0, f1, f2⟩ := cells6 b1
  replace he : Hid (EOwn ((w.alloc (.cells #[.int .i64 K, .int .i64 R, .slice va vn vc] 24)).alloc (.cells #[.int .i64 0, .slice none 0 0, .slice none 0 0] 55)).heap.size w1 _ _) := Lib.hid he
  go_wp2
  exact bodyPost_ret (v := .agg #[.int .i64 q, .slice a1 n1 c1, .slice a2 n2 c2]) (by simp [results, Tryd.results74, go_sem, y0, y1, y2]) rfl ⟨_, rfl, below_set3 (Below.step b0 b1) (by simp) _ _ _, (he.out.set3 (by simp) _ _ _).mono (by simp; omega)⟩

set_option maxHeartbeats 400000 in
theorem ref_check_ok (K R : Nat) (va : Option Addr) (vn vc : Nat) (xs : List Int) (w : World) (h : IntsAt w (.slice va vn vc) xs) (hr : RuleOk K R xs) :
    Calls Tryd.prog 74 #[.agg #[.int .i64 K, .int .i64 R, .slice va vn vc]] w (Ret1 (fun x _ => x = zErr) w) := by
  have b0 := Below.step (belowAlloc w (.cells #[.int .i64 K, .int .i64 R, .slice va vn vc] 24)) (belowAlloc _ (.cells #[.int .i64 0, .slice none 0 0, .slice none 0 0] 55))
  obtain ⟨h1, h4, h3, hl, hs⟩ := hr
  have hlen := h.len
  have hne : ((xs.length : Int) != (pw K (2 * R + 1) : Int)) = false := by rw [bne_eq_false_iff_eq]; omega
  replace h := Lib.hid (h.below b0)
  clear hl
  have hi := Lib.hid hs.odd
  clear hs
  go_enter Tryd.func74, Tryd.ntmps74
  go_wp2
  go_quiet ((go_at_call 76; exact Calls.quiet_of_same ((ref_power _ _ K (2 * R + 1) _ rfl (by omega) h1 h4 (by omega)).mono fun _ _ ⟨a, b⟩ => ⟨a, b.symm⟩)))
  go_wp2_with fail
  refine (ref_bad K _ xs _ (by exact h.out.drewN _)).mono ?_
  rintro e w1 ⟨rfl, rfl⟩
  rw [hi.out]
  go_wp2
  exact bodyPost_ret (v := zErr) (by simp [results, Tryd.results74, go_sem]) rfl ⟨_, rfl, below_set3 (below_drewN b0 _) (by simp) _ _ _, rfl⟩

/-- edenref04.Check at every rule. -/
theorem ref_check (k R : Int) (va : Option Addr) (vn vc : Nat) (xs : List Int) (w : World) (h : IntsAt w (.slice va vn vc) xs) :
    Calls Tryd.prog 74 #[.agg #[.int .i64 k, .int .i64 R, .slice va vn vc]] w (Ret1 (fun x w' => EOwn w.heap.size w' (checkP k R xs) x) w) := by
  by_cases hk : k < 1 ∨ 4 < k
  · rw [checkP, if_pos hk]; exact ref_check_k k R va vn vc w hk
  obtain ⟨K, rfl⟩ := Int.eq_ofNat_of_zero_le (show 0 ≤ k by omega)
  by_cases hr : R < 0 ∨ 3 < R
  · rw [checkP, if_neg hk, if_pos hr]; exact ref_check_r K R va vn vc w (by omega) (by omega) hr
  obtain ⟨R, rfl⟩ := Int.eq_ofNat_of_zero_le (show 0 ≤ R by omega)
  by_cases hl : xs.length = pw K (2 * R + 1)
  · rcases syms_or K xs with hs | ⟨i, hi, hlt⟩
    · have hok : RuleOk K R xs := ⟨by omega, by omega, by omega, hl, hs⟩
      rw [hok.check]; exact (ref_check_ok K R va vn vc xs w h hok).mono fun _ _ ⟨x, a, b, c⟩ => ⟨x, a, b, c⟩
    · have : checkP K R xs = fresh sRule (3 + i) 1 := by
        rw [checkP, if_neg hk, if_neg hr, if_neg (by simp [hl]), if_neg (by omega), hi]
      rw [this]
      exact ref_check_odd K R va vn vc xs i w h (by omega) (by omega) (by omega) hl hi hlt
  · have : checkP K R xs = fresh sRule 2 1 := by
      rw [checkP, if_neg hk, if_neg hr, if_pos (by simpa using hl)]
    rw [this]
    exact ref_check_len K R va vn vc xs w h (by omega) (by omega) (by omega) hl
end Go.Proofs.YtmddapkhipmlgaaDoor
