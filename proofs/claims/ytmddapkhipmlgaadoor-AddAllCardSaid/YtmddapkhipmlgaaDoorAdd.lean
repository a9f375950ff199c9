/-
  Walks: package additive.
-/
import Derived.Test.YtmddapkhipmlgaaDoorCheck
import Derived.Test.YtmddapkhipmlgaaDoorLib
import Derived.Deep.RegionHeld3
import Derived.Test.YtmddapkhipmlgaaDoorPureAdd
namespace Go.Proofs.YtmddapkhipmlgaaDoor
open Go.RowKit
set_option maxRecDepth 100000

theorem add_wrong (r : Nat → Addr) (at_ n : Int) (w : World) (hg : Glob r w) (h1 : 1 ≤ n) (h2 : n ≤ 11) :
    Calls Tryd.prog 50 #[.int .i64 at_, .int .i64 n] w (Ret1 (fun v w' => ErrIs r w' (fresh sAdditive at_ n) v) w) := by
  go_enter Tryd.func50, Tryd.ntmps50
  go_wp2_with fail
  refine (new_any r _ at_ n w hg h1 h2).mono ?_
  rintro e w' ⟨v, rfl, hb, he⟩
  go_wp2
  go_ret
  exact ⟨_, rfl, hb, he⟩

theorem mul3 {x s : Int} (hx : 0 ≤ x ∧ x < 4) (hs : 0 ≤ s ∧ s < 4) : 0 ≤ x * s ∧ x * s ≤ 9 := by
  obtain ⟨h1, h2⟩ := hx
  obtain ⟨h3, h4⟩ := hs
  have a : x = 0 ∨ x = 1 ∨ x = 2 ∨ x = 3 := by omega
  rcases a with rfl | rfl | rfl | rfl <;> omega

set_option maxHeartbeats 1000000 in
/-- additive.sum, at factors below K. -/
theorem sum_any (K : Nat) (v : Value) (f : List Int) (w : World) (h : IntsAt w v f) (hf : Syms K f) (h1 : 1 ≤ K) (h4 : K ≤ 4) (h7 : f.length ≤ 7) :
    Calls Tryd.prog 48 #[.int .i64 K, v] w (Ret1 (fun x w' => ∃ a n c, x = .agg #[.int .i64 K, .int .i64 (f.length / 2 : Nat), .slice a n c] ∧ OwnI w.heap.size w' (.slice a n c) (sumT K f)) w) := by
  have hl := h.len
  replace hf := Lib.hid hf
  have h0 := Lib.hid h
  clear h
  go_enter Tryd.func48, Tryd.ntmps48
  go_wp2
  go_loopw [5, 15] (fun t i wr => ∃ k : Nat, k ≤ f.length ∧ i = .int .i64 k ∧ OwnI (w.heap.size + 1) wr t (sumT K (f.take k)) ∧ Below (w.heap.size + 1) (w.alloc (.cells #[.int .i64 0, .int .i64 0, .slice none 0 0] 24)) wr) (fun _ i _ => f.length - (intOf i).toNat)
  case atStart =>
    refine ⟨0, by omega, rfl, ?_, (Below.refl _ _).alloc (by simp) _⟩
    have := OwnI.lit (w.heap.size + 1) (w.alloc (.cells #[.int .i64 0, .int .i64 0, .slice none 0 0] 24)) (by simp) [0] (by decide) #[.int .i64 0] rfl 1 rfl
    simpa [sumT, sumTable] using this
  case round =>
    obtain ⟨k, hk, rfl, hT, hb⟩ := hrel
    by_cases hlt : k < f.length
    · obtain ⟨wo, rfl⟩ : ∃ wo : World, wo = wr := ⟨_, rfl⟩
      have hbw : Below w.heap.size w wo := ((Below.refl _ _).alloc (Nat.le_refl _) _).trans (hb.mono (by omega))
      have hfo := h0.out.below hbw
      have hi := hfo.idx k hlt
      have hc := hfo.cell k hlt
      have hxs := hf.out f[k] (by simp)
      have hTt := hT.at
      have hTs : Syms K (sumT K (f.take k)) := sumT_syms h1 _
      have hTlen : (sumT K (f.take k)).length ≤ 16384 := by rw [sumT_length]; exact pw_le h1 h4 (by simp; omega)
      have hTe : Hid (sumT K (f.take (k + 1)) = sumStep K f[k] (sumT K (f.take k))) := by
        show _ = _
        rw [take_snoc f k hlt]; exact sumTable_snoc ..
      clear hT
      generalize sumT K (f.take k) = T at hTe hTs hTlen hTt
      generalize f[k] = x at hTe hxs hc
      have hmle : (0:Int) ≤ (T.length : Int) * (K : Int) ∧ (T.length : Int) * (K : Int) ≤ 65536 := by
        constructor
        · exact Int.mul_nonneg (by omega) (by omega)
        · calc _ ≤ (16384 : Int) * 4 := Int.mul_le_mul (by omega) (by omega) (by omega) (by omega)
            _ = 65536 := by decide
      have hTl := hTt.len
      replace hTs := Lib.hid hTs
      have hmle1 := hmle.1
      have hmle2 := hmle.2
      clear hmle
      go_wp2_with (at_make; refine wpl_make0 rfl _ _ rfl _ rfl rfl hmle1 (by omega) ?_)
      intro nv w2 hn hb2
      go_wp2
      go_loopw [8, 26] (fun n i wr => ∃ j : Nat, j ≤ T.length ∧ i = .int .i64 j ∧ OwnI wo.heap.size wr n (sumStep K x (T.take j)) ∧ Below wo.heap.size wo wr) (fun _ i _ => T.length - (intOf i).toNat)
      case atStart => exact ⟨0, by omega, rfl, by simpa [sumStep_nil] using hn, hb2⟩
      case round =>
        obtain ⟨j, hj, rfl, hN, hbN⟩ := hrel
        by_cases hjl : j < T.length
        · obtain ⟨wi, rfl⟩ : ∃ wi : World, wi = wr := ⟨_, rfl⟩
          have hTi := hTt.below hbN
          have hi2 := hTi.idx j hjl
          have hc2 := hTi.cell j hjl
          have hys := hTs.out T[j] (by simp)
          have hTe2 : Hid (sumStep K x (T.take (j + 1)) = sumStep K x (T.take j) ++ sumRow K x T[j] K) := by
            show _ = _
            rw [take_snoc T j hjl, sumStep_snoc]
          have hTl2 : (sumStep K x (T.take j)).length ≤ 65536 := by
            rw [sumStep_length]
            have : (T.take j).length ≤ 16384 := by simp; omega
            calc _ ≤ 16384 * 4 := Nat.mul_le_mul this h4
              _ = 65536 := by decide
          generalize T[j] = y at hTe2 hys hc2
          generalize sumStep K x (T.take j) = N at hTe2 hN hTl2
          go_wp2
          go_loopw [8, 31] (fun n i wr => ∃ s : Nat, s ≤ K ∧ i = .int .i64 s ∧ OwnI wo.heap.size wr n (N ++ sumRow K x y s) ∧ Below wo.heap.size wo wr) (fun _ i _ => K - (intOf i).toNat)
          case atStart => exact ⟨0, by omega, rfl, by simpa [sumRow] using hN, hbN⟩
          case round =>
            obtain ⟨s, hs, rfl, hM, hbM⟩ := hrel
            by_cases hsl : s < K
            · obtain ⟨wj, rfl⟩ : ∃ wj : World, wj = wr := ⟨_, rfl⟩
              have hb9 := mul3 (x := x) (s := s) ⟨hxs.1, by omega⟩ ⟨by omega, by omega⟩
              have hb9a := hb9.1
              have hb9b := hb9.2
              clear hb9
              have hse : Hid (N ++ sumRow K x y (s + 1) = (N ++ sumRow K x y s) ++ [(y + x * s) % K]) := by
                show _ = _
                rw [sumRow_succ, List.append_assoc]
              have hlM : (N ++ sumRow K x y s).length ≤ 70000 := by simp [sumRow_length]; omega
              generalize N ++ sumRow K x y s = M at hse hM hlM
              go_wp2_with (at_builtin; refine wpl_append1 rfl _ _ rfl wo.heap.size _ M ((y + x * s) % K) hM rfl rfl (by omega) (hbM.size) ?_)
              intro nv' w3 hM' hb3 _ _
              go_wp2
              go_roundw
              case rel => exact ⟨s + 1, by omega, by go_num, by rw [hse.out]; exact hM', hbM.trans hb3⟩
              case measure => simp [intOf]; omega
            · obtain rfl : s = K := by omega
              go_wp2
              go_roundw
              case rel => exact ⟨j + 1, by omega, by go_num, by rw [hTe2.out]; exact hM, hbM⟩
              case measure => simp [intOf]; omega
        · obtain rfl : j = T.length := by omega
          go_wp2
          go_roundw
          case rel =>
            refine ⟨k + 1, by omega, by go_num, ?_, hb.trans (hbN.mono (by have := hb.size; simp at this; omega))⟩
            rw [hTe.out]
            rw [List.take_length] at hN
            exact hN.mono (by have := hb.size; simp at this; omega)
          case measure => simp [intOf]; omega
    · obtain rfl : k = f.length := by omega
      rw [List.take_length] at hT
      have hlen2 : 0 ≤ (f.length : Int) / 2 := by omega
      have hz0 : wr.cell? ⟨w.heap.size, 0, none⟩ = some (.int .i64 0) := by rw [hb.cell (by simp)]; simp
      have hz1 : wr.cell? ⟨w.heap.size, 1, none⟩ = some (.int .i64 0) := by rw [hb.cell (by simp)]; simp
      have hz2 : wr.cell? ⟨w.heap.size, 2, none⟩ = some (.slice none 0 0) := by rw [hb.cell (by simp)]; simp
      have hf0 : wr.frozen? ⟨w.heap.size, 0, none⟩ = false := by rw [hb.frozen (by simp)]; simp
      have hf1 : wr.frozen? ⟨w.heap.size, 1, none⟩ = false := by rw [hb.frozen (by simp)]; simp
      have hf2 : wr.frozen? ⟨w.heap.size, 2, none⟩ = false := by rw [hb.frozen (by simp)]; simp
      obtain ⟨a, n, c, hv⟩ := hT.at.shape
      rw [hv] at hT ⊢
      clear hv
      go_wp2
      refine bodyPost_end (v := .agg #[.int .i64 K, .int .i64 (f.length / 2), .slice a n c]) (by simp [results, Tryd.results48, go_sem, hz0, hz1, hz2]) rfl ⟨_, rfl, ?_, a, n, c, by simp, ?_⟩
      · exact ((((Below.refl _ _).alloc (Nat.le_refl _) _).trans (hb.mono (by omega))).setCell (by simp) _ |>.setCell (by simp) _).setCell (by simp) _
      · exact (((hT.setBelowBase (by simp) _).setBelowBase (by simp) _).setBelowBase (by simp) _).mono (by omega)

theorem add_numbers1 (x k : Int) (b : Addr) (w : World) (hb : w.cell? b = some (.int .i64 k)) :
    Calls Tryd.prog 98 #[.int .i64 x, .pointer (some b)] w fun e w' => e = .returned (.bool (odd1 k x)) ∧ w = w' := by
  by_cases h : x < 0
  · have e : odd1 k x = true := by simp [odd1, h]
    rw [e]
    go_enter Tryd.func98, Tryd.ntmps98
    go_wp2
    go_ret
    exact ⟨rfl, rfl⟩
  · have e : odd1 k x = decide (k ≤ x) := by simp [odd1, h]
    rw [e]
    go_enter Tryd.func98, Tryd.ntmps98
    go_wp2
    go_ret
    exact ⟨ret_bool (by simp), rfl⟩
theorem eg_add_numbers1 (args : Array Value) (w : World) : (callFunc 98 args).run Tryd.prog w = .ok (.enter 98 args) w := by kernel_rfl

theorem numbers_any (r : Nat → Addr) (k from_ : Int) (v : Value) (xs : List Int) (w : World) (hg : Glob r w) (h : IntsAt w v xs) (hl : xs.length ≤ 17592186044416) (h0 : 0 ≤ from_) (h1 : from_ ≤ 17592186044416) :
    Calls Tryd.prog 51 #[.int .i64 k, v, .int .i64 from_] w (Ret1 (fun x w' => ErrIs r w' (numP k xs from_) x) w) := by
  have h' := Lib.hid (h.below ((Below.refl _ _).alloc (Nat.le_refl _) (.cells #[.int .i64 k] 3)))
  have hg' := Lib.hid (hg.below ((Below.refl _ _).alloc (Nat.le_refl _) (.cells #[.int .i64 k] 3)))
  clear h hg
  rcases idxOf_cases (odd1 k) xs with ⟨hi, _⟩ | ⟨i, hi, hi', _⟩
  · have hP : numP k xs from_ = none := if_pos hi
    rw [hP]
    replace hi := Lib.hid hi
    clear hP
    go_enter Tryd.func51, Tryd.ntmps51
    go_wp2_with fail
    refine (indexFunc_any v _ 98 xs (odd1 k) _ h'.out eg_add_numbers1 (fun x _ => add_numbers1 x k _ _ (by simp))).mono ?_
    rintro e w' ⟨rfl, rfl⟩
    rw [hi.out]
    go_wp2
    go_ret
    exact ⟨_, rfl, (Below.refl _ _).alloc (Nat.le_refl _) _, rfl⟩
  · have hP : numP k xs from_ = fresh sAdditive (from_ + i) 2 := by rw [numP, if_neg (by omega), hi]
    rw [hP]
    replace hi := Lib.hid hi
    clear hP
    go_enter Tryd.func51, Tryd.ntmps51
    go_wp2_with fail
    refine (indexFunc_any v _ 98 xs (odd1 k) _ h'.out eg_add_numbers1 (fun x _ => add_numbers1 x k _ _ (by simp))).mono ?_
    rintro e w' ⟨rfl, rfl⟩
    rw [hi.out]
    go_wp2_with fail
    refine (add_wrong r _ _ _ hg'.out (by decide) (by decide)).mono ?_
    rintro e w' ⟨x, rfl, hb, he⟩
    go_wp2
    go_ret
    exact ⟨_, rfl, ((Below.refl _ _).alloc (Nat.le_refl _) _).trans (hb.mono (by simp)), he⟩

theorem odd_any (n : Nat) (w : World) (hn : n ≤ 17592186044416) : Calls Tryd.prog 53 #[.int .i64 n] w fun e w' => e = .returned (.bool (oddP n)) ∧ w = w' := by
  by_cases h : n % 2 = 1
  · have h1 : ((n : Int) % 2 == 1) = true := by rw [beq_iff_eq]; omega
    have e : oddP n = decide (n ≤ 7) := by simp [oddP, h]
    rw [e]
    clear h e
    go_enter Tryd.func53, Tryd.ntmps53
    go_wp2
    go_ret
    exact ⟨ret_bool (by simp; omega), rfl⟩
  · have h1 : ((n : Int) % 2 == 1) = false := by rw [beq_eq_false_iff_ne]; omega
    have e : oddP n = false := by simp [oddP, h]
    rw [e]
    clear h e
    go_enter Tryd.func53, Tryd.ntmps53
    go_wp2
    go_ret
    exact ⟨rfl, rfl⟩

theorem fact_any (r : Nat → Addr) (k : Int) (v : Value) (xs : List Int) (w : World) (hg : Glob r w) (h : IntsAt w v xs) (hl : xs.length ≤ 17592186044416) :
    Calls Tryd.prog 52 #[.int .i64 k, v] w (Ret1 (fun x w' => ErrIs r w' (factP k xs) x) w) := by
  have hlen := h.len
  by_cases hk : k < 1 ∨ 4 < k
  · rw [factP, if_pos hk]
    clear h
    replace hg := Lib.hid hg
    rcases hk with hk | hk <;>
    (go_enter Tryd.func52, Tryd.ntmps52
     go_wp2_with fail
     refine (add_wrong r _ _ _ hg.out (by decide) (by decide)).mono ?_
     rintro e w' ⟨x, rfl, hb, he⟩
     go_wp2
     go_ret
     exact ⟨_, rfl, hb, he⟩)
  rw [factP, if_neg hk]
  have hk1 : 1 ≤ k := by omega
  have hk4 : k ≤ 4 := by omega
  clear hk
  replace hg := Lib.hid hg
  cases ho : oddP xs.length
  · rw [if_pos rfl]
    clear h
    replace ho := Lib.hid ho
    go_enter Tryd.func52, Tryd.ntmps52
    go_wp2_with fail
    refine (odd_any _ _ hl).mono ?_
    rintro e w' ⟨rfl, rfl⟩
    rw [ho.out]
    go_wp2_with fail
    refine (add_wrong r _ _ _ hg.out (by decide) (by decide)).mono ?_
    rintro e w' ⟨x, rfl, hb, he⟩
    go_wp2
    go_ret
    exact ⟨_, rfl, hb, he⟩
  · rw [if_neg (by decide)]
    replace ho := Lib.hid ho
    replace h := Lib.hid h
    go_enter Tryd.func52, Tryd.ntmps52
    go_wp2_with fail
    refine (odd_any _ _ hl).mono ?_
    rintro e w' ⟨rfl, rfl⟩
    rw [ho.out]
    go_wp2_with fail
    refine (numbers_any r _ _ v xs _ hg.out h.out hl (by decide) (by decide)).mono ?_
    rintro e w' ⟨x, rfl, hb, he⟩
    go_wp2
    go_ret
    exact ⟨_, rfl, hb, he⟩

/-- The zero rule's value. -/
abbrev zRule : Value := .agg #[.int .i64 0, .int .i64 0, .slice none 0 0]

theorem make_bad0 (r : Nat → Addr) (k R : Int) (v : Value) (w : World) (hg : Glob r w) (h : k < 1 ∨ 4 < k ∨ R < 0 ∨ 3 < R) :
    Calls Tryd.prog 14 #[.int .i64 k, .int .i64 R, v] w (Ret2 (fun x y w' => x = zRule ∧ ErrIs r w' (fresh sAdditive 0 3) y) w) := by
  have hb0 := (Below.refl w.heap.size w).alloc (Nat.le_refl _) (.cells #[.int .i64 0, .int .i64 0, .slice none 0 0] 24)
  have hg := Lib.hid (hg.below hb0)
  replace h := Lib.hid h
  go_enter Tryd.func14, Tryd.ntmps14
  go_wp2_with fail
  refine (size_bad r _ _ _ hg.out h.out).mono ?_
  rintro e w1 ⟨x, y, rfl, hb, rfl, he⟩
  obtain ⟨T, a, rfl⟩ := he.some_shape
  clear he
  go_wp2_with fail
  refine (add_wrong r _ _ _ (hg.out.below hb) (by decide) (by decide)).mono ?_
  rintro e w2 ⟨x, rfl, hb', he⟩
  have hbb := hb.trans (hb'.mono hb.size)
  obtain ⟨z0, z1, z2, f0, f1, f2⟩ := cells3 hbb
  replace he := Lib.hid he
  go_wp2
  rw [setCell_self3 z0 z1 z2]
  refine bodyPost_ret (v := .tuple #[zRule, x]) (by simp [results, Tryd.results14, go_sem, z0, z1, z2]) rfl ⟨_, _, rfl, hb0.trans (hbb.mono (by simp)), rfl, he.out⟩

theorem make_bad1 (r : Nat → Addr) (K R : Nat) (v : Value) (f : List Int) (w : World) (hg : Glob r w) (h : IntsAt w v f) (h1 : 1 ≤ K) (h4 : K ≤ 4) (h3 : R ≤ 3) (hl : f.length ≠ 2 * R + 1) :
    Calls Tryd.prog 14 #[.int .i64 K, .int .i64 R, v] w (Ret2 (fun x y w' => x = zRule ∧ ErrIs r w' (fresh sAdditive 1 3) y) w) := by
  have hb0 := (Below.refl w.heap.size w).alloc (Nat.le_refl _) (.cells #[.int .i64 0, .int .i64 0, .slice none 0 0] 24)
  have hg := Lib.hid (hg.below hb0)
  have hlen := h.len
  have hne : ((f.length : Int) != 2 * (R : Int) + 1) = true := by rw [bne_iff_ne]; omega
  clear h hl
  go_enter Tryd.func14, Tryd.ntmps14
  go_wp2_with fail
  refine (size_ok K R _ h1 h4 h3).mono ?_
  rintro e w1 ⟨rfl, rfl⟩
  go_wp2_with fail
  refine (add_wrong r _ _ _ hg.out (by decide) (by decide)).mono ?_
  rintro e w2 ⟨x, rfl, hbb, he⟩
  obtain ⟨z0, z1, z2, f0, f1, f2⟩ := cells3 hbb
  replace he := Lib.hid he
  go_wp2
  rw [setCell_self3 z0 z1 z2]
  refine bodyPost_ret (v := .tuple #[zRule, x]) (by simp [results, Tryd.results14, go_sem, z0, z1, z2]) rfl ⟨_, _, rfl, hb0.trans (hbb.mono (by simp)), rfl, he.out⟩

theorem make_num (r : Nat → Addr) (K R : Nat) (v : Value) (f : List Int) (t : Int × List (ByteArray × Int)) (w : World) (hg : Glob r w) (h : IntsAt w v f) (h1 : 1 ≤ K) (h4 : K ≤ 4) (h3 : R ≤ 3) (hl : f.length = 2 * R + 1) (hn : numP K f 0 = some t) :
    Calls Tryd.prog 14 #[.int .i64 K, .int .i64 R, v] w (Ret2 (fun x y w' => x = zRule ∧ ErrIs r w' (some t) y) w) := by
  have hb0 := (Below.refl w.heap.size w).alloc (Nat.le_refl _) (.cells #[.int .i64 0, .int .i64 0, .slice none 0 0] 24)
  have hg := Lib.hid (hg.below hb0)
  have hlen := h.len
  have h := Lib.hid (h.below hb0)
  have hne : ((f.length : Int) != 2 * (R : Int) + 1) = false := by rw [bne_eq_false_iff_eq]; omega
  replace hl := Lib.hid hl
  replace hn := Lib.hid hn
  go_enter Tryd.func14, Tryd.ntmps14
  go_wp2_with fail
  refine (size_ok K R _ h1 h4 h3).mono ?_
  rintro e w1 ⟨rfl, rfl⟩
  go_wp2_with fail
  refine (numbers_any r _ _ v f _ hg.out h.out (by have := hl.out; omega) (by decide) (by decide)).mono ?_
  rintro e w2 ⟨x, rfl, hbb, he⟩
  rw [hn.out] at he
  obtain ⟨T, a, rfl⟩ := he.some_shape
  obtain ⟨z0, z1, z2, f0, f1, f2⟩ := cells3 hbb
  replace he := Lib.hid he
  go_wp2
  rw [setCell_self3 z0 z1 z2]
  refine bodyPost_ret (v := .tuple #[zRule, .iface T (.pointer (some a))]) (by simp [results, Tryd.results14, go_sem, z0, z1, z2]) rfl ⟨_, _, rfl, hb0.trans (hbb.mono (by simp)), rfl, he.out⟩

theorem make_ok (r : Nat → Addr) (K R : Nat) (v : Value) (f : List Int) (w : World) (hg : Glob r w) (h : IntsAt w v f) (h1 : 1 ≤ K) (h4 : K ≤ 4) (h3 : R ≤ 3) (hl : f.length = 2 * R + 1) (hs : Syms K f) :
    Calls Tryd.prog 14 #[.int .i64 K, .int .i64 R, v] w (Ret2 (fun x y w' => y = .nilIface ∧ ∃ a n c, x = .agg #[.int .i64 K, .int .i64 R, .slice a n c] ∧ OwnI w.heap.size w' (.slice a n c) (sumT K f)) w) := by
  have hb0 := (Below.refl w.heap.size w).alloc (Nat.le_refl _) (.cells #[.int .i64 0, .int .i64 0, .slice none 0 0] 24)
  have hg := Lib.hid (hg.below hb0)
  have hlen := h.len
  have h := Lib.hid (h.below hb0)
  have hne : ((f.length : Int) != 2 * (R : Int) + 1) = false := by rw [bne_eq_false_iff_eq]; omega
  replace hl := Lib.hid hl
  replace hs := Lib.hid hs
  go_enter Tryd.func14, Tryd.ntmps14
  go_wp2_with fail
  refine (size_ok K R _ h1 h4 h3).mono ?_
  rintro e w1 ⟨rfl, rfl⟩
  go_wp2_with fail
  refine (numbers_any r _ _ v f _ hg.out h.out (by have := hl.out; omega) (by decide) (by decide)).mono ?_
  rintro e w2 ⟨x, rfl, hbb, he⟩
  rw [hs.out.num] at he
  obtain rfl := he.none_eq
  clear he
  go_wp2_with fail
  refine (sum_any K v f _ (h.out.below hbb) hs.out h1 h4 (by have := hl.out; omega)).mono ?_
  rintro e w3 ⟨x, rfl, hb3, a, n, c, rfl, ho⟩
  have hb23 := hbb.trans (hb3.mono hbb.size)
  obtain ⟨z0, z1, z2, f0, f1, f2⟩ := cells3 hb23
  replace ho := Lib.hid ho
  have hl2 : ((f.length / 2 : Nat) : Int) = R := by have := hl.out; omega
  rw [hl2]
  clear hl2
  go_wp2
  refine bodyPost_ret (v := .tuple #[.agg #[.int .i64 K, .int .i64 R, .slice a n c], .nilIface]) (by simp [results, Tryd.results14, go_sem, z0, z1, z2]) rfl ⟨_, _, rfl, ?_, rfl, a, n, c, rfl, ?_⟩
  · exact (((hb0.trans (hb23.mono (by simp))).setCell (by simp) _).setCell (by simp) _).setCell (by simp) _
  · have hs2 := hbb.size
    simp at hs2
    exact (((ho.out.setBelowBase (by simp; omega) _).setBelowBase (by simp; omega) _).setBelowBase (by simp; omega) _).mono (by omega)
end Go.Proofs.YtmddapkhipmlgaaDoor
