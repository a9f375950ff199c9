/-
  Walk: edenref18.Make.
  Walks: additive.Of.
  Walks: additive.Onto, additive.One.
  Walks: edenref18.Onto, One.
  Walk: edenref18.One.
  copy onto an owned slice; a slice cut at its front; edenraw.Lent, Kept, LentRule, KeptRule, Rules.
  Plain mathematics: the reference's factors of a rule, the first found first.
  Walk: edenref18.Of.
  Plain mathematics: the document's sides, mirrored rule and preimages with given ends are the program's.
  Walks: slices.Grow of nil, slices.Concat, slices.Reverse at []int; word.Back.
  Walks: package permut.
  Walks: permut.check, permut.fits.
  Walk: permut.Right.
  Walk: rule.Step at a rule and a word of its symbols.
  Walks: forms.symbol, forms.behind$1.
-/
import Derived.Test.YtmddapkhipmlgaaDoorMPa2
import Derived.Deep.RegionWith
import Derived.RegionTactic
import Derived.Laws.CopyOwn
import Derived.Deep.RegionHeld3
import Derived.Lib.AppendZeros
import Derived.BigQuiet
import Derived.Deep.QuietTactic
namespace Go.Proofs.YtmddapkhipmlgaaDoor
open Go.RowKit
set_option maxRecDepth 100000

theorem m18_bad0 (k R : Int) (v : Value) (w : World) (h : k < 1 ∨ 4 < k ∨ R < 0 ∨ 3 < R) :
    Calls Tryd.prog 31 #[.int .i64 k, .int .i64 R, v] w (Ret2 (fun x y w' => x = zRule ∧ EOwn w.heap.size w' (fresh sAdditive 0 3) y) w) := by
  have b0 := Below.step (belowAlloc w (.cells #[.int .i64 0, .int .i64 0, .slice none 0 0] 24)) (belowAlloc _ (.cells #[.int .i64 0, .slice none 0 0, .slice none 0 0] 55))
  have q6 : Box3 ((w.alloc (.cells #[.int .i64 0, .int .i64 0, .slice none 0 0] 24)).alloc (.cells #[.int .i64 0, .slice none 0 0, .slice none 0 0] 55)) w.heap.size (.int .i64 0) (.int .i64 0) (.slice none 0 0) := by simp [Box3, go_sem]
  have q7 : Box3 ((w.alloc (.cells #[.int .i64 0, .int .i64 0, .slice none 0 0] 24)).alloc (.cells #[.int .i64 0, .slice none 0 0, .slice none 0 0] 55)) (w.heap.size + 1) (.int .i64 0) (.slice none 0 0) (.slice none 0 0) := by simp [Box3, go_sem]
  by_cases h1 : k < 1
  · clear h
    go_enter Tryd.func31, Tryd.ntmps31
    go_wp2_with fail
    refine (raw_new _ _ _ _).mono ?_
    rintro e w1 ⟨x, rfl, b1, he⟩
    obtain ⟨q, a1, n1, c1, a2, n2, c2, rfl⟩ := he.shape
    obtain ⟨⟨z0, z1, z2⟩, g0, g1, g2⟩ := q6.below b1
    obtain ⟨⟨y0, y1, y2⟩, f0, f1, f2⟩ := q7.below b1
    replace he := Lib.hid he
    go_wp2
    exact bodyPost_ret (v := .tuple #[zRule, .agg #[.int .i64 q, .slice a1 n1 c1, .slice a2 n2 c2]]) (by simp [results, Tryd.results31, go_sem, y0, y1, y2, z0, z1, z2]) rfl ⟨_, _, rfl, below_set3 (below_set3 (Below.step b0 b1) (Nat.le_refl _) _ _ _) (by simp) _ _ _, rfl, ((he.out.set3 (by simp; omega) _ _ _).set3 (by simp) _ _ _).mono (by simp; omega)⟩
  by_cases h2 : 4 < k
  · clear h
    go_enter Tryd.func31, Tryd.ntmps31
    go_wp2_with fail
    refine (raw_new _ _ _ _).mono ?_
    rintro e w1 ⟨x, rfl, b1, he⟩
    obtain ⟨q, a1, n1, c1, a2, n2, c2, rfl⟩ := he.shape
    obtain ⟨⟨z0, z1, z2⟩, g0, g1, g2⟩ := q6.below b1
    obtain ⟨⟨y0, y1, y2⟩, f0, f1, f2⟩ := q7.below b1
    replace he := Lib.hid he
    go_wp2
    exact bodyPost_ret (v := .tuple #[zRule, .agg #[.int .i64 q, .slice a1 n1 c1, .slice a2 n2 c2]]) (by simp [results, Tryd.results31, go_sem, y0, y1, y2, z0, z1, z2]) rfl ⟨_, _, rfl, below_set3 (below_set3 (Below.step b0 b1) (Nat.le_refl _) _ _ _) (by simp) _ _ _, rfl, ((he.out.set3 (by simp; omega) _ _ _).set3 (by simp) _ _ _).mono (by simp; omega)⟩
  by_cases h3 : R < 0
  · clear h
    go_enter Tryd.func31, Tryd.ntmps31
    go_wp2_with fail
    refine (raw_new _ _ _ _).mono ?_
    rintro e w1 ⟨x, rfl, b1, he⟩
    obtain ⟨q, a1, n1, c1, a2, n2, c2, rfl⟩ := he.shape
    obtain ⟨⟨z0, z1, z2⟩, g0, g1, g2⟩ := q6.below b1
    obtain ⟨⟨y0, y1, y2⟩, f0, f1, f2⟩ := q7.below b1
    replace he := Lib.hid he
    go_wp2
    exact bodyPost_ret (v := .tuple #[zRule, .agg #[.int .i64 q, .slice a1 n1 c1, .slice a2 n2 c2]]) (by simp [results, Tryd.results31, go_sem, y0, y1, y2, z0, z1, z2]) rfl ⟨_, _, rfl, below_set3 (below_set3 (Below.step b0 b1) (Nat.le_refl _) _ _ _) (by simp) _ _ _, rfl, ((he.out.set3 (by simp; omega) _ _ _).set3 (by simp) _ _ _).mono (by simp; omega)⟩
  have h4 : 3 < R := by omega
  clear h
  go_enter Tryd.func31, Tryd.ntmps31
  go_wp2_with fail
  refine (raw_new _ _ _ _).mono ?_
  rintro e w1 ⟨x, rfl, b1, he⟩
  obtain ⟨q, a1, n1, c1, a2, n2, c2, rfl⟩ := he.shape
  obtain ⟨⟨z0, z1, z2⟩, g0, g1, g2⟩ := q6.below b1
  obtain ⟨⟨y0, y1, y2⟩, f0, f1, f2⟩ := q7.below b1
  replace he := Lib.hid he
  go_wp2
  exact bodyPost_ret (v := .tuple #[zRule, .agg #[.int .i64 q, .slice a1 n1 c1, .slice a2 n2 c2]]) (by simp [results, Tryd.results31, go_sem, y0, y1, y2, z0, z1, z2]) rfl ⟨_, _, rfl, below_set3 (below_set3 (Below.step b0 b1) (Nat.le_refl _) _ _ _) (by simp) _ _ _, rfl, ((he.out.set3 (by simp; omega) _ _ _).set3 (by simp) _ _ _).mono (by simp; omega)⟩

theorem m18_bad1 (K R : Nat) (v : Value) (f : List Int) (w : World) (hf : IntsAt w v f) (h1 : 1 ≤ K) (h4 : K ≤ 4) (h3 : R ≤ 3) (hl : f.length ≠ 2 * R + 1) :
    Calls Tryd.prog 31 #[.int .i64 K, .int .i64 R, v] w (Ret2 (fun x y w' => x = zRule ∧ EOwn w.heap.size w' (fresh sAdditive 1 3) y) w) := by
  have b0 := Below.step (belowAlloc w (.cells #[.int .i64 0, .int .i64 0, .slice none 0 0] 24)) (belowAlloc _ (.cells #[.int .i64 0, .slice none 0 0, .slice none 0 0] 55))
  have q6 : Box3 ((w.alloc (.cells #[.int .i64 0, .int .i64 0, .slice none 0 0] 24)).alloc (.cells #[.int .i64 0, .slice none 0 0, .slice none 0 0] 55)) w.heap.size (.int .i64 0) (.int .i64 0) (.slice none 0 0) := by simp [Box3, go_sem]
  have q7 : Box3 ((w.alloc (.cells #[.int .i64 0, .int .i64 0, .slice none 0 0] 24)).alloc (.cells #[.int .i64 0, .slice none 0 0, .slice none 0 0] 55)) (w.heap.size + 1) (.int .i64 0) (.slice none 0 0) (.slice none 0 0) := by simp [Box3, go_sem]
  have hlen := hf.len
  have hm := hf.len_le
  have hne : ((f.length : Int) != 2 * (R : Int) + 1) = true := by rw [bne_iff_ne]; omega
  clear hf hl
  go_enter Tryd.func31, Tryd.ntmps31
  go_wp2_with fail
  refine (raw_new _ _ _ _).mono ?_
  rintro e w1 ⟨x, rfl, b1, he⟩
  obtain ⟨q, a1, n1, c1, a2, n2, c2, rfl⟩ := he.shape
  obtain ⟨⟨z0, z1, z2⟩, g0, g1, g2⟩ := q6.below b1
  obtain ⟨⟨y0, y1, y2⟩, f0, f1, f2⟩ := q7.below b1
  replace he := Lib.hid he
  go_wp2
  exact bodyPost_ret (v := .tuple #[zRule, .agg #[.int .i64 q, .slice a1 n1 c1, .slice a2 n2 c2]]) (by simp [results, Tryd.results31, go_sem, y0, y1, y2, z0, z1, z2]) rfl ⟨_, _, rfl, below_set3 (below_set3 (Below.step b0 b1) (Nat.le_refl _) _ _ _) (by simp) _ _ _, rfl, ((he.out.set3 (by simp; omega) _ _ _).set3 (by simp) _ _ _).mono (by simp; omega)⟩

theorem m18_num (K R : Nat) (v : Value) (f : List Int) (i : Nat) (w : World) (hf : IntsAt w v f) (h1 : 1 ≤ K) (h4 : K ≤ 4) (h3 : R ≤ 3) (hl : f.length = 2 * R + 1) (hi : idxOf (odd1 K) f = i) :
    Calls Tryd.prog 31 #[.int .i64 K, .int .i64 R, v] w (Ret2 (fun x y w' => x = zRule ∧ EOwn w.heap.size w' (fresh sAdditive i 2) y) w) := by
  have b0 := Below.step (belowAlloc w (.cells #[.int .i64 0, .int .i64 0, .slice none 0 0] 24)) (belowAlloc _ (.cells #[.int .i64 0, .slice none 0 0, .slice none 0 0] 55))
  have q6 : Box3 ((w.alloc (.cells #[.int .i64 0, .int .i64 0, .slice none 0 0] 24)).alloc (.cells #[.int .i64 0, .slice none 0 0, .slice none 0 0] 55)) w.heap.size (.int .i64 0) (.int .i64 0) (.slice none 0 0) := by simp [Box3, go_sem]
  have q7 : Box3 ((w.alloc (.cells #[.int .i64 0, .int .i64 0, .slice none 0 0] 24)).alloc (.cells #[.int .i64 0, .slice none 0 0, .slice none 0 0] 55)) (w.heap.size + 1) (.int .i64 0) (.slice none 0 0) (.slice none 0 0) := by simp [Box3, go_sem]
  have hlen := hf.len
  have hm := hf.len_le
  have hne : ((f.length : Int) != 2 * (R : Int) + 1) = false := by rw [bne_eq_false_iff_eq]; omega
  replace hf := Lib.hid (hf.below b0)
  replace hi := Lib.hid hi
  clear hl
  go_enter Tryd.func31, Tryd.ntmps31
  go_wp2_with fail
  refine (ref_bad K v f _ hf.out).mono ?_
  rintro e w1 ⟨rfl, rfl⟩
  rw [hi.out]
  go_wp2_with fail
  refine (raw_new _ _ _ _).mono ?_
  rintro e w1 ⟨x, rfl, b1, he⟩
  obtain ⟨q, a1, n1, c1, a2, n2, c2, rfl⟩ := he.shape
  obtain ⟨⟨z0, z1, z2⟩, g0, g1, g2⟩ := q6.below b1
  obtain ⟨⟨y0, y1, y2⟩, f0, f1, f2⟩ := q7.below b1
  replace he := Lib.hid he
  go_wp2
  exact bodyPost_ret (v := .tuple #[zRule, .agg #[.int .i64 q, .slice a1 n1 c1, .slice a2 n2 c2]]) (by simp [results, Tryd.results31, go_sem, y0, y1, y2, z0, z1, z2]) rfl ⟨_, _, rfl, below_set3 (below_set3 (Below.step b0 b1) (Nat.le_refl _) _ _ _) (by simp) _ _ _, rfl, ((he.out.set3 (by simp; omega) _ _ _).set3 (by simp) _ _ _).mono (by simp; omega)⟩

theorem m18_ok (K R : Nat) (v : Value) (f : List Int) (w : World) (hf : IntsAt w v f) (h1 : 1 ≤ K) (h4 : K ≤ 4) (h3 : R ≤ 3) (hl : f.length = 2 * R + 1) (hs : Syms K f) :
    Calls Tryd.prog 31 #[.int .i64 K, .int .i64 R, v] w (Ret2 (fun x y w' => y = zErr ∧ ∃ a n c, x = .agg #[.int .i64 K, .int .i64 R, .slice a n c] ∧ OwnI w.heap.size w' (.slice a n c) (sumT K f)) w) := by
  have b0 := Below.step (belowAlloc w (.cells #[.int .i64 0, .int .i64 0, .slice none 0 0] 24)) (belowAlloc _ (.cells #[.int .i64 0, .slice none 0 0, .slice none 0 0] 55))
  have q6 : Box3 ((w.alloc (.cells #[.int .i64 0, .int .i64 0, .slice none 0 0] 24)).alloc (.cells #[.int .i64 0, .slice none 0 0, .slice none 0 0] 55)) w.heap.size (.int .i64 0) (.int .i64 0) (.slice none 0 0) := by simp [Box3, go_sem]
  have q7 : Box3 ((w.alloc (.cells #[.int .i64 0, .int .i64 0, .slice none 0 0] 24)).alloc (.cells #[.int .i64 0, .slice none 0 0, .slice none 0 0] 55)) (w.heap.size + 1) (.int .i64 0) (.slice none 0 0) (.slice none 0 0) := by simp [Box3, go_sem]
  have hlen := hf.len
  have hm := hf.len_le
  have hne : ((f.length : Int) != 2 * (R : Int) + 1) = false := by rw [bne_eq_false_iff_eq]; omega
  replace hf := Lib.hid (hf.below b0)
  have hi := Lib.hid hs.odd
  replace hs := Lib.hid hs
  replace hl := Lib.hid hl
  go_enter Tryd.func31, Tryd.ntmps31
  go_wp2_with fail
  refine (ref_bad K v f _ hf.out).mono ?_
  rintro e w1 ⟨rfl, rfl⟩
  rw [hi.out]
  go_wp2_with fail
  refine (ref_sum K v f _ hf.out h1 h4 (by have := hl.out; omega) hs.out).mono ?_
  rintro e w1 ⟨x, rfl, b1, a, n, c, rfl, ho⟩
  obtain ⟨⟨z0, z1, z2⟩, g0, g1, g2⟩ := q6.below b1
  obtain ⟨⟨y0, y1, y2⟩, f0, f1, f2⟩ := q7.below b1
  replace ho := Lib.hid ho
  have hl2 : ((f.length / 2 : Nat) : Int) = R := by have := hl.out; omega
  rw [hl2]
  clear hl2
  go_wp2
  refine bodyPost_ret (v := .tuple #[.agg #[.int .i64 K, .int .i64 R, .slice a n c], zErr]) (by simp [results, Tryd.results31, go_sem, y0, y1, y2, z0, z1, z2]) rfl ⟨_, _, rfl, below_set3 (below_set3 (Below.step b0 b1) (Nat.le_refl _) _ _ _) (by simp) _ _ _, rfl, a, n, c, rfl, ?_⟩
  exact (((((((ho.out.setBelowBase (a := ⟨w.heap.size, 0, none⟩) (by simp; omega) _).setBelowBase (a := ⟨w.heap.size, 1, none⟩) (by simp; omega) _).setBelowBase (a := ⟨w.heap.size, 2, none⟩) (by simp; omega) _).setBelowBase (a := ⟨w.heap.size + 1, 0, none⟩) (by simp) _).setBelowBase (a := ⟨w.heap.size + 1, 1, none⟩) (by simp) _).setBelowBase (a := ⟨w.heap.size + 1, 2, none⟩) (by simp) _)).mono (by simp; omega)

/-- edenref18.Make at all factors. -/
theorem m18_any (k R : Int) (v : Value) (f : List Int) (w : World) (hf : IntsAt w v f) :
    Calls Tryd.prog 31 #[.int .i64 k, .int .i64 R, v] w (Ret2 (fun x y w' => ∃ k' R' a n c, x = .agg #[.int .i64 k', .int .i64 R', .slice a n c] ∧ EOwn w.heap.size w' (makeP k R f) y ∧
      (makeP k R f = none → k' = k ∧ R' = R ∧ OwnI w.heap.size w' (.slice a n c) (sumT k.toNat f)) ∧ (makeP k R f ≠ none → k' = 0 ∧ R' = 0 ∧ (.slice a n c : Value) = .slice none 0 0)) w) := by
  have fin : ∀ {t' : PErr}, t' = makeP k R f → makeP k R f ≠ none → ∀ e w', (Ret2 (fun x y w' => x = zRule ∧ EOwn w.heap.size w' t' y) w) e w' → Ret2 (fun x y w' => ∃ k' R' a n c, x = .agg #[.int .i64 k', .int .i64 R', .slice a n c] ∧ EOwn w.heap.size w' (makeP k R f) y ∧
      (makeP k R f = none → k' = k ∧ R' = R ∧ OwnI w.heap.size w' (.slice a n c) (sumT k.toNat f)) ∧ (makeP k R f ≠ none → k' = 0 ∧ R' = 0 ∧ (.slice a n c : Value) = .slice none 0 0)) w e w' := by
    rintro t' rfl hn e w' ⟨x, y, he, hb, rfl, hy⟩
    exact ⟨_, _, he, hb, 0, 0, none, 0, 0, rfl, hy, fun h => absurd h hn, fun _ => ⟨rfl, rfl, rfl⟩⟩
  by_cases h1 : k < 1 ∨ 4 < k ∨ R < 0 ∨ 3 < R
  · have e : fresh sAdditive 0 3 = makeP k R f := by rw [makeP, if_pos h1]
    exact (m18_bad0 k R v w h1).mono (fin e (by rw [← e]; simp [fresh]))
  obtain ⟨K, rfl⟩ := Int.eq_ofNat_of_zero_le (show 0 ≤ k by omega)
  obtain ⟨Q, rfl⟩ := Int.eq_ofNat_of_zero_le (show 0 ≤ R by omega)
  by_cases h2 : (f.length : Int) ≠ 2 * Q + 1
  · have e : fresh sAdditive 1 3 = makeP K Q f := by rw [makeP, if_neg h1, if_pos h2]
    exact (m18_bad1 K Q v f w hf (by omega) (by omega) (by omega) (by omega)).mono (fin e (by rw [← e]; simp [fresh]))
  rcases syms_or K f with hs | ⟨i, hi, hlt⟩
  · have e : makeP K Q f = none := by rw [makeP, if_neg h1, if_neg h2, hs.num]
    refine (m18_ok K Q v f w hf (by omega) (by omega) (by omega) (by omega) hs).mono ?_
    rintro _ w' ⟨x, y, he, hb, rfl, a, n, c, rfl, ho⟩
    exact ⟨_, _, he, hb, _, _, a, n, c, rfl, by rw [e]; rfl, fun _ => ⟨rfl, rfl, by rw [Int.toNat_natCast]; exact ho⟩, fun h => absurd e h⟩
  · have e : fresh sAdditive i 2 = makeP K Q f := by rw [makeP, if_neg h1, if_neg h2, numP, if_neg (by omega), hi, Int.zero_add]
    exact (m18_num K Q v f i w hf (by omega) (by omega) (by omega) (by omega) hi).mono (fin e (by rw [← e]; simp [fresh]))
end Go.Proofs.YtmddapkhipmlgaaDoor

namespace Go.Proofs.YtmddapkhipmlgaaDoor
open Go.RowKit
set_option maxRecDepth 100000

theorem of_bad (r : Nat → Addr) (k R : Int) (v : Value) (xs : List Int) (t : Int × List (ByteArray × Int)) (w : World) (hg : Glob r w) (h : IntsAt w v xs) (hc : checkP k R xs = some t) :
    Calls Tryd.prog 12 #[.agg #[.int .i64 k, .int .i64 R, v]] w (Ret3 (fun x y z w' => x = .slice none 0 0 ∧ y = .bool false ∧ ErrIs r w' (under sAdditive 0 (some t)) z) w) := by
  obtain ⟨a, n, c, hv⟩ := h.shape
  subst hv
  have hb0 := (Below.refl w.heap.size w).alloc (Nat.le_refl _) (.cells #[.int .i64 k, .int .i64 R, .slice a n c] 24)
  have hg := Lib.hid (hg.below hb0)
  have h := Lib.hid (h.below hb0)
  replace hc := Lib.hid hc
  go_enter Tryd.func12, Tryd.ntmps12
  go_wp2_with fail
  refine (check_any r k R _ xs _ hg.out h.out).mono ?_
  rintro e w1 ⟨x, rfl, hb, he⟩
  rw [hc.out] at he
  have he' := Lib.hid he
  obtain ⟨T, p, rfl⟩ := he.some_shape
  clear he
  go_wp2_with fail
  refine (under_any r _ _ _ _ _ he'.out).mono ?_
  rintro e w2 ⟨x, rfl, hb', he⟩
  go_wp2
  go_ret3
  exact ⟨_, _, _, rfl, (hb0.trans (hb.mono (by simp))).trans (hb'.mono (by have := hb.size; simp at this; omega)), rfl, rfl, he⟩

set_option maxHeartbeats 1000000 in
theorem of_ok (K R : Nat) (v : Value) (xs : List Int) (w : World) (h : IntsAt w v xs) (hr : RuleOk K R xs) :
    Calls Tryd.prog 12 #[.agg #[.int .i64 K, .int .i64 R, v]] w (Ret3 (fun x y z w' => z = .nilIface ∧ y = .bool (isSum K R xs) ∧ (isSum K R xs = true → OwnI w.heap.size w' x (facs K R xs)) ∧ (isSum K R xs = false → x = .slice none 0 0)) w) := by
  obtain ⟨va, vn, vc, hv⟩ := h.shape
  subst hv
  have hb0 := (Below.refl w.heap.size w).alloc (Nat.le_refl _) (.cells #[.int .i64 K, .int .i64 R, .slice va vn vc] 24)
  have h0 := Lib.hid (h.below hb0)
  clear h
  have hk1 := hr.k1
  have hk4 := hr.k4
  have hr3 := hr.r3
  replace hr := Lib.hid hr
  obtain ⟨n, hn⟩ : ∃ n, n = 2 * R + 1 := ⟨_, rfl⟩
  have hn7 : n ≤ 7 := by omega
  have hnc : (2 * (R : Int) + 1) = (n : Int) := by omega
  replace hn := Lib.hid hn
  go_enter Tryd.func12, Tryd.ntmps12
  go_wp2_with fail
  refine (check_ok K R _ xs _ h0.out hr.out).mono ?_
  rintro e w1 ⟨x, rfl, hb, rfl⟩
  obtain ⟨z0, z1, z2, f0, f1, f2⟩ := cells3 hb
  go_wp2_with (at_make; refine wpl_make rfl _ _ rfl _ rfl rfl (by omega) (by omega) ?_)
  intro fv w2 ho hb2
  clear z0 z1 z2 f0 f1 f2
  have hfl : ∀ w', (Builtin.len_ #[22] 3 #[fv]).run Tryd.prog w' = .ok (.int .i64 n) w' := by have := ho.at.len; rwa [List.length_replicate] at this
  go_wp2
  go_loopw [7, 22] (fun g i wr => ∃ j : Nat, j ≤ n ∧ i = .int .i64 j ∧ g = .int .i64 (wI K j) ∧ OwnI w1.heap.size wr fv (facI K n xs j) ∧ Below w1.heap.size w1 wr) (fun _ i _ => n - (intOf i).toNat)
  case atStart => exact ⟨0, by omega, rfl, by unfold wI; split <;> rfl, by rw [facI_zero]; exact ho, hb2⟩
  case round =>
    obtain ⟨j, hj, rfl, rfl, ho, hbr⟩ := hrel
    obtain ⟨wo, rfl⟩ : ∃ wo : World, wo = wr := ⟨_, rfl⟩
    have hbw := hb.trans (hbr.mono hb.size)
    obtain ⟨z0, z1, z2, f0, f1, f2⟩ := cells3 hbw
    by_cases hlt : j < n
    · by_cases hK : 1 < K
      · have hxl : pw K j < xs.length := by rw [hr.out.len, ← hn.out]; exact pw_lt hK hlt
        have ha := h0.out.below hbw
        have i1 := ha.idx (pw K j) hxl
        have c1 := ha.cell (pw K j) hxl
        have i2 : ∀ w', (Instr.indexAt 22 fv (.int .i64 ((n : Int) - 1 - (j : Int)))).run Tryd.prog w' = .ok (.pointer (some (valAt fv (n - 1 - j)))) w' := by
          intro w'
          have := ho.at.idxI ((n : Int) - 1 - (j : Int)) (by omega) (by rw [facI_length]; omega) w'
          rwa [show ((n : Int) - 1 - (j : Int)).toNat = n - 1 - j by omega] at this
        have c2 := ho.at.cell (n - 1 - j) (by rw [facI_length]; omega)
        have g2 := ho.frz (n - 1 - j) (by rw [facI_length]; omega)
        have hset := Lib.hid (ho.set (n - 1 - j) (by rw [facI_length]; omega) xs[pw K j])
        have hsb := Lib.hid (ho.setBelow hbr (n - 1 - j) (by rw [facI_length]; omega) (.int .i64 xs[pw K j]))
        have hne : ∀ o, (valAt fv (n - 1 - j) = ⟨w.heap.size, o, none⟩) = False := by
          intro o
          have hbk := ho.blkB (n - 1 - j) (by rw [facI_length]; omega)
          have hs := hb.size
          simp at hs
          apply eq_false
          intro e
          rw [e] at hbk
          simp at hbk
          omega
        have hfe : Hid ((facI K n xs j).set (n - 1 - j) xs[pw K j] = facI K n xs (j + 1)) := by
          show _ = _
          simp only [facI, if_pos hK]
          exact facL_succ K n xs j hlt hxl
        have hwj : wI K j = pw K j := if_pos hK
        have hwj1 : Hid (wI K (j + 1) = pw K j * K) := by show _ = _; rw [wI, if_pos hK, pw_succ]
        rw [hwj]
        clear hwj
        have hb1 : 0 ≤ (pw K j : Int) * (K : Int) := Int.mul_nonneg (by omega) (by omega)
        have hb2 : (pw K j : Int) * (K : Int) ≤ 16384 := by
          have := pw_le (i := j + 1) hk1 hk4 (by omega)
          rw [pw_succ] at this
          exact_mod_cast this
        go_wp2
        go_roundw
        case rel =>
          refine ⟨j + 1, by omega, by go_num, by rw [hwj1.out]; simp, ?_, hsb.out⟩
          rw [← hfe.out]; exact hset.out
        case measure => simp [intOf]; omega
      · have hfe : Hid (facI K n xs (j + 1) = facI K n xs j) := by show _ = _; simp only [facI, if_neg hK]
        have hwj1 : Hid (wI K (j + 1) = 1) := if_neg hK
        have hwj : wI K j = 1 := if_neg hK
        rw [hwj]
        clear hwj
        have hK1 : K = 1 := by omega
        clear hK
        have hKK : (K : Int) ≤ 1 := by omega
        have hKK1 : (1 : Int) ≤ K := by omega
        clear hK1
        go_wp2
        go_roundw
        case rel =>
          refine ⟨j + 1, by omega, by go_num, ?_, by rw [hfe.out]; exact ho, hbr⟩
          rw [hwj1.out]
        case measure => simp [intOf]; omega
    · obtain rfl : j = n := by omega
      have ha := h0.out.below hbw
      have hfac : facI K j xs j = facs K R xs := by rw [hn.out]; rfl
      rw [hfac] at ho
      clear hfac
      replace ha := Lib.hid ha
      replace ho := Lib.hid ho
      have hfs := Lib.hid (facs_syms hr.out)
      have hsz : w.heap.size < wo.heap.size := World.block_lt_of_cell? _ _ z0
      have hf7 : (facs K R xs).length ≤ 7 := by rw [facs_length]; omega
      have hfd := field_T
      go_wp2
      go_region_held3 (fun w' => w'.cell? ⟨w.heap.size, 0, none⟩ = some (.int .i64 K) ∧ w'.cell? ⟨w.heap.size, 2, none⟩ = some (.slice va vn vc)) (go_keep)
        (first | (go_at_call 48; refine (sum_any K fv (facs K R xs) _ (by exact ho.out.at) hfs.out hk1 hk4 hf7).mono ?_; rintro e w3 ⟨x, rfl, hb3, ua, un, uc, rfl, hu⟩; have y0 := (hb3.cell (p := ⟨w.heap.size, 0, none⟩) (by simp; omega)).trans z0; have y2 := (hb3.cell (p := ⟨w.heap.size, 2, none⟩) (by simp; omega)).trans z2) | (go_at_call 47; refine (equal_any _ _ (sumT K (facs K R xs)) xs _ (by exact hu.at) (by exact ha.out.drew.below hb3)).mono ?_; rintro e w4 hq; obtain ⟨rfl, hb4⟩ := hq.below; have y4 := (hb4.cell (p := ⟨w.heap.size, 0, none⟩) (World.block_lt_of_cell? _ _ y0)).trans y0; have y5 := (hb4.cell (p := ⟨w.heap.size, 2, none⟩) (World.block_lt_of_cell? _ _ y2)).trans y2))
      have hball : Below w.heap.size w w4 := (hb0.trans ((hbw.drew.trans (hb3.mono (by have := hbw.size; simp at this ⊢; omega))).mono (by simp))).trans (hb4.mono (by have := hb3.size; simp at this; omega))
      have hown : OwnI w.heap.size w4 fv (facs K R xs) := (((ho.out.drew).below hb3).below hb4).mono (by have := hb.size; simp at this; omega)
      replace hball := Lib.hid hball
      replace hown := Lib.hid hown
      clear y0 y2 y4 y5 hq
      cases hs : isSum K R xs
      · rw [show decide (sumT K (facs K R xs) = xs) = false from hs]
        replace hs := Lib.hid hs
        go_wp2
        go_ret3
        exact ⟨_, _, _, rfl, hball.out, rfl, (by rw [hs.out]; rfl), (fun h => by rw [hs.out] at h; cases h), fun _ => rfl⟩
      · rw [show decide (sumT K (facs K R xs) = xs) = true from hs]
        replace hs := Lib.hid hs
        go_wp2
        go_ret3
        exact ⟨_, _, _, rfl, hball.out, rfl, (by rw [hs.out]; rfl), fun _ => hown.out, (fun h => by rw [hs.out] at h; cases h)⟩
end Go.Proofs.YtmddapkhipmlgaaDoor

namespace Go.Proofs.YtmddapkhipmlgaaDoor
open Go.RowKit
set_option maxRecDepth 100000

theorem primes_any (K : Int) (w : World) (h1 : 1 ≤ K) (h4 : K ≤ 4) :
    Calls Tryd.prog 114 #[.int .i64 K] w (Ret1 (fun x w' => IntsAt w' x (primesP K)) w) := by
  have h : K = 1 ∨ K = 2 ∨ K = 3 ∨ K = 4 := by omega
  rcases h with rfl | rfl | rfl | rfl
  · go_enter Tryd.func114, Tryd.ntmps114
    go_wp2
    go_ret
    exact ⟨_, rfl, Below.refl _ _, (OwnI.nil 0 _).at⟩
  · go_enter Tryd.func114, Tryd.ntmps114
    go_wp2
    go_ret
    exact ⟨_, rfl, (Below.refl _ _).alloc (Nat.le_refl _) _, (OwnI.lit _ _ (Nat.le_refl _) [2] (by decide) #[.int .i64 2] rfl 1 rfl).at⟩
  · go_enter Tryd.func114, Tryd.ntmps114
    go_wp2
    go_ret
    exact ⟨_, rfl, (Below.refl _ _).alloc (Nat.le_refl _) _, (OwnI.lit _ _ (Nat.le_refl _) [3] (by decide) #[.int .i64 3] rfl 1 rfl).at⟩
  · go_enter Tryd.func114, Tryd.ntmps114
    go_wp2
    go_ret
    exact ⟨_, rfl, (Below.refl _ _).alloc (Nat.le_refl _) _, (OwnI.lit _ _ (Nat.le_refl _) [2] (by decide) #[.int .i64 2] rfl 1 rfl).at⟩

theorem whole_bad (r : Nat → Addr) (k : Int) (v g : Value) (f : List Int) (t : Int × List (ByteArray × Int)) (w : World) (hg : Glob r w) (h : IntsAt w v f) (hl : f.length ≤ 17592186044416) (hc : factP k f = some t) :
    Calls Tryd.prog 80 #[.int .i64 k, v, g] w (Ret2 (fun x y w' => x = .bool false ∧ ErrIs r w' (some t) y) w) := by
  replace h := Lib.hid h
  replace hg := Lib.hid hg
  replace hc := Lib.hid hc
  go_enter Tryd.func80, Tryd.ntmps80
  go_wp2_with fail
  refine (fact_any r k v f _ hg.out h.out hl).mono ?_
  rintro e w1 ⟨x, rfl, hb, he⟩
  rw [hc.out] at he
  have he' := Lib.hid he
  obtain ⟨T, p, rfl⟩ := he.some_shape
  clear he
  go_wp2
  go_ret2
  exact ⟨_, _, rfl, hb, rfl, he'.out⟩

set_option maxHeartbeats 1000000 in
theorem whole_ok (r : Nat → Addr) (K : Int) (v : Value) (F : Nat) (may : Int → Bool) (f : List Int) (w : World) (hg : Glob r w) (h : IntsAt w v f) (hl : f.length ≤ 17592186044416) (hc : factP K f = none) (h1 : 1 ≤ K) (h4 : K ≤ 4) (hs : Syms K f)
    (eg : ∀ args w, (callFunc F args).run Tryd.prog w = .ok (.enter F args) w)
    (hF : ∀ (n : Int) (w : World), Calls Tryd.prog F #[.int .i64 n] w fun e w' => e = .returned (.bool (may n)) ∧ w = w') :
    Calls Tryd.prog 80 #[.int .i64 K, v, .func (.func F) #[] #[]] w (Ret2 (fun x y _ => x = .bool (wholeP may K f) ∧ y = .nilIface) w) := by
  replace h := Lib.hid h
  replace hg := Lib.hid hg
  replace hc := Lib.hid hc
  replace hs := Lib.hid hs
  replace hF := Lib.hid hF
  go_enter Tryd.func80, Tryd.ntmps80
  go_wp2_with fail
  refine (fact_any r K v f _ hg.out h.out hl).mono ?_
  rintro e w1 ⟨x, rfl, hb, he⟩
  rw [hc.out] at he
  obtain rfl := he.none_eq
  clear he
  go_wp2_with fail
  refine (primes_any K _ h1 h4).mono ?_
  rintro e w2 ⟨pv, rfl, hb2, hp⟩
  have hpl := hp.len
  have hfa := h.out.below (hb.trans (hb2.mono hb.size))
  have hfl := hfa.len
  have hp2 : (primesP K).length ≤ 1 := by
    unfold primesP; split
    · simp
    · split <;> simp
  replace hb := Lib.hid (hb.trans (hb2.mono hb.size))
  clear hb2
  go_wp2
  go_loop [23] (fun i => ∃ j : Nat, j ≤ (primesP K).length ∧ i = .int .i64 j ∧ ∀ t (h : t < (primesP K).length), t < j → may (cnt (primesP K)[t] f) = true) (fun i => (primesP K).length - (intOf i).toNat)
  case atStart => exact ⟨0, by omega, rfl, by intro t h1 h2; omega⟩
  case round =>
    obtain ⟨j, hj, rfl, hm⟩ := hrel
    replace hm := Lib.hid hm
    by_cases hlt : j < (primesP K).length
    · have i1 := hp.idx j hlt
      have c1 := hp.cell j hlt
      have hpm := primesP_mem (List.getElem_mem hlt)
      have hPE : Hid (∀ t (h : t < (primesP K).length), t < j + 1 → (t < j ∨ (primesP K)[t] = (primesP K)[j])) := by
        intro t h1 h2
        by_cases e : t = j
        · subst e; exact .inr rfl
        · exact .inl (by omega)
      have hWF : Hid (may (cnt (primesP K)[j] f) = false → wholeP may K f = false) := wholeP_false j hlt
      have hWT : Hid (may (cnt (primesP K)[j] f) = true → ∀ t (h : t < (primesP K).length), t < j + 1 → may (cnt (primesP K)[t] f) = true) := by
        intro h t h1 h2
        by_cases e : t = j
        · subst e; exact h
        · exact hm.out t h1 (by omega)
      generalize (primesP K)[j] = p at c1 hpm hWF hWT hPE
      have hp2 : 2 ≤ p := by omega
      have hp3 : p ≤ 3 := by omega
      clear hpm hPE
      go_wp2
      go_loop [11, 29] (fun n i => ∃ s : Nat, s ≤ f.length ∧ i = .int .i64 s ∧ n = .int .i64 (cnt p (f.take s))) (fun _ i => f.length - (intOf i).toNat)
      case atStart => exact ⟨0, by omega, rfl, rfl⟩
      case round =>
        obtain ⟨s, hs', rfl, rfl⟩ := hrel
        by_cases hsl : s < f.length
        · have i2 := hfa.idx s hsl
          have c2 := hfa.cell s hsl
          have hxs := hs.out f[s] (by simp)
          have hcs : Hid (cnt p (f.take (s + 1)) = cnt p (f.take s) + (if (f[s] % p != 0) = true then 1 else 0)) := by
            show _ = _
            rw [take_snoc f s hsl, cnt_snoc]
          have hcl : cnt p (f.take s) ≤ s := Nat.le_trans (cnt_le _ _) (by simp; omega)
          generalize f[s] = x at c2 hxs hcs
          generalize cnt p (f.take s) = c at hcs hcl
          cases hd : (x % p != 0)
          · rw [hd] at hcs
            go_wp2
            go_round
            case rel => exact ⟨s + 1, by omega, by go_num, by rw [hcs.out]; rfl⟩
            case measure => simp [intOf]; omega
          · rw [hd] at hcs
            go_wp2
            go_round
            case rel => exact ⟨s + 1, by omega, by go_num, by rw [hcs.out]; rfl⟩
            case measure => simp [intOf]; omega
        · obtain rfl : s = f.length := by omega
          rw [List.take_length]
          go_wp2_with fail
          refine (hF.out _ _).mono ?_
          rintro e w' ⟨rfl, rfl⟩
          cases hy : may (cnt p f)
          · have hz := hWF.out hy
            rw [hy] at *
            replace hz := Lib.hid hz
            clear hy
            go_wp2
            go_ret2
            exact ⟨_, _, rfl, hb.out, (by rw [hz.out]; rfl), rfl⟩
          · have hz := hWT.out hy
            replace hz := Lib.hid hz
            replace hy := Lib.hid hy
            go_wp2
            go_round
            case rel => exact ⟨j + 1, by omega, by go_num, hz.out⟩
            case measure => simp [intOf]; omega
    · have hz : wholeP may K f = true := wholeP_true fun t h => hm.out t h (by omega)
      replace hz := Lib.hid hz
      go_wp2
      go_ret2
      exact ⟨_, _, rfl, hb.out, (by rw [hz.out]; rfl), rfl⟩

theorem eg_onto1 (args : Array Value) (w : World) : (callFunc 81 args).run Tryd.prog w = .ok (.enter 81 args) w := by kernel_rfl
theorem eg_one1 (args : Array Value) (w : World) : (callFunc 83 args).run Tryd.prog w = .ok (.enter 83 args) w := by kernel_rfl
theorem onto1 (n : Int) (w : World) : Calls Tryd.prog 81 #[.int .i64 n] w fun e w' => e = .returned (.bool (mayOnto n)) ∧ w = w' := by
  go_enter Tryd.func81, Tryd.ntmps81
  go_wp2
  go_ret
  exact ⟨rfl, rfl⟩
theorem one1 (n : Int) (w : World) : Calls Tryd.prog 83 #[.int .i64 n] w fun e w' => e = .returned (.bool (mayOne n)) ∧ w = w' := by
  go_enter Tryd.func83, Tryd.ntmps83
  go_wp2
  go_ret
  exact ⟨rfl, rfl⟩

/-- What Onto, One answer. -/
def toldP (may : Int → Bool) (k : Int) (f : List Int) : Bool := if factP k f = none then wholeP may k f else false
theorem factP_none {k : Int} {f : List Int} (h : factP k f = none) : 1 ≤ k ∧ k ≤ 4 ∧ oddP f.length = true ∧ Syms k f := by
  unfold factP at h
  by_cases hk : k < 1 ∨ 4 < k
  · rw [if_pos hk] at h; cases h
  rw [if_neg hk] at h
  cases ho : oddP f.length
  · rw [ho, if_pos rfl] at h; cases h
  · rw [ho, if_neg (by decide)] at h
    exact ⟨by omega, by omega, rfl, numP_none h⟩

theorem whole_any (r : Nat → Addr) (k : Int) (v : Value) (F : Nat) (may : Int → Bool) (f : List Int) (w : World) (hg : Glob r w) (h : IntsAt w v f) (hl : f.length ≤ 17592186044416)
    (eg : ∀ args w, (callFunc F args).run Tryd.prog w = .ok (.enter F args) w)
    (hF : ∀ (n : Int) (w : World), Calls Tryd.prog F #[.int .i64 n] w fun e w' => e = .returned (.bool (may n)) ∧ w = w') :
    Calls Tryd.prog 80 #[.int .i64 k, v, .func (.func F) #[] #[]] w (Ret2 (fun x y w' => x = .bool (toldP may k f) ∧ ErrIs r w' (factP k f) y) w) := by
  cases hc : factP k f with
  | none =>
    obtain ⟨h1, h4, _, hs⟩ := factP_none hc
    refine (whole_ok r k v F may f w hg h hl hc h1 h4 hs eg hF).mono ?_
    rintro e w' ⟨x, y, he, hb, hx, hy⟩
    exact ⟨x, y, he, hb, by rw [hx, toldP, if_pos hc], hy⟩
  | some t =>
    refine (whole_bad r k v _ f t w hg h hl hc).mono ?_
    rintro e w' ⟨x, y, he, hb, hx, hy⟩
    exact ⟨x, y, he, hb, by rw [hx, toldP, if_neg (by rw [hc]; simp)], hy⟩

theorem add_onto (r : Nat → Addr) (k : Int) (v : Value) (f : List Int) (w : World) (hg : Glob r w) (h : IntsAt w v f) (hl : f.length ≤ 17592186044416) :
    Calls Tryd.prog 34 #[.int .i64 k, v] w (Ret2 (fun x y w' => x = .bool (toldP mayOnto k f) ∧ ErrIs r w' (factP k f) y) w) := by
  replace h := Lib.hid h
  replace hg := Lib.hid hg
  go_enter Tryd.func34, Tryd.ntmps34
  go_wp2_with fail
  refine (whole_any r k v _ mayOnto f _ hg.out h.out hl eg_onto1 onto1).mono ?_
  rintro e w' ⟨x, y, rfl, hb, hx, hy⟩
  replace hx := Lib.hid hx
  go_wp2
  go_ret2
  exact ⟨_, _, rfl, hb, hx.out, hy⟩
theorem add_one (r : Nat → Addr) (k : Int) (v : Value) (f : List Int) (w : World) (hg : Glob r w) (h : IntsAt w v f) (hl : f.length ≤ 17592186044416) :
    Calls Tryd.prog 36 #[.int .i64 k, v] w (Ret2 (fun x y w' => x = .bool (toldP mayOne k f) ∧ ErrIs r w' (factP k f) y) w) := by
  replace h := Lib.hid h
  replace hg := Lib.hid hg
  go_enter Tryd.func36, Tryd.ntmps36
  go_wp2_with fail
  refine (whole_any r k v _ mayOne f _ hg.out h.out hl eg_one1 one1).mono ?_
  rintro e w' ⟨x, y, rfl, hb, hx, hy⟩
  replace hx := Lib.hid hx
  go_wp2
  go_ret2
  exact ⟨_, _, rfl, hb, hx.out, hy⟩
end Go.Proofs.YtmddapkhipmlgaaDoor

namespace Go.Proofs.YtmddapkhipmlgaaDoor
open Go.RowKit
set_option maxRecDepth 100000

theorem EOwn.drew {B : Nat} {w : World} {t : PErr} {v : Value} (h : EOwn B w t v) : EOwn B w.drew t v := by
  match t, h with
  | none, h => exact h
  | some (n, l), h => exact h
theorem factP_num {k : Int} {f : List Int} {t : Int × List (ByteArray × Int)} (h : factP k f = some t) : 1 ≤ t.1 ∧ t.1 ≤ 11 ∧ t.2.length = 1 := by
  unfold factP numP fresh at h
  split at h
  · cases h; decide
  · split at h
    · cases h; decide
    · split at h
      · cases h
      · cases h; exact ⟨by simp, by simp, rfl⟩

set_option maxHeartbeats 400000 in
theorem onto18_bad (k : Int) (v : Value) (f : List Int) (t : Int × List (ByteArray × Int)) (w : World) (hf : IntsAt w v f) (hc : factP k f = some t) (hn : t.1 ≠ 0) :
    Calls Tryd.prog 35 #[.int .i64 k, v] w (Ret2 (fun x y w' => x = .bool false ∧ EOwn w.heap.size w' (some t) y) w) := by
  have b0 := belowAlloc w (.cells #[.int .i64 0, .slice none 0 0, .slice none 0 0] 55)
  have q5 : Box3 (w.alloc (.cells #[.int .i64 0, .slice none 0 0, .slice none 0 0] 55)) w.heap.size (.int .i64 0) (.slice none 0 0) (.slice none 0 0) := by simp [Box3, go_sem]
  replace hf := Lib.hid (hf.below b0)
  replace hc := Lib.hid hc
  obtain ⟨n, l⟩ := t
  have hnb : (n != 0) = true := by rw [bne_iff_ne]; exact hn
  clear hn
  go_enter Tryd.func35, Tryd.ntmps35
  go_wp2_with fail
  refine (f18_any k v f _ hf.out).mono ?_
  rintro e w1 ⟨x, rfl, b1, he⟩
  rw [hc.out] at he
  obtain ⟨a1, n1, c1, a2, n2, c2, rfl, hs1, hs2⟩ := he
  have he : EOwn (w.alloc (.cells #[.int .i64 0, .slice none 0 0, .slice none 0 0] 55)).heap.size w1 (some (n, l)) (.agg #[.int .i64 n, .slice a1 n1 c1, .slice a2 n2 c2]) := ⟨_, _, _, _, _, _, rfl, hs1, hs2⟩
  clear hs1 hs2
  replace he := Lib.hid he
  have q6 := q5.below b1
  go_wp2_with fail
  refine (err_bad n a1 n1 c1 a2 n2 c2 _).mono ?_
  rintro e w2 ⟨x, rfl, b2, rfl⟩
  have b12 := Below.step (belowAlloc w1 (.cells #[.int .i64 n, .slice a1 n1 c1, .slice a2 n2 c2] 55)) b2
  obtain ⟨⟨y0, y1, y2⟩, f0, f1, f2⟩ := q6.below b12
  obtain ⟨x0, x1, x2⟩ := keep3 (n := w1.heap.size) (a := .int .i64 n) (b := .slice a1 n1 c1) (c := .slice a2 n2 c2) b2 ⟨by simp, by simp, by simp⟩
  have hEf := Lib.hid (he.out.below b12)
  have hBf := Lib.hid (Below.step (Below.step b0 b1) b12)
  go_wp2
  go_region
  go_wp2
  refine bodyPost_ret (v := .tuple #[.bool false, .agg #[.int .i64 n, .slice a1 n1 c1, .slice a2 n2 c2]]) (by simp [results, Tryd.results35, go_sem, y0, y1, y2]) rfl ⟨_, _, rfl, ?_, rfl, ?_⟩
  · exact (below_set3 hBf.out (Nat.le_refl _) _ _ _).drew
  · exact ((hEf.out.set3 (by simp) _ _ _).mono (by simp)).drew


set_option maxHeartbeats 400000 in
theorem onto18_ok (K : Nat) (v : Value) (f : List Int) (w : World) (hf : IntsAt w v f) (hc : factP K f = none) :
    Calls Tryd.prog 35 #[.int .i64 K, v] w (Ret2 (fun x y _ => x = .bool (ontoR K f) ∧ y = zErr) w) := by
  obtain ⟨h1, h4, ho, hs⟩ := factP_none hc
  have hk1 : 1 ≤ K := by omega
  have hk4 : K ≤ 4 := by omega
  have hl7 : f.length ≤ 7 := by simp [oddP] at ho; omega
  have b0 := belowAlloc w (.cells #[.int .i64 0, .slice none 0 0, .slice none 0 0] 55)
  have q5 : Box3 (w.alloc (.cells #[.int .i64 0, .slice none 0 0, .slice none 0 0] 55)) w.heap.size (.int .i64 0) (.slice none 0 0) (.slice none 0 0) := by simp [Box3, go_sem]
  have hlen := hf.len
  replace hf := Lib.hid (hf.below b0)
  replace hc := Lib.hid hc
  replace hs := Lib.hid hs
  clear ho
  generalize hres : ontoR K f = res
  replace hres := Lib.hid hres
  go_enter Tryd.func35, Tryd.ntmps35
  go_wp2_with fail
  refine (f18_any K v f _ hf.out).mono ?_
  rintro e w1 ⟨x, rfl, b1, he⟩
  rw [hc.out] at he
  obtain rfl : x = zErr := he
  have q6 := q5.below b1
  go_wp2_with fail
  refine (err_bad 0 none 0 0 none 0 0 _).mono ?_
  rintro e w2 ⟨x, rfl, b2, rfl⟩
  have b12 := Below.step (belowAlloc w1 (.cells #[.int .i64 0, .slice none 0 0, .slice none 0 0] 55)) b2
  obtain ⟨⟨y0, y1, y2⟩, f0, f1, f2⟩ := q6.below b12
  have hf2 := Lib.hid (hf.out.below (Below.step b1 b12))
  have hBf := Lib.hid (Below.step (Below.step b0 b1) b12)
  clear b1 b2 b12 q6
  go_wp2
  go_loop [7] (fun d => ∃ t : Nat, 2 ≤ t ∧ d = .int .i64 t ∧ ∀ d', 2 ≤ d' → d' < t → ¬ (K % d' = 0 ∧ allD d' f = true)) (fun d => 6 - (intOf d).toNat)
  case atStart => exact ⟨2, by omega, rfl, by omega⟩
  case round =>
    obtain ⟨t, ht, rfl, hp⟩ := hrel
    replace hp := Lib.hid hp
    by_cases htk : t ≤ K
    · have hte : ((K : Int) % (t : Int) == 0) = decide (K % t = 0) := by
        rw [Bool.eq_iff_iff]; simp; omega
      have ht0 : ((t : Int) == 0) = false := by rw [beq_eq_false_iff_ne]; omega
      have ht1 : ¬ (t : Int) = 0 := by omega
      have ht2 : (0 : Int) < t := by omega
      have ht3 : ¬ t = 0 := by omega
      go_wp2
      go_loop [8, 9] (fun a i => ∃ j : Nat, j ≤ f.length ∧ i = .int .i64 j ∧ a = .bool (decide (K % t = 0) && allD t (f.take j))) (fun _ i => f.length - (intOf i).toNat)
      case atStart => exact ⟨0, by omega, rfl, by simp [allD]⟩
      case round =>
        obtain ⟨j, hj, rfl, rfl⟩ := hrel
        by_cases hjl : j < f.length
        · have i1 := hf2.out.idx j hjl
          have c1 := hf2.out.cell j hjl
          have hx := hs.out f[j] (by simp)
          have hst : Hid ((decide (K % t = 0) && allD t (f.take (j + 1))) = ((decide (K % t = 0) && allD t (f.take j)) && (f[j] % (t : Int) == 0))) := by
            show _ = _
            rw [take_snoc f j hjl, allD_snoc, Bool.and_assoc]
          generalize f[j] = x at c1 hx hst
          obtain ⟨hx0, hx1⟩ := hx
          cases hb : (decide (K % t = 0) && allD t (f.take j)) with
          | false =>
            rw [hb, Bool.false_and] at hst
            replace hb := Lib.hid hb
            go_wp2
            go_round
            case rel => exact ⟨j + 1, by omega, by go_num, by rw [hst.out]⟩
            case measure => simp [intOf]; omega
          | true =>
            rw [hb, Bool.true_and] at hst
            replace hb := Lib.hid hb
            go_wp2
            go_round
            case rel => exact ⟨j + 1, by omega, by go_num, by rw [hst.out]⟩
            case measure => simp [intOf]; omega
        · obtain rfl : j = f.length := by omega
          rw [List.take_length]
          cases hb : (decide (K % t = 0) && allD t f) with
          | false =>
            have hpn : Hid (¬ (K % t = 0 ∧ allD t f = true)) := by
              show ¬ _
              rintro ⟨h1, h2⟩
              rw [h1, h2] at hb
              simp at hb
            replace hb := Lib.hid hb
            go_wp2
            go_round
            case rel =>
              refine ⟨t + 1, by omega, by go_num, ?_⟩
              intro d' hd1 hd2
              by_cases e : d' = t
              · subst e; exact hpn.out
              · exact hp.out d' hd1 (by omega)
            case measure => simp [intOf]; omega
          | true =>
            have hpn : ontoR K f = false := by
              simp only [Bool.and_eq_true, decide_eq_true_eq] at hb
              exact ontoR_false hk4 ht htk hb.1 hb.2
            rw [hres.out] at hpn
            subst hpn
            replace hb := Lib.hid hb
            go_wp2
            exact bodyPost_ret (v := .tuple #[.bool false, zErr]) (by simp [results, Tryd.results35, go_sem, y0, y1, y2]) rfl ⟨_, _, rfl, below_set3 hBf.out (Nat.le_refl _) _ _ _, rfl, rfl⟩
    · have hpn : ontoR K f = true := ontoR_true hk1 hk4 fun d h2 h3 => hp.out d h2 (by omega)
      rw [hres.out] at hpn
      subst hpn
      go_wp2
      exact bodyPost_ret (v := .tuple #[.bool true, zErr]) (by simp [results, Tryd.results35, go_sem, y0, y1, y2]) rfl ⟨_, _, rfl, below_set3 hBf.out (Nat.le_refl _) _ _ _, rfl, rfl⟩
end Go.Proofs.YtmddapkhipmlgaaDoor

namespace Go.Proofs.YtmddapkhipmlgaaDoor
open Go.RowKit
set_option maxRecDepth 100000

set_option maxHeartbeats 400000 in
theorem one18_bad (k : Int) (v : Value) (f : List Int) (t : Int × List (ByteArray × Int)) (w : World) (hf : IntsAt w v f) (hc : factP k f = some t) (hn : t.1 ≠ 0) :
    Calls Tryd.prog 37 #[.int .i64 k, v] w (Ret2 (fun x y w' => x = .bool false ∧ EOwn w.heap.size w' (some t) y) w) := by
  have b0 := belowAlloc w (.cells #[.int .i64 0, .slice none 0 0, .slice none 0 0] 55)
  have q5 : Box3 (w.alloc (.cells #[.int .i64 0, .slice none 0 0, .slice none 0 0] 55)) w.heap.size (.int .i64 0) (.slice none 0 0) (.slice none 0 0) := by simp [Box3, go_sem]
  replace hf := Lib.hid (hf.below b0)
  replace hc := Lib.hid hc
  obtain ⟨n, l⟩ := t
  have hnb : (n != 0) = true := by rw [bne_iff_ne]; exact hn
  clear hn
  go_enter Tryd.func37, Tryd.ntmps37
  go_wp2_with fail
  refine (f18_any k v f _ hf.out).mono ?_
  rintro e w1 ⟨x, rfl, b1, he⟩
  rw [hc.out] at he
  obtain ⟨a1, n1, c1, a2, n2, c2, rfl, hs1, hs2⟩ := he
  have he : EOwn (w.alloc (.cells #[.int .i64 0, .slice none 0 0, .slice none 0 0] 55)).heap.size w1 (some (n, l)) (.agg #[.int .i64 n, .slice a1 n1 c1, .slice a2 n2 c2]) := ⟨_, _, _, _, _, _, rfl, hs1, hs2⟩
  clear hs1 hs2
  replace he := Lib.hid he
  have q6 := q5.below b1
  go_wp2_with fail
  refine (err_bad n a1 n1 c1 a2 n2 c2 _).mono ?_
  rintro e w2 ⟨x, rfl, b2, rfl⟩
  have b12 := Below.step (belowAlloc w1 (.cells #[.int .i64 n, .slice a1 n1 c1, .slice a2 n2 c2] 55)) b2
  obtain ⟨⟨y0, y1, y2⟩, f0, f1, f2⟩ := q6.below b12
  obtain ⟨x0, x1, x2⟩ := keep3 (n := w1.heap.size) (a := .int .i64 n) (b := .slice a1 n1 c1) (c := .slice a2 n2 c2) b2 ⟨by simp, by simp, by simp⟩
  have hEf := Lib.hid (he.out.below b12)
  have hBf := Lib.hid (Below.step (Below.step b0 b1) b12)
  go_wp2
  go_region
  go_wp2
  refine bodyPost_ret (v := .tuple #[.bool false, .agg #[.int .i64 n, .slice a1 n1 c1, .slice a2 n2 c2]]) (by simp [results, Tryd.results37, go_sem, y0, y1, y2]) rfl ⟨_, _, rfl, ?_, rfl, ?_⟩
  · exact (below_set3 hBf.out (Nat.le_refl _) _ _ _).drew
  · exact ((hEf.out.set3 (by simp) _ _ _).mono (by simp)).drew


set_option maxHeartbeats 400000 in
theorem one18_ok (K : Nat) (v : Value) (f : List Int) (w : World) (hf : IntsAt w v f) (hc : factP K f = none) :
    Calls Tryd.prog 37 #[.int .i64 K, v] w (Ret2 (fun x y _ => x = .bool (wholeP mayOne K f) ∧ y = zErr) w) := by
  obtain ⟨h1, h4, ho, hs⟩ := factP_none hc
  have hk1 : 1 ≤ K := by omega
  have hk4 : K ≤ 4 := by omega
  have hl7 : f.length ≤ 7 := by simp [oddP] at ho; omega
  have b0 := belowAlloc w (.cells #[.int .i64 0, .slice none 0 0, .slice none 0 0] 55)
  have q5 : Box3 (w.alloc (.cells #[.int .i64 0, .slice none 0 0, .slice none 0 0] 55)) w.heap.size (.int .i64 0) (.slice none 0 0) (.slice none 0 0) := by simp [Box3, go_sem]
  have hlen := hf.len
  replace hf := Lib.hid (hf.below b0)
  replace hc := Lib.hid hc
  replace hs := Lib.hid hs
  clear ho
  generalize hres : wholeP mayOne K f = res
  replace hres := Lib.hid hres
  go_enter Tryd.func37, Tryd.ntmps37
  go_wp2_with fail
  refine (f18_any K v f _ hf.out).mono ?_
  rintro e w1 ⟨x, rfl, b1, he⟩
  rw [hc.out] at he
  obtain rfl : x = zErr := he
  have q6 := q5.below b1
  go_wp2_with fail
  refine (err_bad 0 none 0 0 none 0 0 _).mono ?_
  rintro e w2 ⟨x, rfl, b2, rfl⟩
  have b12 := Below.step (belowAlloc w1 (.cells #[.int .i64 0, .slice none 0 0, .slice none 0 0] 55)) b2
  obtain ⟨⟨y0, y1, y2⟩, f0, f1, f2⟩ := q6.below b12
  have hf2 := Lib.hid (hf.out.below (Below.step b1 b12))
  have hBf := Lib.hid (Below.step (Below.step b0 b1) b12)
  clear b1 b2 b12 q6
  go_wp2
  go_loop [7] (fun d => ∃ t : Nat, 2 ≤ t ∧ t ≤ 4 ∧ d = .int .i64 t ∧ ∀ p : Nat, 2 ≤ p → p < t → K % p = 0 → cnt p f = 1) (fun d => 6 - (intOf d).toNat)
  case atStart => exact ⟨2, by omega, by omega, rfl, by omega⟩
  case round =>
    obtain ⟨t, ht, ht4, rfl, hp⟩ := hrel
    replace hp := Lib.hid hp
    by_cases htk : t ≤ 3
    · have ht0 : ((t : Int) == 0) = false := by rw [beq_eq_false_iff_ne]; omega
      have ht1 : ¬ (t : Int) = 0 := by omega
      have ht2 : (0 : Int) < t := by omega
      have ht3 : ¬ t = 0 := by omega
      go_wp2
      go_loop [8, 9] (fun a i => ∃ j : Nat, j ≤ f.length ∧ i = .int .i64 j ∧ a = .int .i64 (cnt t (f.take j) : Nat)) (fun _ i => f.length - (intOf i).toNat)
      case atStart => exact ⟨0, by omega, rfl, by simp [cnt]⟩
      case round =>
        obtain ⟨j, hj, rfl, rfl⟩ := hrel
        have hcl : cnt t (f.take j) ≤ 7 := Nat.le_trans (cnt_le _ _) (by simp; omega)
        by_cases hjl : j < f.length
        · have i1 := hf2.out.idx j hjl
          have c1 := hf2.out.cell j hjl
          have hx := hs.out f[j] (by simp)
          have hst : Hid (cnt t (f.take (j + 1)) = cnt t (f.take j) + (if (f[j] % (t : Int) != 0) = true then 1 else 0)) := by
            show _ = _
            rw [take_snoc f j hjl, cnt_snoc]
          generalize f[j] = x at c1 hx hst
          generalize cnt t (f.take j) = c at hcl hst
          obtain ⟨hx0, hx1⟩ := hx
          cases hb : (x % (t : Int) != 0) with
          | false =>
            rw [hb, if_neg (by simp)] at hst
            go_wp2
            go_round
            case rel => exact ⟨j + 1, by omega, by go_num, by rw [hst.out, Nat.add_zero]⟩
            case measure => simp [intOf]; omega
          | true =>
            rw [hb, if_pos rfl] at hst
            go_wp2
            go_round
            case rel => exact ⟨j + 1, by omega, by go_num, by rw [hst.out]; go_num⟩
            case measure => simp [intOf]; omega
        · obtain rfl : j = f.length := by omega
          rw [List.take_length] at hcl ⊢
          by_cases hkt : K % t = 0
          · have hte : ((K : Int) % (t : Int) == 0) = true := by rw [beq_iff_eq]; omega
            by_cases hn1 : cnt t f = 1
            · have hpn : Hid (cnt t f = 1) := hn1
              have hnb : ((cnt t f : Int) != 1) = false := by rw [bne_eq_false_iff_eq]; omega
              clear hkt hn1
              generalize hcg : cnt t f = c at hnb hcl
              replace hcg := Lib.hid hcg
              go_wp2
              go_round
              case rel =>
                refine ⟨t + 1, by omega, by omega, by go_num, ?_⟩
                intro p h1 h2 h3
                by_cases e : p = t
                · subst e; exact hpn.out
                · exact hp.out p h1 (by omega) h3
              case measure => simp [intOf]; omega
            · have hpn : wholeP mayOne K f = false := oneR_false hk4 hk1 (by omega : t = 2 ∨ t = 3) hkt hn1
              rw [hres.out] at hpn
              subst hpn
              have hnb : ((cnt t f : Int) != 1) = true := by rw [bne_iff_ne]; omega
              clear hkt hn1
              generalize hcg : cnt t f = c at hnb hcl
              replace hcg := Lib.hid hcg
              go_wp2
              exact bodyPost_ret (v := .tuple #[.bool false, zErr]) (by simp [results, Tryd.results37, go_sem, y0, y1, y2]) rfl ⟨_, _, rfl, below_set3 hBf.out (Nat.le_refl _) _ _ _, rfl, rfl⟩
          · have hte : ((K : Int) % (t : Int) == 0) = false := by rw [beq_eq_false_iff_ne]; omega
            have hpn : Hid (¬ K % t = 0) := hkt
            clear hkt
            generalize cnt t f = c at hcl
            go_wp2
            go_round
            case rel =>
              refine ⟨t + 1, by omega, by omega, by go_num, ?_⟩
              intro p h1 h2 h3
              by_cases e : p = t
              · subst e; exact absurd h3 hpn.out
              · exact hp.out p h1 (by omega) h3
            case measure => simp [intOf]; omega
    · have hpn : wholeP mayOne K f = true := oneR_true hk4 hk1 fun p h2 h3 => hp.out p (by omega) (by omega) h3
      rw [hres.out] at hpn
      subst hpn
      go_wp2
      exact bodyPost_ret (v := .tuple #[.bool true, zErr]) (by simp [results, Tryd.results37, go_sem, y0, y1, y2]) rfl ⟨_, _, rfl, below_set3 hBf.out (Nat.le_refl _) _ _ _, rfl, rfl⟩
end Go.Proofs.YtmddapkhipmlgaaDoor

namespace Go.Proofs.YtmddapkhipmlgaaDoor
open Go.RowKit
set_option maxRecDepth 100000

theorem sizeInt1 : (Tryd.prog.info? 3).map (·.size) = some 1 := by kernel_rfl

theorem splice_take {α : Type} (C ys : List α) (off n : Nat) (h : off + ys.length ≤ n) (hn : n ≤ C.length) :
    (C.take off ++ ys ++ C.drop (off + ys.length)).take n = (C.take n).take off ++ ys ++ (C.take n).drop (off + ys.length) := by
  have hl : (C.take off ++ ys).length = off + ys.length := by simp; omega
  rw [List.take_append, List.take_of_length_le (by omega), hl, List.drop_take, List.take_take, Nat.min_eq_left (by omega)]

/-- copy(d, u), d at place off of an owned slice. -/
theorem run_copyI {w : World} {B : Nat} {v u d : Value} {xs ys : List Int} (off : Nat) (ty : TypeId) (dp : Option Addr) (dLen dCap : Nat) (hown : OwnI B w v xs) (hu : IntsAt w u ys) (hd : d = .slice dp dLen dCap)
    (hdl : ys.length ≤ dLen) (hfit : off + ys.length ≤ xs.length) (hdp : 0 < ys.length → dp = some (valAt v off)) :
    ∃ w', (Builtin.copy_ #[22, 22] ty #[d, u]).run Tryd.prog w = .ok (.int .i64 ys.length) w' ∧ OwnI B w' v (xs.take off ++ ys ++ xs.drop (off + ys.length)) ∧ Below B w w' ∧ w.grownBy w' v.ownBlock := by
  subst hd
  obtain ⟨sp, sCap, rfl, h1, h2, h3, h4⟩ := hu
  by_cases h0 : ys.length = 0
  · obtain rfl : ys = [] := List.eq_nil_of_length_eq_zero h0
    have hr := run_copy_none (P := Tryd.prog) w 22 22 ty 3 dp sp dLen dCap 0 sCap uInts sizeInt1 (by simp)
    exact ⟨w, hr, by simpa using hown, Below.refl _ _, World.grownBy.refl _ _⟩
  · obtain rfl := hdp (by omega)
    cases sp with
    | none => have := h3 rfl; omega
    | some p =>
      rcases hown.2 with ⟨rfl, hn⟩ | ⟨g, cap, cur, rfl, hb, hg, hn, hm, hcs, ht⟩
      · omega
      · rw [valAt_row]
        have hsrc : ∀ j u, (ys.map (Value.int .i64))[j]? = some u → w.cell? (p.add j) = some u := by
          intro j u hj
          have hjl : j < ys.length := by have := (List.getElem?_eq_some_iff.1 hj).1; simpa using this
          have := h4 j hjl
          simp only [valAt] at this
          rw [this, ← hj]; simp [hjl]
        have hcl : cur.toList.length = cap := by rw [Array.length_toList, hcs]; omega
        have hr := run_copy_row (P := Tryd.prog) w 22 22 ty 3 g off dLen dCap p ys.length sCap cur 3 (ys.map (.int .i64)) uInts sizeInt1 hg (by simp; exact (Nat.min_eq_left hdl).symm) hsrc (by rw [hcs]; simp; omega) (ints_oneCell _ _)
        rw [show goInt (ys.map (Value.int .i64)).length = .int .i64 ys.length by rw [List.length_map]; rfl] at hr
        have hst : w.grownBy (w.setRow g (cur.toList.take off ++ ys.map (Value.int .i64) ++ cur.toList.drop (off + (ys.map (Value.int .i64)).length)).toArray) (some g) :=
          ⟨rfl, rfl, rfl, by simp, fun k _ hk => setRow_other w g k _ (fun e => hk (by simp [e]))⟩
        refine ⟨_, hr, ?_, (Below.refl _ _).grown hst (by have := (Array.getElem?_eq_some_iff.1 hg).1; omega) (by intro k hk; simp at hk; omega), hst⟩
        have hlen : (xs.take off ++ ys ++ xs.drop (off + ys.length)).length = xs.length := by simp; omega
        refine ⟨by simp, .inr ⟨g, cap, _, by rw [hlen], hb, setRow_heap w g cur _ _ _ hg, by rw [hlen]; exact hn, hm, ?_, ?_⟩⟩
        · simp only [List.size_toArray, List.length_append, List.length_take, List.length_drop, List.length_map, hcl]; omega
        · rw [hlen]
          have e := splice_take cur.toList (ys.map (Value.int .i64)) off xs.length (by simpa using hfit) (by omega)
          rw [Nat.mul_one] at ht ⊢
          rw [e, ht]
          simp [List.map_take, List.map_drop]

/-- copy(v, u), v owned and no shorter. -/
theorem run_copy0 {w : World} {B : Nat} {v u : Value} {xs ys : List Int} (ty : TypeId) (hown : OwnI B w v xs) (hu : IntsAt w u ys) (hfit : ys.length ≤ xs.length) :
    ∃ w', (Builtin.copy_ #[22, 22] ty #[v, u]).run Tryd.prog w = .ok (.int .i64 ys.length) w' ∧ OwnI B w' v (ys ++ xs.drop ys.length) ∧ Below B w w' ∧ w.grownBy w' v.ownBlock := by
  obtain ⟨a, cap, e, _⟩ := hown.at
  have := run_copyI 0 ty a xs.length cap hown hu e hfit (by omega) (by
    intro h0
    rcases hown.2 with ⟨rfl, hn⟩ | ⟨g, cap', cur, rfl, _⟩
    · omega
    · simp at e; obtain ⟨rfl, -⟩ := e; rw [valAt_row])
  simpa using this

/-- A slice cut to its first h elements. -/
def preV (v : Value) (h : Nat) : Value := match v with | .slice a _ c => .slice a h c | v => v
theorem preV_at (v : Value) (h i : Nat) : valAt (preV v h) i = valAt v i := by
  cases v with
  | slice a n c => cases a <;> rfl
  | _ => rfl

theorem run_pre {a : Option Addr} {n c : Nat} (h : Nat) (hh : h ≤ c) (w : World) :
    (Instr.slice 22 (.slice a n c) none (some (.int .i64 h)) none).run Tryd.prog w = .ok (preV (.slice a n c) h) w := by
  rw [run_slice_h w 22 a n c uIntsE .i64 h (by omega) (by omega), eInts, sInt]
  simp only [Result.andThen, sliced, preV]
  rw [Int.toNat_natCast]
  have e : Option.map (fun x => x.add 0) a = a := by cases a <;> simp [Addr.add]
  simp [e]

theorem IntsAt.pre {w : World} {v : Value} {xs : List Int} (h : IntsAt w v xs) (k : Nat) (hk : k ≤ xs.length) : IntsAt w (preV v k) (xs.take k) := by
  obtain ⟨a, cap, rfl, h1, h2, h3, h4⟩ := h
  have hl : (xs.take k).length = k := by simp; omega
  refine ⟨a, cap, by rw [hl]; rfl, by omega, h2, h3, fun i hi => ?_⟩
  rw [preV_at, h4 i (by omega)]
  simp
theorem OwnI.runPre {B : Nat} {w : World} {v : Value} {xs : List Int} (h : OwnI B w v xs) (k : Nat) (hk : k ≤ xs.length) (w' : World) :
    (Instr.slice 22 v none (some (.int .i64 k)) none).run Tryd.prog w' = .ok (preV v k) w' := by
  obtain ⟨a, cap, rfl, h1, _⟩ := h.at
  exact run_pre k (by omega) w'
theorem IntsAt.runPre {w : World} {v : Value} {xs : List Int} (h : IntsAt w v xs) (k : Nat) (hk : k ≤ xs.length) (w' : World) :
    (Instr.slice 22 v none (some (.int .i64 k)) none).run Tryd.prog w' = .ok (preV v k) w' := by
  obtain ⟨a, cap, rfl, h1, _⟩ := h
  exact run_pre k (by omega) w'

/-- Numbers lent: two marks lie in the room behind them. -/
def LentI (B : Nat) (w : World) (m : Value) (xs : List Int) : Prop := ∃ v, m = preV v xs.length ∧ OwnI B w v (xs ++ [7001, 7002])
theorem LentI.at {B : Nat} {w : World} {m : Value} {xs : List Int} (h : LentI B w m xs) : IntsAt w m xs := by
  obtain ⟨v, rfl, ho⟩ := h
  have := ho.at.pre xs.length (by simp)
  rwa [List.take_left'] at this
  rfl
theorem LentI.below {B : Nat} {w w' : World} {m : Value} {xs : List Int} (h : LentI B w m xs) (hb : Below w.heap.size w w') : LentI B w' m xs := by
  obtain ⟨v, e, ho⟩ := h
  exact ⟨v, e, ho.below hb⟩
/-- What is kept below a block number. -/
theorem OwnI.belowB {B B' : Nat} {w w' : World} {v : Value} {xs : List Int} (h : OwnI B w v xs) (hb : Below B' w w') (hlt : ∀ k, v.ownBlock = some k → k < B') : OwnI B w' v xs := by
  refine ⟨h.1, ?_⟩
  rcases h.2 with h2 | ⟨g, cap, cur, rfl, hB, hg, r⟩
  · exact .inl h2
  · exact .inr ⟨g, cap, cur, rfl, hB, by rw [hb.block g (hlt g rfl)]; exact hg, r⟩
theorem LentI.belowB {B B' : Nat} {w0 w w' : World} {m : Value} {xs : List Int} (h : LentI B w m xs) (h0 : LentI B w0 m xs) (hs : w0.heap.size ≤ B') (hb : Below B' w w') : LentI B w' m xs := by
  obtain ⟨v, rfl, ho⟩ := h
  obtain ⟨v0, e0, ho0⟩ := h0
  refine ⟨v, rfl, ho.belowB hb fun k hk => ?_⟩
  have hbk : v0.ownBlock = v.ownBlock := by
    obtain ⟨a, n, c, rfl⟩ := ho.at.shape
    obtain ⟨a', n', c', rfl⟩ := ho0.at.shape
    simp [preV] at e0
    obtain ⟨rfl, rfl⟩ := e0
    cases a <;> rfl
  have := (ho0.lt k (hbk.trans hk)).2
  omega

theorem lent_any (v : Value) (xs : List Int) (w : World) (h : IntsAt w v xs) (hl : xs.length ≤ 17592186044414) :
    Calls Tryd.prog 13 #[v] w (Ret1 (fun x w' => LentI w.heap.size w' x xs) w) := by
  have hlen := h.len
  replace h := Lib.hid h
  go_enter Tryd.func13, Tryd.ntmps13
  go_wp2_with (at_make; refine wpl_make rfl _ _ rfl _ rfl rfl (by omega) (by omega) ?_)
  intro m w1 ho hb
  have hn : ((xs.length : Int) + 2).toNat = xs.length + 2 := by omega
  rw [hn] at ho
  clear hn
  obtain ⟨w2, hcp, ho2, hb2, _⟩ := run_copy0 3 ho (h.out.below hb) (by simp)
  have e1 : xs ++ (List.replicate (xs.length + 2) (0 : Int)).drop xs.length = xs ++ [0, 0] := by rw [List.drop_replicate, Nat.add_sub_cancel_left]; rfl
  rw [e1] at ho2
  clear e1
  have i1 := ho2.at.idx xs.length (by simp)
  have c1 := ho2.at.cell xs.length (by simp)
  have f1 := ho2.frz xs.length (by simp)
  have ho3 := ho2.set xs.length (by simp) 7001
  have hb3 := ho2.setBelow (hb.trans hb2) xs.length (by simp) (.int .i64 7001)
  have e2 : (xs ++ [0, 0]).set xs.length 7001 = xs ++ [7001, 0] := by simp
  rw [e2] at ho3
  have i2 : ∀ w', (Instr.indexAt 22 m (.int .i64 ((xs.length : Int) + 1))).run Tryd.prog w' = .ok (.pointer (some (valAt m (xs.length + 1)))) w' := by
    intro w'; exact ho3.at.idx (xs.length + 1) (by simp) w'
  have c2 := ho3.at.cell (xs.length + 1) (by simp)
  have f2 := ho3.frz (xs.length + 1) (by simp)
  have ho4 := ho3.set (xs.length + 1) (by simp) 7002
  have hb4 := Lib.hid (ho3.setBelow hb3 (xs.length + 1) (by simp) (.int .i64 7002))
  have e3 : (xs ++ [7001, 0]).set (xs.length + 1) 7002 = xs ++ [7001, 7002] := by simp
  rw [e3] at ho4
  have hre := ho4.runPre xs.length (by simp)
  replace ho4 := Lib.hid ho4
  clear e2 e3 ho2 ho3 ho hb hb2 hb3
  go_wp2
  go_ret
  exact ⟨_, rfl, hb4.out, m, rfl, ho4.out⟩

theorem LentI.full {B : Nat} {w : World} {m : Value} {xs : List Int} (h : LentI B w m xs) :
    ∃ v, OwnI B w v (xs ++ [7001, 7002]) ∧ ∀ w', (Instr.slice 22 m none (some (.int .i64 ((xs.length : Int) + 2))) none).run Tryd.prog w' = .ok v w' := by
  obtain ⟨v, rfl, ho⟩ := h
  refine ⟨v, ho, fun w' => ?_⟩
  obtain ⟨a, cap, rfl, h1, _⟩ := ho.at
  have := run_pre (a := a) (n := xs.length) (c := cap) (xs.length + 2) (by simpa using h1) w'
  have e : (xs ++ [7001, 7002]).length = xs.length + 2 := by simp
  rw [e]
  exact this

theorem kept_any (B : Nat) (m l : Value) (xs : List Int) (w : World) (h : LentI B w m xs) (k : IntsAt w l xs) (hl : xs.length ≤ 17592186044414) :
    Calls Tryd.prog 19 #[m, l] w (RetB true w) := by
  have hlen := k.len
  obtain ⟨v, ho, hfull⟩ := h.full
  have i1 := ho.at.idx xs.length (by simp)
  have c1 := ho.at.cell xs.length (by simp)
  have i2 : ∀ w', (Instr.indexAt 22 v (.int .i64 ((xs.length : Int) + 1))).run Tryd.prog w' = .ok (.pointer (some (valAt v (xs.length + 1)))) w' := by
    intro w'; exact ho.at.idx (xs.length + 1) (by simp) w'
  have c2 := ho.at.cell (xs.length + 1) (by simp)
  have e1 : (xs ++ [7001, 7002])[xs.length]'(by simp) = 7001 := by simp
  have e2 : (xs ++ [7001, 7002])[xs.length + 1]'(by simp) = 7002 := by simp
  rw [e1] at c1
  rw [e2] at c2
  clear ho e1 e2
  have hm := Lib.hid h.at
  replace k := Lib.hid k
  clear h
  go_enter Tryd.func19, Tryd.ntmps19
  go_wp2_with fail
  refine (ints_any m l xs xs _ hm.out k.out).mono ?_
  rintro e w' ⟨n, rfl, rfl⟩
  rw [show decide (xs = xs) = true by simp]
  go_wp2
  go_ret
  exact ⟨n, rfl, rfl⟩

/-- edenraw.Rules. -/
theorem rules_any (k R k' R' : Int) (a : Option Addr) (n c : Nat) (a' : Option Addr) (n' c' : Nat) (xs ys : List Int) (w : World) (h : IntsAt w (.slice a n c) xs) (h' : IntsAt w (.slice a' n' c') ys) :
    Calls Tryd.prog 16 #[.agg #[.int .i64 k, .int .i64 R, .slice a n c], .agg #[.int .i64 k', .int .i64 R', .slice a' n' c']] w
      (Ret1 (fun x _ => x = .bool (k == k' && (R == R' && decide (xs = ys)))) w) := by
  have hb0 := (Below.refl w.heap.size w).alloc (Nat.le_refl _) (.cells #[.int .i64 k, .int .i64 R, .slice a n c] 24)
  have hb1 := hb0.alloc (by simp) (.cells #[.int .i64 k', .int .i64 R', .slice a' n' c'] 24)
  have g := Lib.hid (h.below hb1)
  have g' := Lib.hid (h'.below hb1)
  clear h h'
  cases e1 : (k == k')
  · go_enter Tryd.func16, Tryd.ntmps16
    go_wp2
    go_ret
    exact ⟨_, rfl, hb1, rfl⟩
  · cases e2 : (R == R')
    · go_enter Tryd.func16, Tryd.ntmps16
      go_wp2
      go_ret
      exact ⟨_, rfl, hb1, rfl⟩
    · go_enter Tryd.func16, Tryd.ntmps16
      go_wp2_with fail
      refine (ints_any _ _ xs ys _ g.out g'.out).mono ?_
      rintro e w' ⟨q, rfl, rfl⟩
      generalize hd : decide (xs = ys) = d
      replace hd := Lib.hid hd
      go_wp2
      go_ret
      exact ⟨_, rfl, below_drewN hb1 q, (by rw [hd.out]; rfl)⟩
end Go.Proofs.YtmddapkhipmlgaaDoor

namespace Go.Proofs.YtmddapkhipmlgaaDoor

/-- The factors that may be, the first i of them found. -/
def facU (K n : Nat) (xs : List Int) (i : Nat) : List Int := (List.range n).map fun j => if j < i then xs.getD (pw K (n - 1 - j)) 0 else 0
theorem facU_length (K n : Nat) (xs : List Int) (i : Nat) : (facU K n xs i).length = n := by simp [facU]
theorem facU_zero (K n : Nat) (xs : List Int) : facU K n xs 0 = List.replicate n 0 := by
  refine List.ext_getElem (by simp [facU]) fun j h1 h2 => ?_
  simp [facU]
theorem facU_succ (K n : Nat) (xs : List Int) (i : Nat) : (facU K n xs i).set i (xs.getD (pw K (n - 1 - i)) 0) = facU K n xs (i + 1) := by
  refine List.ext_getElem (by simp [facU]) fun j h1 h2 => ?_
  rw [List.getElem_set]
  simp only [facU, List.getElem_map, List.getElem_range]
  by_cases e : i = j
  · subst e; simp
  · rw [if_neg e]
    by_cases c : j < i
    · rw [if_pos c, if_pos (by omega)]
    · rw [if_neg c, if_neg (by omega)]
theorem facU_all {K R : Nat} (hK : 1 < K) (xs : List Int) : facU K (2 * R + 1) xs (2 * R + 1) = facs K R xs := by
  unfold facs facI facL facU
  rw [if_pos hK]
  refine List.map_congr_left fun j hj => ?_
  have := List.mem_range.1 hj
  rw [if_pos this, if_pos (by omega)]
theorem facs_one {K R : Nat} (hK : ¬ 1 < K) (xs : List Int) : facs K R xs = List.replicate (2 * R + 1) 0 := by
  unfold facs facI
  rw [if_neg hK]
end Go.Proofs.YtmddapkhipmlgaaDoor

namespace Go.Proofs.YtmddapkhipmlgaaDoor
open Go.RowKit
set_option maxRecDepth 100000

theorem checkP_num {k R : Int} {xs : List Int} {t : Int × List (ByteArray × Int)} (h : checkP k R xs = some t) : t.1 = 1 ∧ t.2.length = 1 := by
  unfold checkP fresh at h
  split at h
  · cases h; exact ⟨rfl, rfl⟩
  · split at h
    · cases h; exact ⟨rfl, rfl⟩
    · split at h
      · cases h; exact ⟨rfl, rfl⟩
      · split at h
        · cases h
        · cases h; exact ⟨rfl, rfl⟩

set_option maxHeartbeats 400000 in
theorem of18_bad (k R : Int) (va : Option Addr) (vn vc : Nat) (xs : List Int) (t : Int × List (ByteArray × Int)) (w : World) (h : IntsAt w (.slice va vn vc) xs) (hc : checkP k R xs = some t) :
    Calls Tryd.prog 32 #[.agg #[.int .i64 k, .int .i64 R, .slice va vn vc]] w (Ret3 (fun x y z w' => x = .slice none 0 0 ∧ y = .bool false ∧ EOwn w.heap.size w' (under sAdditive 0 (some t)) z) w) := by
  have b0 := Below.step (belowAlloc w (.cells #[.int .i64 k, .int .i64 R, .slice va vn vc] 24)) (belowAlloc _ (.cells #[.int .i64 0, .slice none 0 0, .slice none 0 0] 55))
  have q7 : Box3 ((w.alloc (.cells #[.int .i64 k, .int .i64 R, .slice va vn vc] 24)).alloc (.cells #[.int .i64 0, .slice none 0 0, .slice none 0 0] 55)) (w.heap.size + 1) (.int .i64 0) (.slice none 0 0) (.slice none 0 0) := by simp [Box3, go_sem]
  obtain ⟨hn1, hl1⟩ := checkP_num hc
  replace h := Lib.hid (h.below b0)
  replace hc := Lib.hid hc
  obtain ⟨n, l⟩ := t
  simp only at hn1 hl1
  have hnb : (n != 0) = true := by rw [bne_iff_ne]; omega
  replace hn1 := Lib.hid hn1
  go_enter Tryd.func32, Tryd.ntmps32
  go_wp2_with fail
  refine (ref_check k R va vn vc xs _ h.out).mono ?_
  rintro e w1 ⟨x, rfl, b1, he⟩
  rw [hc.out] at he
  go_wp2_with fail
  refine (raw_under _ _ (some (n, l)) x _ he.at (fun n' l' e => by cases e; exact ⟨by have := hn1.out; omega, by omega, by omega⟩)).mono ?_
  rintro e w2 ⟨x2, rfl, b2, he2⟩
  obtain ⟨a1, n1, c1, a2, n2, c2, rfl, hs1, hs2⟩ := he2
  have he2 : EOwn w1.heap.size w2 (under sAdditive 0 (some (n, l))) (.agg #[.int .i64 n, .slice a1 n1 c1, .slice a2 n2 c2]) := ⟨_, _, _, _, _, _, rfl, hs1, hs2⟩
  clear hs1 hs2
  replace he2 := Lib.hid he2
  have q8 := (q7.below b1).below b2
  go_wp2_with fail
  refine (err_bad n a1 n1 c1 a2 n2 c2 _).mono ?_
  rintro e w3 ⟨x, rfl, b3, rfl⟩
  have b23 := Below.step (belowAlloc w2 (.cells #[.int .i64 n, .slice a1 n1 c1, .slice a2 n2 c2] 55)) b3
  obtain ⟨⟨y0, y1, y2⟩, f0, f1, f2⟩ := q8.below b23
  obtain ⟨x0, x1, x2⟩ := keep3 (n := w2.heap.size) (a := .int .i64 n) (b := .slice a1 n1 c1) (c := .slice a2 n2 c2) b3 ⟨by simp, by simp, by simp⟩
  have hlt : w.heap.size + 1 < w1.heap.size := World.block_lt_of_cell? _ _ (q7.below b1).1.1
  have hEf := Lib.hid (he2.out.below b23)
  have hBf := Lib.hid (Below.step (Below.step (Below.step b0 b1) b2) b23)
  go_wp2
  go_region
  go_wp2
  refine bodyPost_ret (v := .tuple #[.slice none 0 0, .bool false, .agg #[.int .i64 n, .slice a1 n1 c1, .slice a2 n2 c2]]) (by simp [results, Tryd.results32, go_sem, y0, y1, y2]) rfl ⟨_, _, _, rfl, ?_, rfl, rfl, ?_⟩
  · exact (below_set3 hBf.out (Nat.le_succ _) _ _ _).drew
  · exact ((hEf.out.set3 hlt _ _ _).mono (by omega)).drew

set_option maxHeartbeats 1000000 in
theorem of18_ok (K R : Nat) (va : Option Addr) (vn vc : Nat) (xs : List Int) (w : World) (h : IntsAt w (.slice va vn vc) xs) (hr : RuleOk K R xs) :
    Calls Tryd.prog 32 #[.agg #[.int .i64 K, .int .i64 R, .slice va vn vc]] w (Ret3 (fun x y z w' => z = zErr ∧ y = .bool (isSum K R xs) ∧ (isSum K R xs = true → OwnI w.heap.size w' x (facs K R xs)) ∧ (isSum K R xs = false → x = .slice none 0 0)) w) := by
  have b0 := Below.step (belowAlloc w (.cells #[.int .i64 K, .int .i64 R, .slice va vn vc] 24)) (belowAlloc _ (.cells #[.int .i64 0, .slice none 0 0, .slice none 0 0] 55))
  have q7 : Box3 ((w.alloc (.cells #[.int .i64 K, .int .i64 R, .slice va vn vc] 24)).alloc (.cells #[.int .i64 0, .slice none 0 0, .slice none 0 0] 55)) (w.heap.size + 1) (.int .i64 0) (.slice none 0 0) (.slice none 0 0) := by simp [Box3, go_sem]
  have q6 : Box3 ((w.alloc (.cells #[.int .i64 K, .int .i64 R, .slice va vn vc] 24)).alloc (.cells #[.int .i64 0, .slice none 0 0, .slice none 0 0] 55)) w.heap.size (.int .i64 K) (.int .i64 R) (.slice va vn vc) := by simp [Box3, go_sem]
  have hk1 := hr.k1
  have hk4 := hr.k4
  have hr3 := hr.r3
  have hck := Lib.hid hr.check
  replace h := Lib.hid (h.below b0)
  replace hr := Lib.hid hr
  obtain ⟨n, hn⟩ : ∃ n, n = 2 * R + 1 := ⟨_, rfl⟩
  have hn7 : n ≤ 7 := by omega
  have hnc : (2 * (R : Int) + 1) = (n : Int) := by omega
  replace hn := Lib.hid hn
  go_enter Tryd.func32, Tryd.ntmps32
  go_wp2_with fail
  refine (ref_check K R va vn vc xs _ h.out).mono ?_
  rintro e w1 ⟨x, rfl, b1, he⟩
  rw [hck.out] at he
  obtain rfl : x = zErr := he
  go_wp2_with fail
  refine (raw_under_nil _ _ _).mono ?_
  rintro e w2 ⟨x, rfl, b2, he⟩
  obtain rfl : x = zErr := he
  go_wp2_with fail
  refine (err_bad 0 none 0 0 none 0 0 _).mono ?_
  rintro e w3 ⟨x, rfl, b3, rfl⟩
  have b13 := Below.step b1 (Below.step b2 (Below.step (belowAlloc w2 (.cells #[.int .i64 0, .slice none 0 0, .slice none 0 0] 55)) b3))
  have p6 := q6.below b13
  have p7 := q7.below b13
  have hBf := Below.step b0 b13
  have h3 := Lib.hid (h.out.below b13)
  have p6x := p6
  obtain ⟨⟨z0, z1, z2⟩, -, -, -⟩ := p6x
  have p6x := p6
  clear b1 b2 b3 b13
  go_wp2_with (at_make; refine wpl_make rfl _ _ rfl _ rfl rfl (by omega) (by omega) ?_)
  intro fv w4 ho b4
  rw [← facU_zero K n xs] at ho
  have p6' := p6x.below b4
  obtain ⟨⟨z0, z1, z2⟩, -, -, -⟩ := p6'
  by_cases hK : 1 < K
  · have hKi : (1 : Int) < (K : Int) := by omega
    have hfl : ∀ w', (Builtin.len_ #[22] 3 #[fv]).run Tryd.prog w' = .ok (.int .i64 n) w' := by have := ho.at.len; rwa [facU_length] at this
    go_wp2
    go_loopw [8] (fun i wr => ∃ j : Nat, j ≤ n ∧ i = .int .i64 j ∧ OwnI w3.heap.size wr fv (facU K n xs j) ∧ Below w3.heap.size w3 wr) (fun i _ => n - (intOf i).toNat)
    case atStart => exact ⟨0, by omega, rfl, ho, b4⟩
    case round =>
      clear ho
      obtain ⟨j, hj, rfl, ho, hbx⟩ := hrel
      obtain ⟨wo, rfl⟩ : ∃ wo : World, wo = wr := ⟨_, rfl⟩
      by_cases hjl : j < n
      · skip
        have hxl : pw K (n - 1 - j) < xs.length := by rw [hr.out.len, ← hn.out]; exact pw_lt hK (by omega)
        have ha := h3.out.below hbx
        have i1 := ha.idx (pw K (n - 1 - j)) hxl
        have c1 := ha.cellD (pw K (n - 1 - j)) hxl
        have i2 := ho.at.idx j (by rw [facU_length]; exact hjl)
        have c2 := ho.at.cellD j (by rw [facU_length]; exact hjl)
        have g2 := ho.frz j (by rw [facU_length]; exact hjl)
        have hO2 := ho.set j (by rw [facU_length]; exact hjl) (xs.getD (pw K (n - 1 - j)) 0)
        rw [facU_succ] at hO2
        have hB2 := ho.setBelow hbx j (by rw [facU_length]; exact hjl) (.int .i64 (xs.getD (pw K (n - 1 - j)) 0))
        have hbk := ho.blkB j (by rw [facU_length]; exact hjl)
        have hlt : w.heap.size + 1 < w3.heap.size := World.block_lt_of_cell? _ _ p7.1.1
        have hab := h3.out.blk (pw K (n - 1 - j)) hxl
        have ne0 : (valAt fv j).block ≠ w.heap.size := by omega
        have ne1 : (valAt fv j).block ≠ (valAt (.slice va vn vc) (pw K (n - 1 - j))).block := by omega
        have r6 := p6.below hbx
        obtain ⟨⟨z0, z1, z2⟩, -, -, -⟩ := r6
        generalize xs.getD (pw K (n - 1 - j)) 0 = x at c1 hO2 hB2
        generalize (facU K n xs j).getD j 0 = y at c2
        generalize valAt (.slice va vn vc) (pw K (n - 1 - j)) = AX at i1 c1 ne1 hab
        clear ho ha
        have hw1 : Hid (IntKind.i64.wrap ((n : Int) - 1) = (n : Int) - 1) := wrapK (by omega) (by omega)
        have hw2 : Hid (IntKind.i64.wrap ((n : Int) - 1 - (j : Int)) = (n : Int) - 1 - (j : Int)) := wrapK (by omega) (by omega)
        replace hO2 := Lib.hid hO2
        replace hB2 := Lib.hid hB2
        go_wp2
        go_region_held3 (fun w' => w'.cell? ⟨w.heap.size, 0, none⟩ = some (.int .i64 K) ∧ w'.cell? ⟨w.heap.size, 2, none⟩ = some (.slice va vn vc) ∧ w'.cell? AX = some (.int .i64 x)) (first | exact ⟨z0, z2, c1⟩ | go_keep)
          (first | (go_at_call 76; refine (ref_power _ _ K (n - 1 - j) _ rfl ?_ hk1 hk4 ?_).mono ?_
                    · rw [hw1.out, hw2.out]; omega
                    · omega
                    rintro e w' ⟨rfl, rfl⟩))
        all_goals
          go_wp2
          go_roundw
          case rel => exact ⟨j + 1, by omega, by go_num, hO2.out.drew, hB2.out.drew⟩
          case measure => simp [intOf]; omega
      · obtain rfl : j = n := by omega
        rw [hn.out, facU_all hK xs] at ho
        have r6 := p6.below hbx
        have r7 := p7.below hbx
        have hBx := Lib.hid (Below.step hBf hbx)
        have hx3 := Lib.hid (h3.out.below hbx)
        obtain ⟨⟨z0, z1, z2⟩, -, -, -⟩ := r6
        have hlt : w.heap.size + 1 < w3.heap.size := World.block_lt_of_cell? _ _ p7.1.1
        have hfs := Lib.hid (facs_syms hr.out)
        have hf7 : (facs K R xs).length ≤ 7 := by rw [facs_length]; omega
        have hfl2 : (((facs K R xs).length / 2 : Nat) : Int) = R := by rw [facs_length]; omega
        replace ho := Lib.hid ho
        have zz0 := Lib.hid z0
        have zz1 := Lib.hid z1
        have zz2 := Lib.hid z2
        go_wp2
        go_region_held3 (fun w' => w'.cell? ⟨w.heap.size, 0, none⟩ = some (.int .i64 K) ∧ w'.cell? ⟨w.heap.size, 1, none⟩ = some (.int .i64 R) ∧ w'.cell? ⟨w.heap.size, 2, none⟩ = some (.slice va vn vc)) (first | exact ⟨z0, z1, z2⟩ | exact ⟨s0, s1, s2⟩ | exact ⟨t0, t1, t2⟩ | go_keep)
          (first
          | (go_at_call 72; refine (ref_sum K fv (facs K R xs) _ ?_ hk1 hk4 hf7 hfs.out).mono ?_
             · exact ho.out.at.drew
             rintro e w5 ⟨x, rfl, b5, ua, un, uc, rfl, hu⟩
             have b5' : Below wo.heap.size wo w5 := (Below.refl wo.heap.size wo).drew.trans b5
             have s0 := cell_keep b5' zz0.out
             have s1 := cell_keep b5' zz1.out
             have s2 := cell_keep b5' zz2.out)
          | (go_at_call 16; refine (rules_any K _ K R ua un uc va vn vc (sumT K (facs K R xs)) xs _ ?_ ?_).mono ?_
             · exact hu.at
             · exact hx3.out.below b5'
             rintro e w6 ⟨_, rfl, b6, rfl⟩
             have t0 := cell_keep b6 s0
             have t1 := cell_keep b6 s1
             have t2 := cell_keep b6 s2))
        have hyb := (r7.below b5').below b6
        obtain ⟨⟨y0, y1, y2⟩, g0, g1, g2⟩ := hyb
        have hBall := Lib.hid (Below.step (Below.step hBx.out b5') b6)
        have hoF := Lib.hid ((ho.out.below b5').below b6)
        have hs3 : w.heap.size ≤ w3.heap.size := by omega
        cases hsm : isSum K R xs
        · rw [show decide (sumT K (facs K R xs) = xs) = false from hsm]
          replace hsm := Lib.hid hsm
          go_wp2
          refine bodyPost_ret (v := .tuple #[.slice none 0 0, .bool false, zErr]) (by simp [results, Tryd.results32, go_sem, y0, y1, y2]) rfl ⟨_, _, _, rfl, below_set3 hBall.out (Nat.le_succ _) _ _ _, rfl, by rw [hsm.out], (fun h => by rw [hsm.out] at h; cases h), fun _ => rfl⟩
        · rw [show decide (sumT K (facs K R xs) = xs) = true from hsm]
          replace hsm := Lib.hid hsm
          go_wp2
          refine bodyPost_ret (v := .tuple #[fv, .bool true, zErr]) (by simp [results, Tryd.results32, go_sem, y0, y1, y2]) rfl ⟨_, _, _, rfl, below_set3 hBall.out (Nat.le_succ _) _ _ _, rfl, by rw [hsm.out], fun _ => ?_, (fun h => by rw [hsm.out] at h; cases h)⟩
          exact (((hoF.out.setBelowBase (a := ⟨w.heap.size + 1, 0, none⟩) hlt _).setBelowBase (a := ⟨w.heap.size + 1, 1, none⟩) hlt _).setBelowBase (a := ⟨w.heap.size + 1, 2, none⟩) hlt _).mono hs3
  · have hKi : ¬ (1 : Int) < (K : Int) := by omega
    have hbx := b4
    rw [facU_zero, hn.out, ← facs_one hK xs] at ho
    have r6 := p6.below hbx
    have r7 := p7.below hbx
    have hBx := Lib.hid (Below.step hBf hbx)
    have hx3 := Lib.hid (h3.out.below hbx)
    obtain ⟨⟨z0, z1, z2⟩, -, -, -⟩ := r6
    have hlt : w.heap.size + 1 < w3.heap.size := World.block_lt_of_cell? _ _ p7.1.1
    have hfs := Lib.hid (facs_syms hr.out)
    have hf7 : (facs K R xs).length ≤ 7 := by rw [facs_length]; omega
    have hfl2 : (((facs K R xs).length / 2 : Nat) : Int) = R := by rw [facs_length]; omega
    replace ho := Lib.hid ho
    have zz0 := Lib.hid z0
    have zz1 := Lib.hid z1
    have zz2 := Lib.hid z2
    go_wp2
    go_region_held3 (fun w' => w'.cell? ⟨w.heap.size, 0, none⟩ = some (.int .i64 K) ∧ w'.cell? ⟨w.heap.size, 1, none⟩ = some (.int .i64 R) ∧ w'.cell? ⟨w.heap.size, 2, none⟩ = some (.slice va vn vc)) (first | exact ⟨z0, z1, z2⟩ | exact ⟨s0, s1, s2⟩ | exact ⟨t0, t1, t2⟩ | go_keep)
      (first
      | (go_at_call 72; refine (ref_sum K fv (facs K R xs) _ ?_ hk1 hk4 hf7 hfs.out).mono ?_
         · exact ho.out.at.drew
         rintro e w5 ⟨x, rfl, b5, ua, un, uc, rfl, hu⟩
         have b5' : Below w4.heap.size w4 w5 := (Below.refl w4.heap.size w4).drew.trans b5
         have s0 := cell_keep b5' zz0.out
         have s1 := cell_keep b5' zz1.out
         have s2 := cell_keep b5' zz2.out)
      | (go_at_call 16; refine (rules_any K _ K R ua un uc va vn vc (sumT K (facs K R xs)) xs _ ?_ ?_).mono ?_
         · exact hu.at
         · exact hx3.out.below b5'
         rintro e w6 ⟨_, rfl, b6, rfl⟩
         have t0 := cell_keep b6 s0
         have t1 := cell_keep b6 s1
         have t2 := cell_keep b6 s2))
    have hyb := (r7.below b5').below b6
    obtain ⟨⟨y0, y1, y2⟩, g0, g1, g2⟩ := hyb
    have hBall := Lib.hid (Below.step (Below.step hBx.out b5') b6)
    have hoF := Lib.hid ((ho.out.below b5').below b6)
    have hs3 : w.heap.size ≤ w3.heap.size := by omega
    cases hsm : isSum K R xs
    · rw [show decide (sumT K (facs K R xs) = xs) = false from hsm]
      replace hsm := Lib.hid hsm
      go_wp2
      refine bodyPost_ret (v := .tuple #[.slice none 0 0, .bool false, zErr]) (by simp [results, Tryd.results32, go_sem, y0, y1, y2]) rfl ⟨_, _, _, rfl, below_set3 hBall.out (Nat.le_succ _) _ _ _, rfl, by rw [hsm.out], (fun h => by rw [hsm.out] at h; cases h), fun _ => rfl⟩
    · rw [show decide (sumT K (facs K R xs) = xs) = true from hsm]
      replace hsm := Lib.hid hsm
      go_wp2
      refine bodyPost_ret (v := .tuple #[fv, .bool true, zErr]) (by simp [results, Tryd.results32, go_sem, y0, y1, y2]) rfl ⟨_, _, _, rfl, below_set3 hBall.out (Nat.le_succ _) _ _ _, rfl, by rw [hsm.out], fun _ => ?_, (fun h => by rw [hsm.out] at h; cases h)⟩
      exact (((hoF.out.setBelowBase (a := ⟨w.heap.size + 1, 0, none⟩) hlt _).setBelowBase (a := ⟨w.heap.size + 1, 1, none⟩) hlt _).setBelowBase (a := ⟨w.heap.size + 1, 2, none⟩) hlt _).mono hs3
end Go.Proofs.YtmddapkhipmlgaaDoor

namespace Go.Proofs.YtmddapkhipmlgaaDoor

theorem numW_cons (K : Nat) (s : Int) (u : List Int) : numW K (s :: u) = s.toNat * pw K u.length + numW K u := by
  have := numW_append K [s] u
  simpa [numW] using this

theorem digs_numW {K : Nat} (hK : 1 ≤ K) (w : List Int) (h : Syms K w) : digs K w.length (numW K w) = w := by
  induction hn : w.length generalizing w with
  | zero => obtain rfl := List.eq_nil_of_length_eq_zero hn; rfl
  | succ n ih =>
    have hne : w ≠ [] := by intro e; subst e; simp at hn
    obtain ⟨b, x, rfl⟩ : ∃ b x, w = b ++ [x] := ⟨w.dropLast, w.getLast hne, (List.dropLast_concat_getLast hne).symm⟩
    have hb : b.length = n := by simpa using hn
    have hx := h x (by simp)
    have hxn : x.toNat < K := by omega
    have := ih b (fun y hy => h y (by simp [hy])) hb
    rw [digs, numW_snoc]
    rw [show (numW K b * K + x.toNat) / K = numW K b by rw [Nat.mul_comm, Nat.mul_add_div (by omega), Nat.div_eq_of_lt hxn, Nat.add_zero], this,
      show (numW K b * K + x.toNat) % K = x.toNat by rw [Nat.mul_comm, Nat.mul_add_mod, Nat.mod_eq_of_lt hxn]]
    congr 2
    omega

/-- The mirrored table. -/
def mirT (K n : Nat) (T : List Int) : List Int := (List.range T.length).map fun i => T.getD (numW K (digs K n i).reverse) 0
theorem mirT_length (K n : Nat) (T : List Int) : (mirT K n T).length = T.length := by simp [mirT]
theorem mirT_syms {K : Nat} (hK : 1 ≤ K) (n : Nat) {T : List Int} (h : Syms K T) : Syms K (mirT K n T) := by
  intro y hy
  obtain ⟨i, _, rfl⟩ := List.mem_map.1 hy
  exact h.getD (by omega) _
theorem mirT_at {K n : Nat} (hK : 1 ≤ K) {T : List Int} (hT : T.length = pw K n) (w : List Int) (hw : Syms K w) (hl : w.length = n) : (mirT K n T).getD (numW K w) 0 = T.getD (numW K w.reverse) 0 := by
  have hlt := numW_lt w hw
  rw [hl, ← hT] at hlt
  have : (mirT K n T).getD (numW K w) 0 = T.getD (numW K (digs K n (numW K w)).reverse) 0 := by simp [mirT, List.getD, hlt]
  rw [this, ← hl, digs_numW hK w hw]
theorem mirT_ok {K R : Nat} {T : List Int} (h : RuleOk K R T) : RuleOk K R (mirT K (2 * R + 1) T) :=
  ⟨h.k1, h.k4, h.r3, by rw [mirT_length]; exact h.len, mirT_syms h.k1 _ h.syms⟩

/-- edenref19.right's answer. -/
def rightR (K : Nat) (T : List Int) : Bool := decide (∀ i, i < T.length → ∀ j, j < T.length → i < j → j / K = i / K → T.getD i 0 ≠ T.getD j 0)
theorem rightR_false {K : Nat} {T : List Int} (i j : Nat) (hj : j < T.length) (h : i < j) (hq : j / K = i / K) (e : T.getD i 0 = T.getD j 0) : rightR K T = false := by
  rw [rightR, decide_eq_false_iff_not]
  intro hh
  exact hh i (by omega) j hj h hq e
theorem rightR_true {K : Nat} {T : List Int} (h : ∀ i, i < T.length → ∀ j, j < T.length → i < j → j / K = i / K → T.getD i 0 ≠ T.getD j 0) : rightR K T = true := by
  rw [rightR, decide_eq_true_iff]; exact h

theorem bits2 : ∀ a b : Fin 2, ((0 ||| 2 ^ a.val) ||| 2 ^ b.val == 2 ^ 2 - 1) = decide (a ≠ b) := by decide
theorem bits3 : ∀ a b c : Fin 3, (((0 ||| 2 ^ a.val) ||| 2 ^ b.val) ||| 2 ^ c.val == 2 ^ 3 - 1) = decide (a ≠ b ∧ a ≠ c ∧ b ≠ c) := by decide
theorem bits4 : ∀ a b c d : Fin 4, ((((0 ||| 2 ^ a.val) ||| 2 ^ b.val) ||| 2 ^ c.val) ||| 2 ^ d.val == 2 ^ 4 - 1) = decide (a ≠ b ∧ a ≠ c ∧ a ≠ d ∧ b ≠ c ∧ b ≠ d ∧ c ≠ d) := by decide +kernel

theorem fullP_iff {K : Nat} (h1 : 1 ≤ K) (h4 : K ≤ 4) {T : List Int} (hT : Syms K T) (W i : Nat) :
    fullP K T W i = true ↔ ∀ s t, s < t → t < K → T.getD (i + s * W) 0 ≠ T.getD (i + t * W) 0 := by
  have hx : ∀ s, ∃ a : Fin K, T.getD (i + s * W) 0 = (a.val : Int) := fun s => by
    have := hT.getD (by omega) (i + s * W)
    exact ⟨⟨(T.getD (i + s * W) 0).toNat, by omega⟩, by simp only []; omega⟩
  have hk : K = 1 ∨ K = 2 ∨ K = 3 ∨ K = 4 := by omega
  unfold fullP
  rcases hk with rfl | rfl | rfl | rfl
  · obtain ⟨a, ha⟩ := hx 0
    simp only [seenP, ha, Int.toNat_natCast]
    have : a.val = 0 := by omega
    rw [this]
    exact ⟨fun _ s t h h' => by omega, fun _ => rfl⟩
  · obtain ⟨a, ha⟩ := hx 0
    obtain ⟨b, hb⟩ := hx 1
    simp only [seenP, ha, hb, Int.toNat_natCast, bits2, decide_eq_true_iff]
    constructor
    · intro h s t hst ht
      obtain rfl : s = 0 := by omega
      obtain rfl : t = 1 := by omega
      rw [ha, hb]
      intro e; exact h (Fin.ext (by omega))
    · intro h e
      have := h 0 1 (by omega) (by omega)
      rw [ha, hb, e] at this; exact this rfl
  · obtain ⟨a, ha⟩ := hx 0
    obtain ⟨b, hb⟩ := hx 1
    obtain ⟨c, hc⟩ := hx 2
    simp only [seenP, ha, hb, hc, Int.toNat_natCast, bits3, decide_eq_true_iff]
    constructor
    · rintro ⟨n1, n2, n3⟩ s t hst ht
      have : (s = 0 ∧ t = 1) ∨ (s = 0 ∧ t = 2) ∨ (s = 1 ∧ t = 2) := by omega
      rcases this with ⟨rfl, rfl⟩ | ⟨rfl, rfl⟩ | ⟨rfl, rfl⟩
      · rw [ha, hb]; intro e; exact n1 (Fin.ext (by omega))
      · rw [ha, hc]; intro e; exact n2 (Fin.ext (by omega))
      · rw [hb, hc]; intro e; exact n3 (Fin.ext (by omega))
    · intro h
      refine ⟨fun e => ?_, fun e => ?_, fun e => ?_⟩
      · have := h 0 1 (by omega) (by omega); rw [ha, hb, e] at this; exact this rfl
      · have := h 0 2 (by omega) (by omega); rw [ha, hc, e] at this; exact this rfl
      · have := h 1 2 (by omega) (by omega); rw [hb, hc, e] at this; exact this rfl
  · obtain ⟨a, ha⟩ := hx 0
    obtain ⟨b, hb⟩ := hx 1
    obtain ⟨c, hc⟩ := hx 2
    obtain ⟨d, hd⟩ := hx 3
    simp only [seenP, ha, hb, hc, hd, Int.toNat_natCast, bits4, decide_eq_true_iff]
    constructor
    · rintro ⟨n1, n2, n3, n4, n5, n6⟩ s t hst ht
      have : (s = 0 ∧ t = 1) ∨ (s = 0 ∧ t = 2) ∨ (s = 0 ∧ t = 3) ∨ (s = 1 ∧ t = 2) ∨ (s = 1 ∧ t = 3) ∨ (s = 2 ∧ t = 3) := by omega
      rcases this with ⟨rfl, rfl⟩ | ⟨rfl, rfl⟩ | ⟨rfl, rfl⟩ | ⟨rfl, rfl⟩ | ⟨rfl, rfl⟩ | ⟨rfl, rfl⟩
      · rw [ha, hb]; intro e; exact n1 (Fin.ext (by omega))
      · rw [ha, hc]; intro e; exact n2 (Fin.ext (by omega))
      · rw [ha, hd]; intro e; exact n3 (Fin.ext (by omega))
      · rw [hb, hc]; intro e; exact n4 (Fin.ext (by omega))
      · rw [hb, hd]; intro e; exact n5 (Fin.ext (by omega))
      · rw [hc, hd]; intro e; exact n6 (Fin.ext (by omega))
    · intro h
      refine ⟨fun e => ?_, fun e => ?_, fun e => ?_, fun e => ?_, fun e => ?_, fun e => ?_⟩
      · have := h 0 1 (by omega) (by omega); rw [ha, hb, e] at this; exact this rfl
      · have := h 0 2 (by omega) (by omega); rw [ha, hc, e] at this; exact this rfl
      · have := h 0 3 (by omega) (by omega); rw [ha, hd, e] at this; exact this rfl
      · have := h 1 2 (by omega) (by omega); rw [hb, hc, e] at this; exact this rfl
      · have := h 1 3 (by omega) (by omega); rw [hb, hd, e] at this; exact this rfl
      · have := h 2 3 (by omega) (by omega); rw [hc, hd, e] at this; exact this rfl

theorem unlikeP_iff {K : Nat} {T : List Int} {W : Nat} : unlikeP K T W = true ↔ ∀ i, i < T.length → i / W % K = 0 → fullP K T W i = true :=
  ⟨fun h i => unlikeP_full h i, unlikeP_true⟩

theorem mul_add_lt {K q s m : Nat} (hs : s < K) (hq : q < m) : q * K + s < m * K := by
  have := Nat.mul_le_mul_right K (show q + 1 ≤ m from hq)
  rw [Nat.succ_mul] at this
  omega
theorem div_mk {K q s : Nat} (hs : s < K) : (q * K + s) / K = q := by
  rw [Nat.mul_comm, Nat.mul_add_div (by omega), Nat.div_eq_of_lt hs, Nat.add_zero]
theorem mod_mk {K q s : Nat} (hs : s < K) : (q * K + s) % K = s := by
  rw [Nat.mul_comm, Nat.mul_add_mod, Nat.mod_eq_of_lt hs]

/-- The last place permutes: the program's test is the document's. -/
theorem unlike_right {K R : Nat} {T : List Int} (h : RuleOk K R T) : unlikeP K T 1 = rightR K T := by
  have h1 := h.k1
  have hl := h.half.2
  rw [Bool.eq_iff_iff, unlikeP_iff, rightR, decide_eq_true_iff]
  constructor
  · intro hu i hi j hj hij hq
    have e1 := Nat.div_add_mod' i K
    have e2 := Nat.div_add_mod' j K
    have m1 := Nat.mod_lt i (show K > 0 by omega)
    have m2 := Nat.mod_lt j (show K > 0 by omega)
    rw [hq] at e2
    have := (fullP_iff h1 h.k4 h.syms 1 (i / K * K)).1 (hu _ (by omega) (by rw [Nat.div_one, Nat.mul_mod_left])) (i % K) (j % K) (by omega) m2
    rwa [Nat.mul_one, Nat.mul_one, e1, e2] at this
  · intro hr i hi hm
    rw [Nat.div_one] at hm
    obtain ⟨q, rfl⟩ : ∃ q, i = q * K := ⟨i / K, by have := Nat.div_add_mod' i K; omega⟩
    have hq : q < pw K (2 * R) := Nat.lt_of_mul_lt_mul_right (a := K) (by rw [← hl]; exact hi)
    refine (fullP_iff h1 h.k4 h.syms 1 _).2 fun s t hst ht => ?_
    have l2 := mul_add_lt ht hq
    rw [← hl] at l2
    have := hr (q * K + s) (by omega) (q * K + t) l2 (by omega) (by rw [div_mk ht, div_mk (by omega)])
    rwa [Nat.mul_one, Nat.mul_one]

theorem digs_snoc {K : Nat} (n x : Nat) : digs K (n + 1) x = digs K n (x / K) ++ [((x % K : Nat) : Int)] := rfl

/-- The first place permutes just if the mirrored rule's last does. -/
theorem unlike_left {K R : Nat} {T : List Int} (h : RuleOk K R T) : unlikeP K T (T.length / K) = rightR K (mirT K (2 * R + 1) T) := by
  have h1 := h.k1
  obtain ⟨hW, hl⟩ := h.half
  have hMl := mirT_length K (2 * R + 1) T
  have hp := pw_pos (K := K) (2 * R) h1
  rw [hW, Bool.eq_iff_iff, unlikeP_iff, rightR, decide_eq_true_iff, hMl]
  have key : ∀ q s, q < pw K (2 * R) → s < K → (mirT K (2 * R + 1) T).getD (q * K + s) 0 = T.getD (numW K (digs K (2 * R) q).reverse + s * pw K (2 * R)) 0 := by
    intro q s hq hs
    have hsy : Syms K (digs K (2 * R) q ++ [(s : Int)]) := by
      intro y hy
      rcases List.mem_append.1 hy with hy | hy
      · exact digs_syms h1 _ _ y hy
      · rw [List.mem_singleton] at hy; subst hy; omega
    have := mirT_at h1 h.len (digs K (2 * R) q ++ [(s : Int)]) hsy (by simp [digs_length])
    rw [numW_snoc, numW_digs h1 _ _ hq, Int.toNat_natCast, List.reverse_append, List.reverse_singleton, List.singleton_append, numW_cons, Int.toNat_natCast, List.length_reverse, digs_length, Nat.add_comm (s * _)] at this
    exact this
  have rsy : ∀ q, Syms K (digs K (2 * R) q).reverse := fun q y hy => digs_syms h1 _ _ y (List.mem_reverse.1 hy)
  have rlt : ∀ q, numW K (digs K (2 * R) q).reverse < pw K (2 * R) := fun q => by
    have := numW_lt _ (rsy q)
    rwa [List.length_reverse, digs_length] at this
  constructor
  · intro hu i hi j hj hij hq
    have e1 := Nat.div_add_mod' i K
    have e2 := Nat.div_add_mod' j K
    have m1 := Nat.mod_lt i (show K > 0 by omega)
    have m2 := Nat.mod_lt j (show K > 0 by omega)
    rw [hq] at e2
    have hqi : i / K < pw K (2 * R) := by rw [Nat.div_lt_iff_lt_mul (by omega), ← hl]; exact hi
    have a1 := key (i / K) (i % K) hqi m1
    have a2 := key (i / K) (j % K) hqi m2
    rw [e1] at a1
    rw [e2] at a2
    rw [a1, a2]
    have lt := rlt (i / K)
    refine (fullP_iff h1 h.k4 h.syms (pw K (2 * R)) _).1 (hu _ ?_ ?_) (i % K) (j % K) (by omega) m2
    · rw [hl]; have := Nat.mul_le_mul_left (pw K (2 * R)) h1; omega
    · rw [Nat.div_eq_of_lt lt, Nat.zero_mod]
  · intro hr i hi hm
    have hiW : i < pw K (2 * R) := by
      have hdl : i / pw K (2 * R) < K := by rw [Nat.div_lt_iff_lt_mul (by omega), Nat.mul_comm, ← hl]; exact hi
      rw [Nat.mod_eq_of_lt hdl] at hm
      have := Nat.div_add_mod i (pw K (2 * R))
      have := Nat.mod_lt i (show pw K (2 * R) > 0 by omega)
      rw [hm] at *
      omega
    refine (fullP_iff h1 h.k4 h.syms (pw K (2 * R)) i).2 fun s t hst ht => ?_
    have hq := rlt i
    have a1 := key _ s hq (by omega)
    have a2 := key _ t hq ht
    have back : numW K (digs K (2 * R) (numW K (digs K (2 * R) i).reverse)).reverse = i := by
      have := digs_numW h1 _ (rsy i)
      rw [List.length_reverse, digs_length] at this
      rw [this, List.reverse_reverse, numW_digs h1 _ _ hiW]
    rw [back] at a1 a2
    rw [← a1, ← a2]
    have l2 := mul_add_lt ht hq
    rw [← hl] at l2
    exact hr _ (by omega) _ l2 (by omega) (by rw [div_mk ht, div_mk (by omega)])

/-- The symbols to the right, and the node behind them: the last 2 R symbols. -/
theorem num_shift {K : Nat} {u : List Int} {s : Int} (h : Syms K (u ++ [s])) : numW K ((u ++ [s]).drop 1) = numW K (u ++ [s]) % pw K u.length := by
  have hl : ((u ++ [s]).drop 1).length = u.length := by simp
  have := numW_mod (K := K) (u := (u ++ [s]).take 1) (v := (u ++ [s]).drop 1) (fun y hy => h y (List.mem_of_mem_drop hy))
  rw [List.take_append_drop, hl] at this
  exact this.symm
theorem rightP_syms {K : Nat} (hK : 1 ≤ K) (T : List Int) (node : Nat) (w : List Int) : Syms K (rightP K T node w) := by
  induction w generalizing node with
  | nil => intro y hy; cases hy
  | cons x w ih =>
    intro y hy
    rw [rightP, List.mem_cons] at hy
    rcases hy with rfl | hy
    · have := fit_lt hK T (node * K) 1 x; omega
    · exact ih _ y hy
theorem on_front {K R : Nat} {T : List Int} (hK : 1 ≤ K) (hW : T.length / K = pw K (2 * R)) (zs ys : List Int) (hz : Syms K zs) (hl : zs.length = 2 * R) :
    numW K ((zs ++ rightP K T (numW K zs) ys).drop ys.length) = rightN K T (numW K zs) ys := by
  induction hn : ys.length generalizing ys with
  | zero => obtain rfl := List.eq_nil_of_length_eq_zero hn; simp [rightP, rightN]
  | succ n ih =>
    have hne : ys ≠ [] := by intro e; subst e; simp at hn
    obtain ⟨b, x, rfl⟩ : ∃ b x, ys = b ++ [x] := ⟨ys.dropLast, ys.getLast hne, (List.dropLast_concat_getLast hne).symm⟩
    have hb : b.length = n := by simpa using hn
    have ih' := ih b hb
    rw [rightP_snoc, rightN_snoc, ← List.append_assoc, ← ih', hW]
    have hPl := rightP_length K T (numW K zs) b
    have hs := fit_lt hK T (numW K ((zs ++ rightP K T (numW K zs) b).drop n) * K) 1 x
    generalize fit K T (numW K ((zs ++ rightP K T (numW K zs) b).drop n) * K) 1 x = s at *
    have hu : Syms K (zs ++ rightP K T (numW K zs) b) := by
      intro y hy
      rcases List.mem_append.1 hy with hy | hy
      · exact hz y hy
      · exact rightP_syms hK _ _ _ y hy
    have hul : (zs ++ rightP K T (numW K zs) b).length = 2 * R + n := by simp [hPl, hl, hb]
    generalize zs ++ rightP K T (numW K zs) b = u at *
    have e : (u ++ [(s : Int)]).drop (n + 1) = (u.drop n ++ [(s : Int)]).drop 1 := by
      rw [← List.drop_drop, List.drop_append_of_le_length (by omega)]
    have hdl : (u.drop n).length = 2 * R := by simp; omega
    rw [e, num_shift, numW_snoc, hdl, Int.toNat_natCast]
    intro y hy
    rcases List.mem_append.1 hy with hy | hy
    · exact hu y (List.mem_of_mem_drop hy)
    · rw [List.mem_singleton] at hy; subst hy; omega

theorem fitP_congr {T M : List Int} {r1 W1 r2 W2 : Nat} (image : Int) (n s : Nat) (h : ∀ t, t < s + n → T.getD (r1 + t * W1) 0 = M.getD (r2 + t * W2) 0) : fitP T r1 W1 image n s = fitP M r2 W2 image n s := by
  induction n generalizing s with
  | zero => rfl
  | succ n ih => rw [fitP, fitP, h s (by omega), ih (s + 1) (fun t ht => h t (by omega))]

/-- The symbols to the left are those to the right by the mirrored rule, mirrored. -/
theorem left_mirror {K R : Nat} {T : List Int} (h : RuleOk K R T) (zs ys : List Int) (hz : Syms K zs) (hl : zs.length = 2 * R) :
    ∃ u, u.length = 2 * R ∧ Syms K u ∧ (leftS K T (numW K zs) ys).1 = numW K u ∧ rightN K (mirT K (2 * R + 1) T) (numW K zs.reverse) ys.reverse = numW K u.reverse ∧
      (leftS K T (numW K zs) ys).2 = (rightP K (mirT K (2 * R + 1) T) (numW K zs.reverse) ys.reverse).reverse := by
  have h1 := h.k1
  obtain ⟨hW, hlen⟩ := h.half
  have hMW : (mirT K (2 * R + 1) T).length / K = pw K (2 * R) := by rw [mirT_length]; exact hW
  induction ys with
  | nil => exact ⟨zs, hl, hz, rfl, rfl, rfl⟩
  | cons x w ih =>
    obtain ⟨u, hul, hu, e1, e2, e3⟩ := ih
    have hf : fit K T (numW K u) (T.length / K) x = fit K (mirT K (2 * R + 1) T) (numW K u.reverse * K) 1 x := by
      refine fitP_congr x K 0 fun t ht => ?_
      have hsy : Syms K (u.reverse ++ [(t : Int)]) := by
        intro y hy
        rcases List.mem_append.1 hy with hy | hy
        · exact hu y (List.mem_reverse.1 hy)
        · rw [List.mem_singleton] at hy; subst hy; omega
      have := mirT_at h1 h.len (u.reverse ++ [(t : Int)]) hsy (by simp [hul])
      rw [numW_snoc, Int.toNat_natCast, List.reverse_append, List.reverse_singleton, List.singleton_append, List.reverse_reverse, numW_cons, Int.toNat_natCast, hul] at this
      rw [hW, Nat.mul_one, this, Nat.add_comm]
    have hs := fit_lt h1 T (numW K u) (T.length / K) x
    have es : (leftS K T (numW K zs) (x :: w)) = ((fit K T (numW K u) (T.length / K) x * (T.length / K) + numW K u) / K, (fit K T (numW K u) (T.length / K) x : Int) :: (leftS K T (numW K zs) w).2) := by
      rw [leftS, e1]
    rw [es, List.reverse_cons, rightP_snoc, rightN_snoc, e2, ← hf, e3, hMW]
    rw [hW] at hf hs es ⊢
    generalize fit K T (numW K u) (pw K (2 * R)) x = s at *
    have hsu : Syms K ((s : Int) :: u) := by
      intro y hy
      rcases List.mem_cons.1 hy with rfl | hy
      · omega
      · exact hu y hy
    have hne : ((s : Int) :: u) ≠ [] := by simp
    have hcat := List.dropLast_concat_getLast hne
    have hv : Syms K ((s : Int) :: u).dropLast := fun y hy => hsu y (List.dropLast_subset _ hy)
    refine ⟨((s : Int) :: u).dropLast, by simp [hul], hv, ?_, ?_, ?_⟩
    · have e := numW_cons K s u
      rw [Int.toNat_natCast, hul] at e
      show (s * pw K (2 * R) + numW K u) / K = _
      rw [← e, ← hcat, numW_snoc, hcat, div_mk]
      have := hsu _ (List.getLast_mem hne)
      omega
    · have e : (u.reverse ++ [(s : Int)]).drop 1 = ((s : Int) :: u).dropLast.reverse := by
        rw [List.dropLast_eq_take, List.reverse_take]
        simp
      have hr : Syms K (u.reverse ++ [(s : Int)]) := by
        intro y hy
        apply hsu
        simpa [or_comm] using hy
      rw [← e, num_shift hr, numW_snoc, List.length_reverse, hul, Int.toNat_natCast]
    · simp
end Go.Proofs.YtmddapkhipmlgaaDoor

namespace Go.Proofs.YtmddapkhipmlgaaDoor
open Go.RowKit
set_option maxRecDepth 100000

theorem size_zeroC (n : Nat) : (Builtin.zeroCells (Value.cells (.int .i64 0)) n).size = n := by
  rw [size_zeroCells]; simp [Value.cells]

theorem grow_nil (n : Nat) (w : World) (hn : n ≤ 1048576) :
    Calls Tryd.prog 121 #[.slice none 0 0, .int .i64 n] w (Ret1 (fun x w' => OwnI w.heap.size w' x []) w) := by
  by_cases h0 : n = 0
  · subst h0
    go_enter Tryd.func121, Tryd.ntmps121
    go_wp2
    go_ret
    exact ⟨_, rfl, Below.refl _ _, OwnI.nil _ _⟩
  · have h1 : 1 ≤ n := by omega
    clear h0
    obtain ⟨i, hi, hz0, hz1, hz2⟩ := info_parts iInt
    have hap := Lib.run_append_nil_zeros (P := Tryd.prog) w 22 3 22 3 i (.int .i64 0) .i64 .i64 uInts (by kernel_rfl) hi hz0 n h1 (by rw [hz1]; decide) (by omega) (by rw [hz2]; omega)
    have hb : Tryd.t3.bytes = 8 := by kernel_rfl
    have hns : ¬ (281474976710656 < Builtin.nextslicecap n 0 * 8) := by rw [nextslicecap_zero (by omega)]; omega
    have hlt : ¬ (281474976710656 < (n : Int) * (Tryd.t3.bytes : Int)) := by rw [hb]; omega
    go_enter Tryd.func121, Tryd.ntmps121
    go_wp2
    go_ret
    have hge := grownCap_ge w n 0 3
    have hcm : grownCap w n 0 3 ≤ maxLen := grownCap_le_maxLen w _ 0 3 (by unfold maxLen; omega)
    refine ⟨_, rfl, (belowAlloc w _).drew, by simp, .inr ⟨w.heap.size, grownCap w n 0 3, _, rfl, Nat.le_refl _, heap_alloc_new w.drew _, by simp, hcm, ?_, by simp⟩⟩
    unfold grownCap at hge ⊢
    simp only [Array.size_append, size_zeroCells]
    simp
    omega

/-- The first n of a list of []ints, one after the other. -/
def catN (xs : Nat → List Int) (n : Nat) : List Int := (List.range n).flatMap xs
theorem catN_succ (xs : Nat → List Int) (n : Nat) : catN xs (n + 1) = catN xs n ++ xs n := by simp [catN, List.range_succ]

/-- The lengths' sum. -/
def lenN (xs : Nat → List Int) : Nat → Nat
  | 0 => 0
  | n + 1 => lenN xs n + (xs n).length
theorem catN_length (xs : Nat → List Int) (n : Nat) : (catN xs n).length = lenN xs n := by
  induction n with
  | zero => rfl
  | succ n ih => rw [catN_succ, List.length_append, ih]; rfl

/-- slices.Concat, at lists that all lie ready. -/
theorem concat_any (v : Value) (vs : List Value) (xs : Nat → List Int) (w : World) (h : ValsAt w v vs) (hx : ∀ t (ht : t < vs.length), IntsAt w vs[t] (xs t)) (hn : vs.length ≤ 100) (hl : ∀ t, t < vs.length → (xs t).length ≤ 8192) :
    Calls Tryd.prog 99 #[v] w (Ret1 (fun x w' => OwnI w.heap.size w' x (catN xs vs.length)) w) := by
  have hlen : ∀ n, n ≤ vs.length → lenN xs n ≤ n * 8192 := by
    intro n
    induction n with
    | zero => intro _; exact Nat.le_refl _
    | succ n ih =>
      intro hn'
      have := ih (by omega)
      have := hl n (by omega)
      show lenN xs n + (xs n).length ≤ _
      omega
  have hll := h.len oneLists
  replace hx := Lib.hid hx
  replace hl := Lib.hid hl
  replace hlen := Lib.hid hlen
  replace h := Lib.hid h
  go_enter Tryd.func99, Tryd.ntmps99
  go_wp2
  go_loop [3, 11] (fun s i => ∃ j : Nat, j ≤ vs.length ∧ i = .int .i64 j ∧ s = .int .i64 (lenN xs j)) (fun _ i => vs.length - (intOf i).toNat)
  case atStart => exact ⟨0, by omega, rfl, rfl⟩
  case round =>
    obtain ⟨j, hj, rfl, rfl⟩ := hrel
    have hj1 := hlen.out j hj
    by_cases hjl : j < vs.length
    · have i1 := h.out.idx oneLists j hjl
      have c1 := h.out.cell j hjl
      have hxj := hx.out j hjl
      have l1 := hxj.len
      have hlj := hl.out j hjl
      obtain ⟨a, n, c, hv⟩ := hxj.shape
      replace hxj := Lib.hid hxj
      rw [hv] at c1 l1
      clear hv
      have e : Hid (lenN xs (j + 1) = lenN xs j + (xs j).length) := rfl
      go_wp2
      go_round
      case rel => exact ⟨j + 1, by omega, by go_num, by rw [e.out]; go_num⟩
      case measure => simp [intOf]; omega
    · obtain rfl : j = vs.length := by omega
      have hL : lenN xs vs.length ≤ 1048576 := by omega
      go_wp2_with fail
      refine (grow_nil _ _ hL).mono ?_
      rintro e w1 ⟨x, rfl, hb, ho⟩
      go_wp2
      go_loopw [6, 27] (fun s i wr => ∃ j : Nat, j ≤ vs.length ∧ i = .int .i64 j ∧ OwnI w.heap.size wr s (catN xs j) ∧ Below w.heap.size w wr) (fun _ i _ => vs.length - (intOf i).toNat)
      case atStart => exact ⟨0, by omega, rfl, by simpa [catN] using ho, hb⟩
      case round =>
        obtain ⟨j, hj, rfl, ho, hb⟩ := hrel
        by_cases hjl : j < vs.length
        · have hv := h.out.below hb
          have i1 := hv.idx oneLists j hjl
          have c1 := hv.cell j hjl
          have hxj := (hx.out j hjl).below hb
          have hlj := hl.out j hjl
          have hcl := hlen.out j (by omega)
          have hcc := catN_length xs j
          clear hv
          generalize vs[j] = u at c1 hxj
          obtain ⟨a, n, c, rfl⟩ := hxj.shape
          replace hxj := Lib.hid hxj
          replace ho := Lib.hid ho
          go_wp2_with (at_builtin; refine wpl_append rfl _ _ rfl w.heap.size _ _ (catN xs j) (xs j) ho.out hxj.out rfl rfl (by omega) hb.size ?_)
          intro v' w' ho' hb' _ _
          go_wp2
          go_roundw
          case rel => exact ⟨j + 1, by omega, by go_num, by rw [catN_succ]; exact ho', hb.trans hb'⟩
          case measure => simp [intOf]; omega
        · obtain rfl : j = vs.length := by omega
          go_wp2
          go_ret
          exact ⟨_, rfl, hb, ho⟩
end Go.Proofs.YtmddapkhipmlgaaDoor

namespace Go.Proofs.YtmddapkhipmlgaaDoor
open Go.RowKit
set_option maxRecDepth 100000

theorem perm_wrong (r : Nat → Addr) (at_ n : Int) (w : World) (hg : Glob r w) (h1 : 1 ≤ n) (h2 : n ≤ 11) :
    Calls Tryd.prog 54 #[.int .i64 at_, .int .i64 n] w (Ret1 (fun v w' => ErrIs r w' (fresh sPermut at_ n) v) w) := by
  go_enter Tryd.func54, Tryd.ntmps54
  go_wp2_with fail
  refine (new_any r _ at_ n w hg h1 h2).mono ?_
  rintro e w' ⟨v, rfl, hb, he⟩
  go_wp2
  go_ret
  exact ⟨_, rfl, hb, he⟩

theorem wrap64_nat (n : Nat) (h : n < 1048576) : wrap64 (n : Int) = n := wrap64_id (by omega) (by omega)
theorem wrap64_nat1 (n : Nat) (h1 : 1 ≤ n) (h : n < 1048576) : wrap64 ((n : Int) - 1) = ((n - 1 : Nat) : Int) := by
  rw [wrap64_id (by omega) (by omega)]; omega
theorem bits_or_nat (a b : Nat) (ha : a < 1024) (hb : b < 1024) : bits .or .i64 (a : Int) (b : Int) = ((a ||| b : Nat) : Int) := by
  have hx : a ||| b < 2 ^ 10 := Nat.or_lt_two_pow (by omega) (by omega)
  have h1 : (BitVec.ofInt 64 (a : Int)).toNat = a := by
    rw [BitVec.ofInt_natCast, BitVec.toNat_ofNat]; exact Nat.mod_eq_of_lt (by omega)
  have h2 : (BitVec.ofInt 64 (b : Int)).toNat = b := by
    rw [BitVec.ofInt_natCast, BitVec.toNat_ofNat]; exact Nat.mod_eq_of_lt (by omega)
  show IntKind.i64.wrap ((BitVec.ofInt 64 (a : Int) ||| BitVec.ofInt 64 (b : Int)).toNat : Int) = _
  rw [BitVec.toNat_or, h1, h2]
  exact wrapK (by omega) (by omega)

set_option maxHeartbeats 1000000 in
theorem unlike_any (K R : Nat) (va : Option Addr) (vn vc : Nat) (xs : List Int) (W : Nat) (w : World) (h : IntsAt w (.slice va vn vc) xs) (hr : RuleOk K R xs) (hW : 1 ≤ W) (q : Nat) (hdiv : xs.length = q * (W * K)) :
    Calls Tryd.prog 69 #[.agg #[.int .i64 K, .int .i64 R, .slice va vn vc], .int .i64 W] w (Ret1 (fun x _ => x = .bool (unlikeP K xs W)) w) := by
  have hb0 := belowAlloc w (.cells #[.int .i64 K, .int .i64 R, .slice va vn vc] 24)
  have h0 := Lib.hid h
  have hl := h.len
  have hk1 := hr.k1
  have hk4 := hr.k4
  have hlen := hr.len_le
  clear h
  replace hdiv := Lib.hid hdiv
  replace hr := Lib.hid hr
  go_enter Tryd.func69, Tryd.ntmps69
  go_wp2_with fail
  go_loopw [11] (fun i wr => (∃ j : Nat, j ≤ xs.length ∧ i = .int .i64 j ∧ ∀ t, t < j → t / W % K = 0 → fullP K xs W t = true) ∧ ∃ n, wr = (w.alloc (.cells #[.int .i64 K, .int .i64 R, .slice va vn vc] 24)).drewN n) (fun i _ => xs.length - (intOf i).toNat)
  case atStart => exact ⟨⟨0, by omega, rfl, by intro t ht; omega⟩, 0, rfl⟩
  case round =>
    obtain ⟨⟨j, hj, rfl, hp⟩, n, rfl⟩ := hrel
    replace hp := Lib.hid hp
    by_cases hlt : j < xs.length
    · by_cases hm : j / W % K = 0
      · have hqd : 0 ≤ (j : Int) / (W : Int) := Int.ediv_nonneg (by omega) (by omega)
        have hqu : (j : Int) / (W : Int) ≤ 16384 := by
          have : j / W ≤ j := Nat.div_le_self _ _
          have : j / W ≤ 16384 := by omega
          exact_mod_cast this
        have hq : ((j : Int) / (W : Int) % (K : Int) != 0) = false := by
          rw [bne_eq_false_iff_eq]
          exact_mod_cast hm
        replace hm := Lib.hid hm
        go_wp2
        go_quiet (fail)
        go_wp2
        go_loop [6, 23] (fun n i => ∃ s : Nat, s ≤ K ∧ i = .int .i64 s ∧ n = .int .i64 (seenP xs W j s)) (fun _ i => K - (intOf i).toNat)
        case atStart => exact ⟨0, by omega, rfl, rfl⟩
        case round =>
          obtain ⟨s, hs, rfl, rfl⟩ := hrel
          by_cases hsl : s < K
          · have hx := hr.out.syms.getD (by omega) (j + s * W)
            have hin : j + s * W < xs.length := group_lt hW hdiv.out hlt hm.out hsl
            have h1 := h0.out.below hb0
            have i1 : ∀ w', (Instr.indexAt 22 (.slice va vn vc) (.int .i64 ((j : Int) + (s : Int) * (W : Int)))).run Tryd.prog w' = .ok (.pointer (some (valAt (.slice va vn vc) (j + s * W)))) w' := by
              intro w'
              have := h1.idx (j + s * W) hin w'
              rwa [Int.natCast_add, Int.natCast_mul] at this
            have c1 := h1.cellD (j + s * W) hin
            have hsw0 : 0 ≤ (s : Int) * (W : Int) := Int.mul_nonneg (by omega) (by omega)
            have hsw1 : (s : Int) * (W : Int) ≤ 16384 := by
              have : s * W ≤ 16384 := by omega
              exact_mod_cast this
            have hst : Hid (seenP xs W j (s + 1) = seenP xs W j s ||| 2 ^ (xs.getD (j + s * W) 0).toNat) := rfl
            have hsl2 := seenP_lt hk1 hr.out.syms W j s
            have h16 := two_pow_K hk4
            generalize xs.getD (j + s * W) 0 = x at hx c1 hst
            have hbx : 2 ^ x.toNat < 1024 := Nat.lt_of_lt_of_le (Nat.pow_lt_pow_right (by decide) (show x.toNat < 4 by omega)) (by decide)
            have hbit : Hid (bits BinOp.or IntKind.i64 ((seenP xs W j s : Nat) : Int) (wrap64 (2 ^ x.toNat)) = ((seenP xs W j (s + 1) : Nat) : Int)) := by
              show _ = _
              have e : (2 : Int) ^ x.toNat = ((2 ^ x.toNat : Nat) : Int) := by simp
              rw [e, wrap64_nat _ (by omega), bits_or_nat _ _ (by omega) hbx, hst.out]
            go_wp2
            go_round
            case rel => exact ⟨s + 1, by omega, by go_num, by rw [hbit.out]⟩
            case measure => simp [intOf]; omega
          · obtain rfl : K = s := by omega
            have h16 := two_pow_K hk4
            have h1K : 1 ≤ 2 ^ K := Nat.two_pow_pos K
            have e : (2 : Int) ^ K = ((2 ^ K : Nat) : Int) := by simp
            have e2 : wrap64 (wrap64 ((2 : Int) ^ K) - 1) = ((2 ^ K - 1 : Nat) : Int) := by
              rw [e, wrap64_nat _ (by omega), wrap64_nat1 _ h1K (by omega)]
            have hT : Hid (((seenP xs W j K : Nat) : Int) != wrap64 (wrap64 ((2 : Int) ^ K) - 1)) = Hid (fullP K xs W j = false) := by
              show ((((seenP xs W j K : Nat) : Int) != wrap64 (wrap64 ((2 : Int) ^ K) - 1)) = true) = (fullP K xs W j = false)
              rw [e2]
              apply propext
              rw [bne_iff_ne, fullP, beq_eq_false_iff_ne]
              omega
            cases hf : fullP K xs W j
            · have ht : (((seenP xs W j K : Nat) : Int) != wrap64 (wrap64 ((2 : Int) ^ K) - 1)) = true := by
                have := Eq.mpr hT hf; exact this
              have hu := Lib.hid (unlikeP_false (K := K) j hlt hm.out hf)
              clear hT e e2 hf
              go_wp2
              go_ret
              exact ⟨_, rfl, below_drewN hb0 _, (by rw [hu.out]; rfl)⟩
            · have ht : (((seenP xs W j K : Nat) : Int) != wrap64 (wrap64 ((2 : Int) ^ K) - 1)) = false := by
                rw [Bool.eq_false_iff]
                intro c
                have := Eq.mp hT c
                rw [hf] at this
                cases this
              replace hf := Lib.hid hf
              clear hT e e2
              go_wp2
              go_roundw
              case rel =>
                refine ⟨⟨j + 1, by omega, by go_num, ?_⟩, _, rfl⟩
                intro t ht' htm
                by_cases e : t = j
                · subst e; exact hf.out
                · exact hp.out t (by omega) htm
              case measure => simp [intOf]; omega
      · have hqd : 0 ≤ (j : Int) / (W : Int) := Int.ediv_nonneg (by omega) (by omega)
        have hqu : (j : Int) / (W : Int) ≤ 16384 := by
          have : j / W ≤ j := Nat.div_le_self _ _
          have : j / W ≤ 16384 := by omega
          exact_mod_cast this
        have hq : ((j : Int) / (W : Int) % (K : Int) != 0) = true := by
          rw [bne_iff_ne]
          intro e
          apply hm
          exact_mod_cast e
        replace hm := Lib.hid hm
        go_wp2
        go_quiet (fail)
        go_wp2
        go_roundw
        case rel =>
          refine ⟨⟨j + 1, by omega, by go_num, ?_⟩, _, rfl⟩
          intro t ht htm
          by_cases e : t = j
          · subst e; exact absurd htm hm.out
          · exact hp.out t (by omega) htm
        case measure => simp [intOf]; omega
    · have hu : unlikeP K xs W = true := unlikeP_true fun i hi hm => hp.out i (by omega) hm
      replace hu := Lib.hid hu
      go_wp2
      go_ret
      exact ⟨_, rfl, below_drewN hb0 n, (by rw [hu.out]; rfl)⟩

theorem sides_bad (r : Nat → Addr) (k R : Int) (va : Option Addr) (vn vc : Nat) (xs : List Int) (t : Int × List (ByteArray × Int)) (w : World) (hg : Glob r w) (h : IntsAt w (.slice va vn vc) xs) (hc : checkP k R xs = some t) :
    Calls Tryd.prog 28 #[.agg #[.int .i64 k, .int .i64 R, .slice va vn vc]] w (Ret3 (fun x y z w' => x = .bool false ∧ y = .bool false ∧ ErrIs r w' (under sPermut 0 (some t)) z) w) := by
  have hb0 := belowAlloc w (.cells #[.int .i64 k, .int .i64 R, .slice va vn vc] 24)
  replace hg := Lib.hid (hg.below hb0)
  replace h := Lib.hid (h.below hb0)
  replace hc := Lib.hid hc
  go_enter Tryd.func28, Tryd.ntmps28
  go_wp2_with fail
  refine (check_any r k R _ xs _ hg.out h.out).mono ?_
  rintro e w1 ⟨x, rfl, hb, he⟩
  rw [hc.out] at he
  have he' := Lib.hid he
  obtain ⟨T, p, rfl⟩ := he.some_shape
  clear he
  go_wp2_with fail
  refine (under_any r _ _ _ _ _ he'.out).mono ?_
  rintro e w2 ⟨x, rfl, hb', he⟩
  go_wp2
  go_ret3
  exact ⟨_, _, _, rfl, Below.step hb0 (Below.step hb hb'), rfl, rfl, he⟩

theorem unlikeI (K R : Nat) (va : Option Addr) (vn vc : Nat) (xs : List Int) (Wi : Int) (w : World) (hW : 1 ≤ Wi) (hdiv : ∃ q, xs.length = q * (Wi.toNat * K)) (h : IntsAt w (.slice va vn vc) xs) (hr : RuleOk K R xs) :
    Calls Tryd.prog 69 #[.agg #[.int .i64 K, .int .i64 R, .slice va vn vc], .int .i64 Wi] w (Ret1 (fun x _ => x = .bool (unlikeP K xs Wi.toNat)) w) := by
  obtain ⟨W, rfl⟩ := Int.eq_ofNat_of_zero_le (show 0 ≤ Wi by omega)
  obtain ⟨q, hq⟩ := hdiv
  rw [Int.toNat_natCast] at hq ⊢
  exact unlike_any K R va vn vc xs W w h hr (by omega) q hq

set_option maxHeartbeats 1000000 in
theorem sides_ok (K R : Nat) (va : Option Addr) (vn vc : Nat) (xs : List Int) (w : World) (h : IntsAt w (.slice va vn vc) xs) (hr : RuleOk K R xs) :
    Calls Tryd.prog 28 #[.agg #[.int .i64 K, .int .i64 R, .slice va vn vc]] w (Ret3 (fun x y z _ => x = .bool (unlikeP K xs (xs.length / K)) ∧ y = .bool (unlikeP K xs 1) ∧ z = .nilIface) w) := by
  have hb0 := belowAlloc w (.cells #[.int .i64 K, .int .i64 R, .slice va vn vc] 24)
  have hl := h.len
  have hk1 := hr.k1
  have hlen := hr.len_le
  have hhf := hr.half
  have hp1 := pw_pos (2 * R) hk1
  replace h := Lib.hid (h.below hb0)
  replace hr := Lib.hid hr
  replace hhf := Lib.hid hhf
  have hq0 : 0 ≤ (xs.length : Int) / (K : Int) := Int.ediv_nonneg (by omega) (by omega)
  have hq1 : (xs.length : Int) / (K : Int) ≤ 16384 := by
    have : xs.length / K ≤ 16384 := Nat.le_trans (Nat.div_le_self _ _) hlen
    exact_mod_cast this
  have hqw : IntKind.i64.wrap ((xs.length : Int) / (K : Int)) = (xs.length : Int) / (K : Int) := wrapK (by omega) (by omega)
  have hdc : Hid ((xs.length : Int) / (K : Int) = ((xs.length / K : Nat) : Int)) := by show _ = _; simp
  go_enter Tryd.func28, Tryd.ntmps28
  go_wp2_with fail
  refine (check_ok K R _ xs _ h.out hr.out).mono ?_
  rintro e w1 ⟨x, rfl, hb, rfl⟩
  obtain ⟨z0, z1, z2, f0, f1, f2⟩ := cells3 hb
  have hx := h.out.below hb
  have hsz : w.heap.size < w1.heap.size := World.block_lt_of_cell? _ _ z0
  replace hx := Lib.hid hx
  have hK0 : ((K : Int) == 0) = false := by rw [beq_eq_false_iff_ne]; omega
  have hK1 : ¬ (K : Int) = 0 := by omega
  have hK2 : (0 : Int) < K := by omega
  have hK3 : ¬ K = 0 := by omega
  have hdc2 : Hid (((xs.length : Int) / (K : Int)).toNat = xs.length / K) := by show _ = _; rw [hdc.out, Int.toNat_natCast]
  have hW1 : 1 ≤ (xs.length : Int) / (K : Int) := by
    rw [hdc.out, hhf.out.1]; omega
  have hd1 : Hid (∃ q, xs.length = q * (((xs.length : Int) / (K : Int)).toNat * K)) := ⟨1, by rw [hdc.out, Int.toNat_natCast, hhf.out.1, Nat.one_mul]; exact hhf.out.2⟩
  have hd2 : Hid (∃ q, xs.length = q * ((1 : Int).toNat * K)) := ⟨pw K (2 * R), by simpa using hhf.out.2⟩
  go_wp2
  go_region_held3 (fun w' => w'.cell? ⟨w.heap.size, 0, none⟩ = some (.int .i64 K) ∧ w'.cell? ⟨w.heap.size, 1, none⟩ = some (.int .i64 R) ∧ w'.cell? ⟨w.heap.size, 2, none⟩ = some (.slice va vn vc)) (go_keep)
    (first | (go_at_call 69; refine (unlikeI K R va vn vc xs _ _ (by first | exact hW1 | decide) (by first | exact hd1.out | exact hd2.out) (by first | exact hx.out.drew | exact hx.out.drew.below hb') hr.out).mono ?_; rintro e w2 ⟨x2, rfl, hb', rfl⟩; have S := keep3 hb' (by first | exact S | exact ⟨z0, z1, z2⟩); have y0 := S.1; have y1 := S.2.1; have y2 := S.2.2; have bb : Below w1.heap.size w1 w2 := (by first | exact bb.trans (hb'.mono bb.size) | exact ((Below.refl _ _).drew).trans hb')))
  go_wp2
  go_ret3
  exact ⟨_, _, _, rfl, Below.step hb0 (Below.step hb bb), (by rw [← hdc2.out]; rfl), rfl, rfl⟩
end Go.Proofs.YtmddapkhipmlgaaDoor

namespace Go.Proofs.YtmddapkhipmlgaaDoor
open Go.RowKit
set_option maxRecDepth 100000

theorem perm_check1 (x k : Int) (b : Nat) (w : World) (hb : w.cell? ⟨b, 0, none⟩ = some (.int .i64 k)) :
    Calls Tryd.prog 100 #[.int .i64 x, .pointer (some ⟨b, 0, none⟩)] w fun e w' => e = .returned (.bool (odd1 k x)) ∧ w = w' := by
  by_cases h : x < 0
  · have e : odd1 k x = true := by simp [odd1, h]
    rw [e]
    go_enter Tryd.func100, Tryd.ntmps100
    go_wp2
    go_ret
    exact ⟨rfl, rfl⟩
  · have e : odd1 k x = decide (k ≤ x) := by simp [odd1, h]
    rw [e]
    go_enter Tryd.func100, Tryd.ntmps100
    go_wp2
    go_ret
    exact ⟨ret_bool (by simp), rfl⟩
theorem eg_perm_check1 (args : Array Value) (w : World) : (callFunc 100 args).run Tryd.prog w = .ok (.enter 100 args) w := by kernel_rfl

theorem catN_two (vs : Nat → List Int) : catN vs 2 = vs 0 ++ vs 1 := by simp [catN, List.range, List.range.loop]

theorem concat2 (u v : Value) (xs ys : List Int) (w : World) (hu : IntsAt w u xs) (hv : IntsAt w v ys) (hx : xs.length ≤ 8192) (hy : ys.length ≤ 8192) (b : Nat) (hb : b = w.heap.size) :
    Calls Tryd.prog 99 #[.slice (some ⟨b, 0, none⟩) 2 2] (w.alloc (.cells #[u, v] 22)) (Ret1 (fun x w' => OwnI (w.heap.size + 1) w' x (xs ++ ys)) (w.alloc (.cells #[u, v] 22))) := by
  subst hb
  have hv2 : ValsAt (w.alloc (.cells #[u, v] 22)) (.slice (some ⟨w.heap.size, 0, none⟩) 2 2) [u, v] :=
    OwnV.at (E := 22) (B := 0) (World.ownsRow_lit (base := 0) (e := 22) (size := 1) w #[u, v] 2 (Nat.zero_le _) (by decide) rfl)
  have := concat_any _ _ (fun t => if t = 0 then xs else ys) _ hv2 (by
    intro t ht
    have : t = 0 ∨ t = 1 := by simp at ht; omega
    rcases this with rfl | rfl
    · exact hu.below (belowAlloc w _)
    · exact hv.below (belowAlloc w _)) (by simp) (by intro t _; split <;> assumption)
  rw [show [u, v].length = 2 from rfl, catN_two] at this
  simpa using this

theorem perm_fits (K R : Nat) (va : Option Addr) (vn vc : Nat) (xs : List Int) (rest W : Nat) (image : Int) (w : World) (h : IntsAt w (.slice va vn vc) xs) (hr : RuleOk K R xs) (hin : rest + (K - 1) * W < xs.length) :
    Calls Tryd.prog 57 #[.agg #[.int .i64 K, .int .i64 R, .slice va vn vc], .int .i64 rest, .int .i64 W, .int .i64 image] w fun e w' => e = .returned (.int .i64 (fit K xs rest W image)) ∧ w' = w.alloc (.cells #[.int .i64 K, .int .i64 R, .slice va vn vc] 24) := by
  have hb0 := belowAlloc w (.cells #[.int .i64 K, .int .i64 R, .slice va vn vc] 24)
  have hlen := hr.len_le
  have hk1 := hr.k1
  have hk4 := hr.k4
  replace h := Lib.hid (h.below hb0)
  go_enter Tryd.func57, Tryd.ntmps57
  go_wp2
  go_loop [12] (fun i => ∃ s : Nat, s ≤ K ∧ i = .int .i64 s ∧ fit K xs rest W image = fitP xs rest W image (K - s) s) (fun i => K - (intOf i).toNat)
  case atStart => exact ⟨0, by omega, rfl, rfl⟩
  case round =>
    obtain ⟨s, hs, rfl, hf⟩ := hrel
    by_cases hsl : s < K
    · have hsW : s * W ≤ (K - 1) * W := Nat.mul_le_mul_right _ (by omega)
      have hj : rest + s * W < xs.length := by omega
      have i1 : ∀ w', (Instr.indexAt 22 (.slice va vn vc) (.int .i64 ((rest : Int) + (s : Int) * (W : Int)))).run Tryd.prog w' = .ok (.pointer (some (valAt (.slice va vn vc) (rest + s * W)))) w' := by
        intro w'
        have := h.out.idx (rest + s * W) hj w'
        rwa [Int.natCast_add, Int.natCast_mul] at this
      have c1 := h.out.cellD (rest + s * W) hj
      have hsw0 : 0 ≤ (s : Int) * (W : Int) := Int.mul_nonneg (by omega) (by omega)
      have hsw1 : (s : Int) * (W : Int) ≤ 16384 := by
        have : s * W ≤ 16384 := by omega
        exact_mod_cast this
      have e : K - s = (K - (s + 1)) + 1 := by omega
      rw [e, fitP] at hf
      by_cases hq : xs.getD (rest + s * W) 0 = image
      · have hq2 : (xs.getD (rest + s * W) 0 == image) = true := by rw [beq_iff_eq]; exact hq
        rw [if_pos hq] at hf
        replace hf := Lib.hid hf
        clear hq
        generalize xs.getD (rest + s * W) 0 = y at hq2 c1
        go_wp2
        go_ret
        exact ⟨by rw [hf.out]; rfl, rfl⟩
      · have hq2 : (xs.getD (rest + s * W) 0 == image) = false := by rw [beq_eq_false_iff_ne]; exact hq
        rw [if_neg hq] at hf
        replace hf := Lib.hid hf
        clear hq
        generalize xs.getD (rest + s * W) 0 = y at hq2 c1
        go_wp2
        go_round
        case rel => exact ⟨s + 1, by omega, by go_num, hf.out⟩
        case measure => simp [intOf]; omega
    · obtain rfl : K = s := by omega
      rw [Nat.sub_self] at hf
      replace hf := Lib.hid hf
      go_wp2
      go_ret
      exact ⟨by rw [hf.out]; rfl, rfl⟩

set_option maxHeartbeats 1000000 in
theorem perm_check (r : Nat → Addr) (K R : Nat) (va : Option Addr) (vn vc : Nat) (u v : Value) (xs ys : List Int) (w : World) (hg : Glob r w) (hu : IntsAt w u xs) (hv : IntsAt w v ys) (hR : R ≤ 3) :
    Calls Tryd.prog 55 #[.agg #[.int .i64 K, .int .i64 R, .slice va vn vc], u, v] w (Ret1 (fun x w' => ErrIs r w' (checkM K R xs ys) x) w) := by
  have hb0 := belowAlloc w (.cells #[.int .i64 K, .int .i64 R, .slice va vn vc] 24)
  have l1 := hu.len
  have l2 := hv.len
  obtain ⟨a1, n1, c1, rfl⟩ := hu.shape
  obtain ⟨a2, n2, c2, rfl⟩ := hv.shape
  replace hg := Lib.hid (hg.below hb0)
  replace hu := Lib.hid (hu.below hb0)
  replace hv := Lib.hid (hv.below hb0)
  by_cases h1 : 4096 < xs.length
  · rw [checkM, if_pos h1]
    go_enter Tryd.func55, Tryd.ntmps55
    go_wp2_with fail
    refine (perm_wrong r _ _ _ hg.out (by decide) (by decide)).mono ?_
    rintro e w2 ⟨x, rfl, hb', he⟩
    go_wp2
    go_ret
    exact ⟨_, rfl, Below.step hb0 hb', he⟩
  by_cases h2 : ys.length ≠ 2 * R
  · rw [checkM, if_neg h1, if_pos h2]
    have hne : ((ys.length : Int) != 2 * (R : Int)) = true := by rw [bne_iff_ne]; omega
    clear h2
    go_enter Tryd.func55, Tryd.ntmps55
    go_wp2_with fail
    refine (perm_wrong r _ _ _ hg.out (by decide) (by decide)).mono ?_
    rintro e w2 ⟨x, rfl, hb', he⟩
    go_wp2
    go_ret
    exact ⟨_, rfl, Below.step hb0 hb', he⟩
  have hne : ((ys.length : Int) != 2 * (R : Int)) = false := by rw [bne_eq_false_iff_eq]; omega
  rw [checkM, if_neg h1, if_neg h2]
  have hy : ys.length ≤ 6 := by omega
  clear h2
  rcases idxOf_cases (odd1 K) (xs ++ ys) with ⟨hi, _⟩ | ⟨i, hi, hi', _⟩
  · rw [if_pos hi]
    replace hi := Lib.hid hi
    go_enter Tryd.func55, Tryd.ntmps55
    go_wp2_with fail
    refine (concat2 _ _ xs ys _ hu.out hv.out (by omega) (by omega) _ (by simp)).mono ?_
    rintro e w1 ⟨x, rfl, hb1, ho⟩
    have hb2 := Below.step hb0 (Below.step (belowAlloc _ _) hb1)
    have z0 : w1.cell? ⟨w.heap.size, 0, none⟩ = some (.int .i64 K) := by rw [hb1.cell (by simp; omega)]; simp
    replace ho := Lib.hid ho
    go_wp2_with fail
    refine (indexFunc_any x _ 100 (xs ++ ys) (odd1 K) _ ho.out.at eg_perm_check1 (fun x _ => perm_check1 x K _ _ z0)).mono ?_
    rintro e w' ⟨rfl, rfl⟩
    rw [hi.out]
    go_wp2
    go_ret
    exact ⟨_, rfl, hb2, rfl⟩
  · rw [if_neg (by omega), hi]
    replace hi := Lib.hid hi
    go_enter Tryd.func55, Tryd.ntmps55
    go_wp2_with fail
    refine (concat2 _ _ xs ys _ hu.out hv.out (by omega) (by omega) _ (by simp)).mono ?_
    rintro e w1 ⟨x, rfl, hb1, ho⟩
    have hb2 := Below.step hb0 (Below.step (belowAlloc _ _) hb1)
    have hb3 := Below.step (belowAlloc _ _) hb1
    have z0 : w1.cell? ⟨w.heap.size, 0, none⟩ = some (.int .i64 K) := by rw [hb1.cell (by simp; omega)]; simp
    replace ho := Lib.hid ho
    go_wp2_with fail
    refine (indexFunc_any x _ 100 (xs ++ ys) (odd1 K) _ ho.out.at eg_perm_check1 (fun x _ => perm_check1 x K _ _ z0)).mono ?_
    rintro e w' ⟨rfl, rfl⟩
    rw [hi.out]
    go_wp2_with fail
    refine (perm_wrong r _ _ _ (hg.out.below hb3) (by decide) (by decide)).mono ?_
    rintro e w2 ⟨x, rfl, hb', he⟩
    go_wp2
    go_ret
    exact ⟨_, rfl, Below.step hb2 hb', he⟩
end Go.Proofs.YtmddapkhipmlgaaDoor

namespace Go.Proofs.YtmddapkhipmlgaaDoor
open Go.RowKit
set_option maxRecDepth 100000

theorem right_bad1 (r : Nat → Addr) (k R : Int) (va : Option Addr) (vn vc : Nat) (xs : List Int) (u v : Value) (t : Int × List (ByteArray × Int)) (w : World) (hg : Glob r w) (h : IntsAt w (.slice va vn vc) xs) (hc : checkP k R xs = some t) :
    Calls Tryd.prog 21 #[.agg #[.int .i64 k, .int .i64 R, .slice va vn vc], u, v] w (Ret2 (fun x y w' => x = .slice none 0 0 ∧ ErrIs r w' (under sPermut 0 (some t)) y) w) := by
  have hb0 := belowAlloc w (.cells #[.int .i64 k, .int .i64 R, .slice va vn vc] 24)
  replace hg := Lib.hid (hg.below hb0)
  replace h := Lib.hid (h.below hb0)
  replace hc := Lib.hid hc
  go_enter Tryd.func21, Tryd.ntmps21
  go_wp2_with fail
  refine (sides_bad r k R va vn vc xs t _ hg.out h.out hc.out).mono ?_
  rintro e w1 ⟨x, y, z, rfl, hb, rfl, rfl, he⟩
  have he' := Lib.hid he
  obtain ⟨T, p, rfl⟩ := he.some_shape
  clear he
  go_wp2
  go_ret2
  exact ⟨_, _, rfl, Below.step hb0 hb, rfl, he'.out⟩

theorem right_bad2 (r : Nat → Addr) (K R : Nat) (va : Option Addr) (vn vc : Nat) (xs : List Int) (u v : Value) (w : World) (hg : Glob r w) (h : IntsAt w (.slice va vn vc) xs) (hr : RuleOk K R xs) (hu : unlikeP K xs 1 = false) :
    Calls Tryd.prog 21 #[.agg #[.int .i64 K, .int .i64 R, .slice va vn vc], u, v] w (Ret2 (fun x y w' => x = .slice none 0 0 ∧ ErrIs r w' (fresh sPermut 0 3) y) w) := by
  have hb0 := belowAlloc w (.cells #[.int .i64 K, .int .i64 R, .slice va vn vc] 24)
  replace hg := Lib.hid (hg.below hb0)
  replace h := Lib.hid (h.below hb0)
  replace hr := Lib.hid hr
  replace hu := Lib.hid hu
  go_enter Tryd.func21, Tryd.ntmps21
  go_wp2_with fail
  refine (sides_ok K R va vn vc xs _ h.out hr.out).mono ?_
  rintro e w1 ⟨x, y, z, rfl, hb, rfl, rfl, rfl⟩
  rw [hu.out]
  generalize unlikeP K xs (xs.length / K) = q
  go_wp2_with fail
  refine (perm_wrong r _ _ _ (hg.out.below hb) (by decide) (by decide)).mono ?_
  rintro e w2 ⟨x, rfl, hb', he⟩
  go_wp2
  go_ret2
  exact ⟨_, _, rfl, Below.step hb0 (Below.step hb hb'), rfl, he⟩

theorem right_bad3 (r : Nat → Addr) (K R : Nat) (va : Option Addr) (vn vc : Nat) (xs : List Int) (u v : Value) (ys zs : List Int) (t : Int × List (ByteArray × Int)) (w : World) (hg : Glob r w) (h : IntsAt w (.slice va vn vc) xs) (hr : RuleOk K R xs) (hp : unlikeP K xs 1 = true)
    (hu : IntsAt w u ys) (hv : IntsAt w v zs) (hc : checkM K R ys zs = some t) :
    Calls Tryd.prog 21 #[.agg #[.int .i64 K, .int .i64 R, .slice va vn vc], u, v] w (Ret2 (fun x y w' => x = .slice none 0 0 ∧ ErrIs r w' (some t) y) w) := by
  have hb0 := belowAlloc w (.cells #[.int .i64 K, .int .i64 R, .slice va vn vc] 24)
  have hR := hr.r3
  replace hg := Lib.hid (hg.below hb0)
  replace h := Lib.hid (h.below hb0)
  replace hr := Lib.hid hr
  replace hp := Lib.hid hp
  replace hc := Lib.hid hc
  replace hu := Lib.hid (hu.below hb0)
  replace hv := Lib.hid (hv.below hb0)
  go_enter Tryd.func21, Tryd.ntmps21
  go_wp2_with fail
  refine (sides_ok K R va vn vc xs _ h.out hr.out).mono ?_
  rintro e w1 ⟨x, y, z, rfl, hb, rfl, rfl, rfl⟩
  rw [hp.out]
  obtain ⟨z0, z1, z2, f0, f1, f2⟩ := cells3 hb
  generalize unlikeP K xs (xs.length / K) = q
  go_wp2_with fail
  refine (perm_check r K R va vn vc u v ys zs _ (hg.out.below hb) (hu.out.below hb) (hv.out.below hb) hR).mono ?_
  rintro e w2 ⟨x, rfl, hb', he⟩
  rw [hc.out] at he
  have he' := Lib.hid he
  obtain ⟨T, p, rfl⟩ := he.some_shape
  clear he
  go_wp2
  go_ret2
  exact ⟨_, _, rfl, Below.step hb0 (Below.step hb hb'), rfl, he'.out⟩

theorem wpl_append1b {w : World} {ops : Array Oper} {rest : List Oper} {o : Oper} {a : Act} {Q : Exit → Act → World → Prop} (hgd : o.guard = none) (s x : Operand)
    (ho : o.op = .call { callee := .builtin .append, args := #[s, x], argTypes := #[22, 22] })
    (B : Nat) (v : Value) (xs : List Int) (y : Int) (hown : OwnI B w v xs) (hs : a.eval s = v) (b : Nat) (hx : a.eval x = .slice (some ⟨b, 0, none⟩) 1 1) (hb : b = w.heap.size)
    (hlen : xs.length < 17592186044415) (hB : B ≤ w.heap.size)
    (h : ∀ v' w', OwnI B w' v' (xs ++ [y]) → Below B w w' → w.grownBy w' v.ownBlock → (v'.ownBlock = v.ownBlock ∨ ∃ k, v'.ownBlock = some k ∧ w.heap.size ≤ k) → wpList Tryd.prog ops Q rest (a.put o.dst v') w') :
    wpList Tryd.prog ops Q (o :: rest) a (w.alloc (.cells #[.int .i64 y] 3)) := by
  subst hb
  exact wpl_append1 hgd s x ho B v xs y hown hs hx hlen hB h

set_option maxHeartbeats 2000000 in
theorem right_ok (r : Nat → Addr) (K R : Nat) (va : Option Addr) (vn vc : Nat) (xs : List Int) (u v : Value) (ys zs : List Int) (w : World) (hg : Glob r w) (h : IntsAt w (.slice va vn vc) xs) (hr : RuleOk K R xs) (hp : unlikeP K xs 1 = true)
    (hu : IntsAt w u ys) (hv : IntsAt w v zs) (hc : checkM K R ys zs = none) :
    Calls Tryd.prog 21 #[.agg #[.int .i64 K, .int .i64 R, .slice va vn vc], u, v] w (Ret2 (fun x y w' => OwnI w.heap.size w' x (zs ++ rightP K xs (numW K zs) ys) ∧ y = .nilIface) w) := by
  have hb0 := belowAlloc w (.cells #[.int .i64 K, .int .i64 R, .slice va vn vc] 24)
  have hR := hr.r3
  have hk1 := hr.k1
  have hk4 := hr.k4
  have hlen := hr.len_le
  have hhf := hr.half
  obtain ⟨hy4, hzl, hys, hzs⟩ := checkM_none hc
  have l1 := hu.len
  have l2 := hv.len
  replace hg := Lib.hid (hg.below hb0)
  replace h := Lib.hid (h.below hb0)
  replace hr := Lib.hid hr
  replace hhf := Lib.hid hhf
  replace hp := Lib.hid hp
  replace hc := Lib.hid hc
  have hz6 : zs.length ≤ 6 := by omega
  replace hzl := Lib.hid hzl
  replace hys := Lib.hid hys
  replace hzs := Lib.hid hzs
  obtain ⟨a1, n1, c1, rfl⟩ := hu.shape
  obtain ⟨a2, n2, c2, rfl⟩ := hv.shape
  replace hu := Lib.hid (hu.below hb0)
  replace hv := Lib.hid (hv.below hb0)
  go_enter Tryd.func21, Tryd.ntmps21
  go_wp2_with fail
  refine (sides_ok K R va vn vc xs _ h.out hr.out).mono ?_
  rintro e w1 ⟨x, y, z, rfl, hb, rfl, rfl, rfl⟩
  rw [hp.out]
  obtain ⟨z0, z1, z2, f0, f1, f2⟩ := cells3 hb
  generalize unlikeP K xs (xs.length / K) = q
  go_wp2_with fail
  refine (perm_check r K R va vn vc _ _ ys zs _ (hg.out.below hb) (hu.out.below hb) (hv.out.below hb) hR).mono ?_
  rintro e w2 ⟨x, rfl, hb', he⟩
  rw [hc.out] at he
  obtain rfl := he.none_eq
  clear he z0 z1 z2 f0 f1 f2
  replace hb := Below.step hb hb'
  clear hb'
  obtain ⟨z0, z1, z2, f0, f1, f2⟩ := cells3 hb
  go_wp2_with fail
  refine (clone_any _ zs _ (hv.out.below hb) (by omega)).mono ?_
  rintro e w3 ⟨x, rfl, hb', ho⟩
  have hsz : w.heap.size < w2.heap.size := World.block_lt_of_cell? _ _ z0
  have hvi := Lib.hid ((hv.out.below hb).below hb')
  have hui := Lib.hid (hu.out.below hb)
  have zz := Lib.hid (And.intro z0 (And.intro z1 z2))
  clear z0 z1 z2 f0 f1 f2
  obtain ⟨z0, z1, z2⟩ := keep3 hb' zz.out
  replace ho := Lib.hid ho
  go_wp2
  go_loop [13, 42] (fun n i => ∃ j : Nat, j ≤ zs.length ∧ i = .int .i64 j ∧ n = .int .i64 (numW K (zs.take j))) (fun _ i => zs.length - (intOf i).toNat)
  case atStart => exact ⟨0, by omega, rfl, rfl⟩
  case round =>
    obtain ⟨j, hj, rfl, rfl⟩ := hrel
    by_cases hjl : j < zs.length
    · have i1 := hvi.out.idx j hjl
      have c1 := hvi.out.cell j hjl
      have hx := hzs.out zs[j] (by simp)
      have hn : Hid (numW K (zs.take (j + 1)) = numW K (zs.take j) * K + zs[j].toNat) := by
        show _ = _
        rw [take_snoc zs j hjl, numW_snoc]
      have hn2 : numW K (zs.take j) ≤ 16384 := by
        have h1 := numW_lt (zs.take j) (fun x hx => hzs.out x (List.mem_of_mem_take hx))
        have h2 := pw_le hk1 hk4 (i := (zs.take j).length) (by simp; omega)
        omega
      generalize zs[j] = x at c1 hx hn
      generalize numW K (zs.take j) = N at hn hn2
      have hm1 : 0 ≤ (N : Int) * (K : Int) := Int.mul_nonneg (by omega) (by omega)
      have hm2 : (N : Int) * (K : Int) ≤ 65536 := by
        have : N * K ≤ 65536 := Nat.mul_le_mul hn2 hk4
        have h2 := Int.ofNat_le.2 this
        rw [Int.natCast_mul] at h2
        exact h2
      go_wp2
      go_round
      case rel => exact ⟨j + 1, by omega, by go_num, by rw [hn.out]; go_num⟩
      case measure => simp [intOf]; omega
    · obtain rfl : j = zs.length := by omega
      rw [List.take_length]
      have hN : numW K zs < xs.length / K := by
        rw [hhf.out.1, ← hzl.out]; exact numW_lt zs hzs.out
      have hlK : xs.length / K ≤ 16384 := Nat.le_trans (Nat.div_le_self _ _) hlen
      have hlKK : xs.length / K * K = xs.length := by rw [hhf.out.1]; exact hhf.out.2.symm
      have hlx := h.out.len
      have hK0 : ((K : Int) == 0) = false := by rw [beq_eq_false_iff_ne]; omega
      have hK1 : ¬ (K : Int) = 0 := by omega
      have hK2 : (0 : Int) < K := by omega
      have hK3 : ¬ K = 0 := by omega
      generalize hN0 : numW K zs = N at hN
      replace hN0 := Lib.hid hN0
      have hq0 : 0 ≤ (xs.length : Int) / (K : Int) := Int.ediv_nonneg (by omega) (by omega)
      have hqc : (xs.length : Int) / (K : Int) = ((xs.length / K : Nat) : Int) := by simp
      have hq1 : (xs.length : Int) / (K : Int) ≤ 16384 := by rw [hqc]; omega
      have hq2 : 0 < (xs.length : Int) / (K : Int) := by rw [hqc]; omega
      have hq3 : ((xs.length : Int) / (K : Int) == 0) = false := by rw [beq_eq_false_iff_ne]; omega
      replace hqc := Lib.hid hqc
      have hul := hui.out.len
      replace hN := Lib.hid hN
      have hlK0 := Lib.hid hlK
      replace hlKK := Lib.hid hlKK
      clear z0 z1 z2 hlK
      go_wp2
      go_loopw [12, 13, 55] (fun o n i wr => ∃ j : Nat, j ≤ ys.length ∧ i = .int .i64 j ∧ n = .int .i64 (rightN K xs N (ys.take j)) ∧ OwnI w2.heap.size wr o (zs ++ rightP K xs N (ys.take j)) ∧ Below w2.heap.size w2 wr) (fun _ _ i _ => ys.length - (intOf i).toNat)
      case atStart => exact ⟨0, by omega, rfl, rfl, by simpa [rightP] using ho.out, hb'⟩
      case round =>
        obtain ⟨j, hj, rfl, rfl, hO, hbO⟩ := hrel
        obtain ⟨wo, rfl⟩ : ∃ wo : World, wo = wr := ⟨_, rfl⟩
        by_cases hjl : j < ys.length
        · have hyi := hui.out.below hbO
          have i1 := hyi.idx j hjl
          have c1 := hyi.cell j hjl
          obtain ⟨z0, z1, z2⟩ := keep3 hbO zz.out
          have hN' : rightN K xs N (ys.take j) < xs.length / K := rightN_lt (by have := hN.out; omega) N hN.out _
          have hP : Hid (zs ++ rightP K xs N (ys.take (j + 1)) = (zs ++ rightP K xs N (ys.take j)) ++ [(fit K xs (rightN K xs N (ys.take j) * K) 1 ys[j] : Int)]) := by
            show _ = _
            rw [take_snoc ys j hjl, rightP_snoc, List.append_assoc]
          have hN2 : Hid (rightN K xs N (ys.take (j + 1)) = (rightN K xs N (ys.take j) * K + fit K xs (rightN K xs N (ys.take j) * K) 1 ys[j]) % (xs.length / K)) := by
            show _ = _
            rw [take_snoc ys j hjl, rightN_snoc]
          have hPl : (zs ++ rightP K xs N (ys.take j)).length ≤ 5000 := by simp [rightP_length]; omega
          generalize ys[j] = x at c1 hP hN2
          have hfl := fit_lt hk1 xs (rightN K xs N (ys.take j) * K) 1 x
          generalize rightN K xs N (ys.take j) = M at hN' hP hN2 hfl
          have hin : M * K + (K - 1) * 1 < xs.length := by
            have h1 : (M + 1) * K ≤ xs.length / K * K := Nat.mul_le_mul_right _ hN'
            rw [hlKK.out, Nat.succ_mul] at h1
            omega
          have hM1 : M ≤ 16384 := by have := hlK0.out; omega
          have hm1 : 0 ≤ (M : Int) * (K : Int) := Int.mul_nonneg (by omega) (by omega)
          have hm2 : (M : Int) * (K : Int) ≤ 65536 := by
            have : M * K ≤ 65536 := Nat.mul_le_mul hM1 hk4
            have h2 := Int.ofNat_le.2 this
            rw [Int.natCast_mul] at h2
            exact h2
          have hf := perm_fits K R va vn vc xs (M * K) 1 x wo ((h.out.below hb).below hbO) hr.out hin
          rw [Int.natCast_mul] at hf
          generalize fit K xs (M * K) 1 x = s at hP hN2 hfl hf
          have hmod : Hid (((M : Int) * (K : Int) + (s : Int)) % ((xs.length : Int) / (K : Int)) = (((M * K + s) % (xs.length / K) : Nat) : Int)) := by show _ = _; simp
          replace hN' := Lib.hid hN'
          replace hO := Lib.hid hO
          replace hf := Lib.hid hf
          replace hin := Lib.hid hin
          generalize zs ++ rightP K xs N (ys.take j) = O at hO hPl hP
          go_wp2_with fail
          refine hf.out.mono ?_
          rintro e w' ⟨rfl, rfl⟩
          go_wp2_with (at_builtin; refine wpl_append1b rfl _ _ rfl w2.heap.size _ O (s : Int) (hO.out.alloc _) rfl _ rfl (by simp) (by omega) (by have := hbO.size; simp; omega) ?_)
          intro nv w4 hO4 hb4 _ _
          have hbT : Below w2.heap.size w2 w4 := (hbO.alloc hbO.size _).trans hb4
          clear z0 z1 z2
          obtain ⟨z0, z1, z2⟩ := keep3 hbT zz.out
          replace hO4 := Lib.hid hO4
          go_wp2
          go_quiet (fail)
          go_wp2
          go_roundw
          case rel =>
            refine ⟨j + 1, by omega, by go_num, ?_, by rw [hP.out]; exact hO4.out, below_drewN hbT _⟩
            rw [hN2.out, ← hmod.out]
          case measure => simp [intOf]; omega
        · obtain rfl : j = ys.length := by omega
          go_wp2
          go_ret2
          rw [List.take_length] at hO
          exact ⟨_, _, rfl, Below.step hb0 (Below.step hb hbO), (by rw [hN0.out]; exact hO.mono (by omega)), rfl⟩

/-- permut.Right at all operands. -/
theorem right_any (r : Nat → Addr) (k R : Int) (va : Option Addr) (vn vc : Nat) (xs : List Int) (u v : Value) (ys zs : List Int) (w : World) (hg : Glob r w) (h : IntsAt w (.slice va vn vc) xs) (hu : IntsAt w u ys) (hv : IntsAt w v zs) :
    Calls Tryd.prog 21 #[.agg #[.int .i64 k, .int .i64 R, .slice va vn vc], u, v] w (Ret2 (fun x y w' => ErrIs r w' (permF k R xs 1 ys zs) y ∧ (permF k R xs 1 ys zs = none → OwnI w.heap.size w' x (zs ++ rightP k.toNat xs (numW k.toNat zs) ys)) ∧ (permF k R xs 1 ys zs ≠ none → x = .slice none 0 0)) w) := by
  cases hc : checkP k R xs with
  | some t =>
    have e : permF k R xs 1 ys zs = under sPermut 0 (some t) := by simp [permF, hc]
    refine (right_bad1 r k R va vn vc xs u v t w hg h hc).mono ?_
    rintro e1 w' ⟨x, y, he, hb, hx, hy⟩
    exact ⟨x, y, he, hb, by rw [e]; exact hy, (fun h => by rw [e] at h; cases h), fun _ => hx⟩
  | none =>
    obtain ⟨K, R, rfl, rfl, hr⟩ := checkP_none hc
    cases hp : unlikeP K xs 1 with
    | false =>
      have e : permF K R xs 1 ys zs = fresh sPermut 0 3 := by simp [permF, hc, hp]
      refine (right_bad2 r K R va vn vc xs u v w hg h hr hp).mono ?_
      rintro e1 w' ⟨x, y, he, hb, hx, hy⟩
      exact ⟨x, y, he, hb, by rw [e]; exact hy, (fun h => by rw [e] at h; cases h), fun _ => hx⟩
    | true =>
      have e : permF K R xs 1 ys zs = checkM K R ys zs := by simp [permF, hc, hp]
      cases hm : checkM K R ys zs with
      | some t =>
        rw [hm] at e
        refine (right_bad3 r K R va vn vc xs u v ys zs t w hg h hr hp hu hv hm).mono ?_
        rintro e1 w' ⟨x, y, he, hb, hx, hy⟩
        exact ⟨x, y, he, hb, by rw [e]; exact hy, (fun h => by rw [e] at h; cases h), fun _ => hx⟩
      | none =>
        rw [hm] at e
        refine (right_ok r K R va vn vc xs u v ys zs w hg h hr hp hu hv hm).mono ?_
        rintro e1 w' ⟨x, y, he, hb, hx, hy⟩
        exact ⟨x, y, he, hb, by rw [e]; exact hy, fun _ => by rw [Int.toNat_natCast]; exact hx, fun h => absurd e h⟩
end Go.Proofs.YtmddapkhipmlgaaDoor

namespace Go.Proofs.YtmddapkhipmlgaaDoor
open Go.RowKit
set_option maxRecDepth 100000

set_option maxHeartbeats 800000 in
theorem step_ok (K R : Nat) (va : Option Addr) (vn vc : Nat) (T : List Int) (u : Value) (ys : List Int) (w : World) (h : IntsAt w (.slice va vn vc) T) (hr : RuleOk K R T) (hu : IntsAt w u ys) (hy : Syms K ys) (hyl : ys.length ≤ 4096) :
    Calls Tryd.prog 26 #[.agg #[.int .i64 K, .int .i64 R, .slice va vn vc], u] w (Ret2 (fun x y w' => OwnI w.heap.size w' x (imgP K R T ys) ∧ y = .nilIface) w) := by
  have hb0 := belowAlloc w (.cells #[.int .i64 K, .int .i64 R, .slice va vn vc] 24)
  have hR := hr.r3
  have hk1 := hr.k1
  have hk4 := hr.k4
  have hlen := hr.len_le
  have hlp := hr.len_pos
  have hlT := Lib.hid hr.len
  have l1 := hu.len
  have lT := h.len
  have hodd := Lib.hid hy.odd
  replace h := Lib.hid (h.below hb0)
  replace hu := Lib.hid (hu.below hb0)
  replace hr := Lib.hid hr
  replace hy := Lib.hid hy
  obtain ⟨ua, un, uc, rfl⟩ := hu.out.shape
  have hL0 : ((T.length : Int) == 0) = false := by rw [beq_eq_false_iff_ne]; omega
  have hL1 : ¬ (T.length : Int) = 0 := by omega
  have hL2 : (0 : Int) < T.length := by omega
  go_enter Tryd.func26, Tryd.ntmps26
  go_wp2_with fail
  refine (check_ok K R _ T _ h.out hr.out).mono ?_
  rintro e w1 ⟨x, rfl, hb, rfl⟩
  obtain ⟨z0, z1, z2, -, -, -⟩ := cells3 hb
  go_wp2_with fail
  refine (rule_odd K _ ys _ (hu.out.below hb)).mono ?_
  rintro e w2 ⟨x, rfl, hb', rfl⟩
  rw [hodd.out]
  have zz := Lib.hid (And.intro z0 (And.intro z1 z2))
  clear z0 z1 z2
  have hb2 := Below.step hb hb'
  obtain ⟨z0, z1, z2⟩ := keep3 hb' zz.out
  have zz2 := Lib.hid (And.intro z0 (And.intro z1 z2))
  clear z0 z1 z2
  have hsz : w.heap.size < w2.heap.size := World.block_lt_of_cell? _ _ zz2.out.1
  have hT2 := Lib.hid (h.out.below hb2)
  have hu2 := Lib.hid (hu.out.below hb2)
  go_wp2
  go_loopw [8, 9, 31] (fun o n i wr => ∃ j : Nat, j ≤ ys.length ∧ i = .int .i64 j ∧ n = .int .i64 (numW K (ys.take j) % T.length : Nat) ∧ OwnI w2.heap.size wr o (imgP K R T (ys.take j)) ∧ Below w2.heap.size w2 wr) (fun _ _ i _ => ys.length - (intOf i).toNat)
  case atStart => exact ⟨0, by omega, rfl, by simp [numW], by simpa [imgP] using OwnI.nil _ _, Below.refl _ _⟩
  case round =>
    obtain ⟨j, hj, rfl, rfl, hO, hbO⟩ := hrel
    obtain ⟨wo, rfl⟩ : ∃ wo : World, wo = wr := ⟨_, rfl⟩
    by_cases hjl : j < ys.length
    · have hyi := hu2.out.below hbO
      have i1 := hyi.idx j hjl
      have c1 := hyi.cell j hjl
      have hx := hy.out ys[j] (by simp)
      obtain ⟨z0, z1, z2⟩ := keep3 hbO zz2.out
      have hst : Hid (numW K (ys.take (j + 1)) % T.length = (numW K (ys.take j) % T.length * K + ys[j].toNat) % T.length) := by
        show _ = _
        rw [take_snoc ys j hjl]; exact numW_step ..
      have hsy : Syms K (ys.take j ++ [ys[j]]) := by
        intro y hy'; exact hy.out y (by rw [← take_snoc ys j hjl] at hy'; exact List.mem_of_mem_take hy')
      have him := imgP_snoc (T := T) (R := R) hlT.out hsy
      rw [← take_snoc ys j hjl, hst.out] at him
      have htl : (ys.take j).length = j := by simp; omega
      rw [htl] at him
      have hol : (imgP K R T (ys.take j)).length ≤ 5000 := by rw [imgP_length]; omega
      have hNl : numW K (ys.take j) % T.length < T.length := Nat.mod_lt _ (by omega)
      generalize ys[j] = x at c1 hx hst him
      replace him := Lib.hid him
      generalize numW K (ys.take j) % T.length = N at hst him hNl
      generalize imgP K R T (ys.take j) = O at hO hol him
      have hm1 : 0 ≤ (N : Int) * (K : Int) := Int.mul_nonneg (by omega) (by omega)
      have hm2 : (N : Int) * (K : Int) ≤ 65536 := by
        have : N * K ≤ 65536 := Nat.mul_le_mul (show N ≤ 16384 by omega) hk4
        have h2 := Int.ofNat_le.2 this
        rw [Int.natCast_mul] at h2
        exact h2
      obtain ⟨X, rfl⟩ := Int.eq_ofNat_of_zero_le hx.1
      rw [Int.toNat_natCast] at him hst
      have hcast : Hid ((((N * K + X) % T.length : Nat) : Int) = ((N : Int) * (K : Int) + (X : Int)) % (T.length : Int)) := by show _ = _; simp
      have hMl : (N * K + X) % T.length < T.length := Nat.mod_lt _ (by omega)
      have hTw := hT2.out.below hbO
      have i2 : ∀ w', (Instr.indexAt 22 (.slice va vn vc) (.int .i64 (((N : Int) * (K : Int) + (X : Int)) % (T.length : Int)))).run Tryd.prog w' = .ok (.pointer (some (valAt (.slice va vn vc) ((N * K + X) % T.length)))) w' := by
        intro w'
        rw [← hcast.out]
        exact hTw.idx _ hMl w'
      have c2 := hTw.cellD _ hMl
      replace hO := Lib.hid hO
      clear hyi hTw
      generalize T.getD ((N * K + X) % T.length) 0 = y at c2 him
      by_cases hge : 2 * R ≤ j
      · replace him := Lib.hid (him.out.trans (if_pos hge))
        go_wp2_with (at_builtin; refine wpl_append1 rfl _ _ rfl w2.heap.size _ O y hO.out rfl rfl (by omega) hbO.size ?_)
        intro nv w4 hO4 hb4 _ _
        have hbT := hbO.trans hb4
        replace hO4 := Lib.hid hO4
        go_wp2
        go_roundw
        case rel => exact ⟨j + 1, by omega, by go_num, by rw [hst.out, hcast.out], by rw [him.out]; exact hO4.out, hbT⟩
        case measure => simp [intOf]; omega
      · replace him := Lib.hid (him.out.trans (if_neg hge))
        go_wp2
        go_roundw
        case rel => exact ⟨j + 1, by omega, by go_num, by rw [hst.out, hcast.out], by rw [him.out]; exact hO.out, hbO⟩
        case measure => simp [intOf]; omega
    · obtain rfl : j = ys.length := by omega
      rw [List.take_length] at hO
      go_wp2
      go_ret2
      exact ⟨_, _, rfl, Below.step hb0 (Below.step hb2 hbO), hO.mono (by omega), rfl⟩
end Go.Proofs.YtmddapkhipmlgaaDoor

namespace Go.Proofs.YtmddapkhipmlgaaDoor
open Go.RowKit
set_option maxRecDepth 100000

theorem symbol_any (K R : Nat) (va : Option Addr) (vn vc : Nat) (T : List Int) (u : Value) (ys : List Int) (w : World) (h : IntsAt w (.slice va vn vc) T) (hr : RuleOk K R T) (hu : IntsAt w u ys) (hy : Syms K ys) (hyl : ys.length = 2 * R + 1) :
    Calls Tryd.prog 91 #[.agg #[.int .i64 K, .int .i64 R, .slice va vn vc], u] w (Ret1 (fun x _ => x = .int .i64 (T.getD (numW K ys) 0)) w) := by
  have hb0 := belowAlloc w (.cells #[.int .i64 K, .int .i64 R, .slice va vn vc] 24)
  have hR := hr.r3
  have hk1 := hr.k1
  have hk4 := hr.k4
  have l1 := hu.len
  have hb7 : ys.length ≤ 7 := by omega
  have hnl : numW K ys < T.length := by rw [hr.len, ← hyl]; exact numW_lt ys hy
  generalize hy0 : T.getD (numW K ys) 0 = y0
  replace hy0 := Lib.hid hy0
  replace hnl := Lib.hid hnl
  replace hyl := Lib.hid hyl
  replace h := Lib.hid (h.below hb0)
  replace hu := Lib.hid (hu.below hb0)
  replace hy := Lib.hid hy
  replace hr := Lib.hid hr
  obtain ⟨ua, un, uc, rfl⟩ := hu.out.shape
  go_enter Tryd.func91, Tryd.ntmps91
  go_wp2
  go_loop [5, 10] (fun n i => ∃ j : Nat, j ≤ ys.length ∧ i = .int .i64 j ∧ n = .int .i64 (numW K (ys.take j))) (fun _ i => ys.length - (intOf i).toNat)
  case atStart => exact ⟨0, by omega, rfl, rfl⟩
  case round =>
    obtain ⟨j, hj, rfl, rfl⟩ := hrel
    by_cases hjl : j < ys.length
    · have i1 := hu.out.idx j hjl
      have c1 := hu.out.cell j hjl
      have hx := hy.out ys[j] (by simp)
      have hn : Hid (numW K (ys.take (j + 1)) = numW K (ys.take j) * K + ys[j].toNat) := by
        show _ = _
        rw [take_snoc ys j hjl, numW_snoc]
      have hn2 : numW K (ys.take j) ≤ 16384 := by
        have h1 := numW_lt (ys.take j) (fun x hx => hy.out x (List.mem_of_mem_take hx))
        have h2 := pw_le hk1 hk4 (i := (ys.take j).length) (by simp; omega)
        omega
      generalize ys[j] = x at c1 hx hn
      generalize numW K (ys.take j) = N at hn hn2
      have hm1 : 0 ≤ (N : Int) * (K : Int) := Int.mul_nonneg (by omega) (by omega)
      have hm2 : (N : Int) * (K : Int) ≤ 65536 := by
        have : N * K ≤ 65536 := Nat.mul_le_mul hn2 hk4
        have h2 := Int.ofNat_le.2 this
        rw [Int.natCast_mul] at h2
        exact h2
      go_wp2
      go_round
      case rel => exact ⟨j + 1, by omega, by go_num, by rw [hn.out]; go_num⟩
      case measure => simp [intOf]; omega
    · obtain rfl : j = ys.length := by omega
      rw [List.take_length]
      have i2 := h.out.idx (numW K ys) hnl.out
      have c2 := h.out.cellD (numW K ys) hnl.out
      rw [hy0.out] at c2
      clear hy0 hnl
      generalize numW K ys = N at i2 c2
      go_wp2
      go_ret
      exact ⟨_, rfl, hb0, rfl⟩

theorem behind1_any (K R1 R2 : Nat) (va : Option Addr) (vn vc : Nat) (T1 : List Int) (ua : Option Addr) (un uc : Nat) (T2 : List Int) (p q : Nat) (v : Value) (ys : List Int) (w : World)
    (h1 : IntsAt w (.slice va vn vc) T1) (hr1 : RuleOk K R1 T1) (h2 : IntsAt w (.slice ua un uc) T2) (hr2 : RuleOk K R2 T2) (hv : IntsAt w v ys) (hy : Syms K ys) (hyl : ys.length = 2 * (R1 + R2) + 1)
    (x0 : w.cell? ⟨p, 0, none⟩ = some (.int .i64 K)) (x1 : w.cell? ⟨p, 1, none⟩ = some (.int .i64 R2)) (x2 : w.cell? ⟨p, 2, none⟩ = some (.slice ua un uc))
    (y0 : w.cell? ⟨q, 0, none⟩ = some (.int .i64 K)) (y1 : w.cell? ⟨q, 1, none⟩ = some (.int .i64 R1)) (y2 : w.cell? ⟨q, 2, none⟩ = some (.slice va vn vc)) :
    Calls Tryd.prog 101 #[v, .pointer (some ⟨p, 0, none⟩), .pointer (some ⟨q, 0, none⟩)] w (Ret1 (fun x _ => x = .int .i64 (T1.getD (numW K (imgP K R2 T2 ys)) 0)) w) := by
  have hR1 := hr1.r3
  have hR2 := hr2.r3
  have hk1 := hr1.k1
  have hsy : Syms K (imgP K R2 T2 ys) := imgP_syms hk1 hr2.syms
  have hil : (imgP K R2 T2 ys).length = 2 * R1 + 1 := by rw [imgP_length]; omega
  have hle : ys.length ≤ 4096 := by omega
  replace h1 := Lib.hid h1
  replace h2 := Lib.hid h2
  replace hv := Lib.hid hv
  replace hy := Lib.hid hy
  replace hyl := Lib.hid hyl
  replace hr1 := Lib.hid hr1
  replace hr2 := Lib.hid hr2
  replace hsy := Lib.hid hsy
  replace hil := Lib.hid hil
  generalize hY : T1.getD (numW K (imgP K R2 T2 ys)) 0 = Y
  replace hY := Lib.hid hY
  have yy := Lib.hid (And.intro y0 (And.intro y1 y2))
  clear y0 y1 y2
  go_enter Tryd.func101, Tryd.ntmps101
  go_wp2_with fail
  refine (step_ok K R2 ua un uc T2 v ys _ h2.out hr2.out hv.out hy.out hle).mono ?_
  rintro e w1 ⟨x, y, rfl, hb, ho, rfl⟩
  obtain ⟨y0, y1, y2⟩ := keep3 hb yy.out
  replace ho := Lib.hid ho
  go_wp2_with fail
  refine (symbol_any K R1 va vn vc T1 x _ _ (h1.out.below hb) hr1.out ho.out.at hsy.out hil.out).mono ?_
  rintro e w2 ⟨x, rfl, hb', rfl⟩
  rw [hY.out]
  go_wp2
  go_ret
  exact ⟨_, rfl, Below.step hb hb', rfl⟩
end Go.Proofs.YtmddapkhipmlgaaDoor
