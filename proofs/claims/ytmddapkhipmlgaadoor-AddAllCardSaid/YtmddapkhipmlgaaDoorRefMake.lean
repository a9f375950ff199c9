/-
  Walk: edenref18.Make.
-/
import Derived.Test.YtmddapkhipmlgaaDoorRefSum
namespace Go.Proofs.YtmddapkhipmlgaaDoor
open Go.RowKit
set_option maxRecDepth 100000

theorem m18_bad0 (k R : Int) (v : Value) (w : World) (h : k < 1 ∨ 4 < k ∨ R < 0 ∨ 3 < R) :
    Calls Tryd.prog 31 #[.int .i64 k, .int .i64 R, v] w (Ret2 (fun x y w' => x = zRule ∧ EOwn w.heap.size w' (fresh sAdditive 0 3) y) w) := by
  have b0 := Below.step (belowAlloc w (.cells #[.int .i64 0, .int .i64 0, .slice none 0 0] 24)) (belowAlloc _ (.cells #[.int .i64 0, .slice none 0 0, .slice none 0 0] 55))
  have q6 : Box3 ((w.alloc (.cells #[.int .i64 0, .int .i64 0, .slice none 0 0] 24)).alloc (.cells #[.int .i64 0, .slice none 0 0, .slice none 0 0] 55)) w.heap.size (.int .i64 0) (.int .i64 0) (.slice none 0 0) := by simp [Box3, go_sem]
  have q7 : Box3 ((w.alloc (.cells #[.int .i64 0, .int .i64 0, .slice none 0 0] 24)).alloc (.cells #[.int .i64 0, .slice none 0 0, .slice none 0 0] 55)) (w.heap.size + 1) (.int .i64 0) (.slice none 0 0) (.slice none 0 0) := by simp [Box3, go_sem]
  by_cases h1 : k < 1
  · clear h
    go_enter Tryd.func31, Tryd.ntmps31
    go_wp2_with fail
    refine (raw_new _ _ _ _).mono ?_
    rintro e w1 ⟨x, rfl, b1, he⟩
    obtain ⟨q, a1, n1, c1, a2, n2, c2, rfl⟩ := he.shape
    obtain ⟨⟨z0, z1, z2⟩, g0, g1, g2⟩ := q6.below b1
    obtain ⟨⟨y0, y1, y2⟩, f0, f1, f2⟩ := q7.below b1
    replace he := Lib.hid he
    go_wp2
    exact bodyPost_ret (v := .tuple #[zRule, .agg #[.int .i64 q, .slice a1 n1 c1, .slice a2 n2 c2]]) (by simp [results, Tryd.results31, go_sem, y0, y1, y2, z0, z1, z2]) rfl ⟨_, _, rfl, below_set3 (below_set3 (Below.step b0 b1) (Nat.le_refl _) _ _ _) (by simp) _ _ _, rfl, ((he.out.set3 (by simp; omega) _ _ _).set3 (by simp) _ _ _).mono (by simp; omega)⟩
  by_cases h2 : 4 < k
  · clear h
    go_enter Tryd.func31, Tryd.ntmps31
    go_wp2_with fail
    refine (raw_new _ _ _ _).mono ?_
    rintro e w1 ⟨x, rfl, b1, he⟩
    obtain ⟨q, a1, n1, c1, a2, n2, c2, rfl⟩ := he.shape
    obtain ⟨⟨z0, z1, z2⟩, g0, g1, g2⟩ := q6.below b1
    obtain ⟨⟨y0, y1, y2⟩, f0, f1, f2⟩ := q7.below b1
    replace he := Lib.hid he
    go_wp2
    exact bodyPost_ret (v := .tuple #[zRule, .agg #[.int .i64 q, .slice a1 n1 c1, .slice a2 n2 c2]]) (by simp [results, Tryd.results31, go_sem, y0, y1, y2, z0, z1, z2]) rfl ⟨_, _, rfl, below_set3 (below_set3 (Below.step b0 b1) (Nat.le_refl _) _ _ _) (by simp) _ _ _, rfl, ((he.out.set3 (by simp; omega) _ _ _).set3 (by simp) _ _ _).mono (by simp; omega)⟩
  by_cases h3 : R < 0
  · clear h
    go_enter Tryd.func31, Tryd.ntmps31
    go_wp2_with fail
    refine (raw_new _ _ _ _).mono ?_
    rintro e w1 ⟨x, rfl, b1, he⟩
    obtain ⟨q, a1, n1, c1, a2, n2, c2, rfl⟩ := he.shape
    obtain ⟨⟨z0, z1, z2⟩, g0, g1, g2⟩ := q6.below b1
    obtain ⟨⟨y0, y1, y2⟩, f0, f1, f2⟩ := q7.below b1
    replace he := Lib.hid he
    go_wp2
    exact bodyPost_ret (v := .tuple #[zRule, .agg #[.int .i64 q, .slice a1 n1 c1, .slice a2 n2 c2]]) (by simp [results, Tryd.results31, go_sem, y0, y1, y2, z0, z1, z2]) rfl ⟨_, _, rfl, below_set3 (below_set3 (Below.step b0 b1) (Nat.le_refl _) _ _ _) (by simp) _ _ _, rfl, ((he.out.set3 (by simp; omega) _ _ _).set3 (by simp) _ _ _).mono (by simp; omega)⟩
  have h4 : 3 < R := by omega
  clear h
  go_enter Tryd.func31, Tryd.ntmps31
  go_wp2_with fail
  refine (raw_new _ _ _ _).mono ?_
  rintro e w1 ⟨x, rfl, b1, he⟩
  obtain ⟨q, a1, n1, c1, a2, n2, c2, rfl⟩ := he.shape
  obtain ⟨⟨z0, z1, z2⟩, g0, g1, g2⟩ := q6.below b1
  obtain ⟨⟨y0, y1, y2⟩, f0, f1, f2⟩ := q7.below b1
  replace he := Lib.hid he
  go_wp2
  exact bodyPost_ret (v := .tuple #[zRule, .agg #[.int .i64 q, .slice a1 n1 c1, .slice a2 n2 c2]]) (by simp [results, Tryd.results31, go_sem, y0, y1, y2, z0, z1, z2]) rfl ⟨_, _, rfl, below_set3 (below_set3 (Below.step b0 b1) (Nat.le_refl _) _ _ _) (by simp) _ _ _, rfl, ((he.out.set3 (by simp; omega) _ _ _).set3 (by simp) _ _ _).mono (by simp; omega)⟩

theorem m18_bad1 (K R : Nat) (v : Value) (f : List Int) (w : World) (hf : IntsAt w v f) (h1 : 1 ≤ K) (h4 : K ≤ 4) (h3 : R ≤ 3) (hl : f.length ≠ 2 * R + 1) :
    Calls Tryd.prog 31 #[.int .i64 K, .int .i64 R, v] w (Ret2 (fun x y w' => x = zRule ∧ EOwn w.heap.size w' (fresh sAdditive 1 3) y) w) := by
  have b0 := Below.step (belowAlloc w (.cells #[.int .i64 0, .int .i64 0, .slice none 0 0] 24)) (belowAlloc _ (.cells #[.int .i64 0, .slice none 0 0, .slice none 0 0] 55))
  have q6 : Box3 ((w.alloc (.cells #[.int .i64 0, .int .i64 0, .slice none 0 0] 24)).alloc (.cells #[.int .i64 0, .slice none 0 0, .slice none 0 0] 55)) w.heap.size (.int .i64 0) (.int .i64 0) (.slice none 0 0) := by simp [Box3, go_sem]
  have q7 : Box3 ((w.alloc (.cells #[.int .i64 0, .int .i64 0, .slice none 0 0] 24)).alloc (.cells #[.int .i64 0, .slice none 0 0, .slice none 0 0] 55)) (w.heap.size + 1) (.int .i64 0) (.slice none 0 0) (.slice none 0 0) := by simp [Box3, go_sem]
  have hlen := hf.len
  have hm := hf.len_le
  have hne : ((f.length : Int) != 2 * (R : Int) + 1) = true := by rw [bne_iff_ne]; omega
  clear hf hl
  go_enter Tryd.func31, Tryd.ntmps31
  go_wp2_with fail
  refine (raw_new _ _ _ _).mono ?_
  rintro e w1 ⟨x, rfl, b1, he⟩
  obtain ⟨q, a1, n1, c1, a2, n2, c2, rfl⟩ := he.shape
  obtain ⟨⟨z0, z1, z2⟩, g0, g1, g2⟩ := q6.below b1
  obtain ⟨⟨y0, y1, y2⟩, f0, f1, f2⟩ := q7.below b1
  replace he := Lib.hid he
  go_wp2
  exact bodyPost_ret (v := .tuple #[zRule, .agg #[.int .i64 q, .slice a1 n1 c1, .slice a2 n2 c2]]) (by simp [results, Tryd.results31, go_sem, y0, y1, y2, z0, z1, z2]) rfl ⟨_, _, rfl, below_set3 (below_set3 (Below.step b0 b1) (Nat.le_refl _) _ _ _) (by simp) _ _ _, rfl, ((he.out.set3 (by simp; omega) _ _ _).set3 (by simp) _ _ _).mono (by simp; omega)⟩

theorem m18_num (K R : Nat) (v : Value) (f : List Int) (i : Nat) (w : World) (hf : IntsAt w v f) (h1 : 1 ≤ K) (h4 : K ≤ 4) (h3 : R ≤ 3) (hl : f.length = 2 * R + 1) (hi : idxOf (odd1 K) f = i) :
    Calls Tryd.prog 31 #[.int .i64 K, .int .i64 R, v] w (Ret2 (fun x y w' => x = zRule ∧ EOwn w.heap.size w' (fresh sAdditive i 2) y) w) := by
  have b0 := Below.step (belowAlloc w (.cells #[.int .i64 0, .int .i64 0, .slice none 0 0] 24)) (belowAlloc _ (.cells #[.int .i64 0, .slice none 0 0, .slice none 0 0] 55))
  have q6 : Box3 ((w.alloc (.cells #[.int .i64 0, .int .i64 0, .slice none 0 0] 24)).alloc (.cells #[.int .i64 0, .slice none 0 0, .slice none 0 0] 55)) w.heap.size (.int .i64 0) (.int .i64 0) (.slice none 0 0) := by simp [Box3, go_sem]
  have q7 : Box3 ((w.alloc (.cells #[.int .i64 0, .int .i64 0, .slice none 0 0] 24)).alloc (.cells #[.int .i64 0, .slice none 0 0, .slice none 0 0] 55)) (w.heap.size + 1) (.int .i64 0) (.slice none 0 0) (.slice none 0 0) := by simp [Box3, go_sem]
  have hlen := hf.len
  have hm := hf.len_le
  have hne : ((f.length : Int) != 2 * (R : Int) + 1) = false := by rw [bne_eq_false_iff_eq]; omega
  replace hf := Lib.hid (hf.below b0)
  replace hi := Lib.hid hi
  clear hl
  go_enter Tryd.func31, Tryd.ntmps31
  go_wp2_with fail
  refine (ref_bad K v f _ hf.out).mono ?_
  rintro e w1 ⟨rfl, rfl⟩
  rw [hi.out]
  go_wp2_with fail
  refine (raw_new _ _ _ _).mono ?_
  rintro e w1 ⟨x, rfl, b1, he⟩
  obtain ⟨q, a1, n1, c1, a2, n2, c2, rfl⟩ := he.shape
  obtain ⟨⟨z0, z1, z2⟩, g0, g1, g2⟩ := q6.below b1
  obtain ⟨⟨y0, y1, y2⟩, f0, f1, f2⟩ := q7.below b1
  replace he := Lib.hid he
  go_wp2
  exact bodyPost_ret (v := .tuple #[zRule, .agg #[.int .i64 q, .slice a1 n1 c1, .slice a2 n2 c2]]) (by simp [results, Tryd.results31, go_sem, y0, y1, y2, z0, z1, z2]) rfl ⟨_, _, rfl, below_set3 (below_set3 (Below.step b0 b1) (Nat.le_refl _) _ _ _) (by simp) _ _ _, rfl, ((he.out.set3 (by simp; omega) _ _ _).set3 (by simp) _ _ _).mono (by simp; omega)⟩

theorem m18_ok (K R : Nat) (v : Value) (f : List Int) (w : World) (hf : IntsAt w v f) (h1 : 1 ≤ K) (h4 : K ≤ 4) (h3 : R ≤ 3) (hl : f.length = 2 * R + 1) (hs : Syms K f) :
    Calls Tryd.prog 31 #[.int .i64 K, .int .i64 R, v] w (Ret2 (fun x y w' => y = zErr ∧ ∃ a n c, x = .agg #[.int .i64 K, .int .i64 R, .slice a n c] ∧ OwnI w.heap.size w' (.slice a n c) (sumT K f)) w) := by
  have b0 := Below.step (belowAlloc w (.cells #[.int .i64 0, .int .i64 0, .slice none 0 0] 24)) (belowAlloc _ (.cells #[.int .i64 0, .slice none 0 0, .slice none 0 0] 55))
  have q6 : Box3 ((w.alloc (.cells #[.int .i64 0, .int .i64 0, .slice none 0 0] 24)).alloc (.cells #[.int .i64 0, .slice none 0 0, .slice none 0 0] 55)) w.heap.size (.int .i64 0) (.int .i64 0) (.slice none 0 0) := by simp [Box3, go_sem]
  have q7 : Box3 ((w.alloc (.cells #[.int .i64 0, .int .i64 0, .slice none 0 0] 24)).alloc (.cells #[.int .i64 0, .slice none 0 0, .slice none 0 0] 55)) (w.heap.size + 1) (.int .i64 0) (.slice none 0 0) (.slice none 0 0) := by simp [Box3, go_sem]
  have hlen := hf.len
  have hm := hf.len_le
  have hne : ((f.length : Int) != 2 * (R : Int) + 1) = false := by rw [bne_eq_false_iff_eq]; omega
  replace hf := Lib.hid (hf.below b0)
  have hi := Lib.hid hs.odd
  replace hs := Lib.hid hs
  replace hl := Lib.hid hl
  go_enter Tryd.func31, Tryd.ntmps31
  go_wp2_with fail
  refine (ref_bad K v f _ hf.out).mono ?_
  rintro e w1 ⟨rfl, rfl⟩
  rw [hi.out]
  go_wp2_with fail
  refine (ref_sum K v f _ hf.out h1 h4 (by have := hl.out; omega) hs.out).mono ?_
  rintro e w1 ⟨x, rfl, b1, a, n, c, rfl, ho⟩
  obtain ⟨⟨z0, z1, z2⟩, g0, g1, g2⟩ := q6.below b1
  obtain ⟨⟨y0, y1, y2⟩, f0, f1, f2⟩ := q7.below b1
  replace ho := Lib.hid ho
  have hl2 : ((f.length / 2 : Nat) : Int) = R := by have := hl.out; omega
  rw [hl2]
  clear hl2
  go_wp2
  refine bodyPost_ret (v := .tuple #[.agg #[.int .i64 K, .int .i64 R, .slice a n c], zErr]) (by simp [results, Tryd.results31, go_sem, y0, y1, y2, z0, z1, z2]) rfl ⟨_, _, rfl, below_set3 (below_set3 (Below.step b0 b1) (Nat.le_refl _) _ _ _) (by simp) _ _ _, rfl, a, n, c, rfl, ?_⟩
  exact (((((((ho.out.setBelowBase (a := ⟨w.heap.size, 0, none⟩) (by simp; omega) _).setBelowBase (a := ⟨w.heap.size, 1, none⟩) (by simp; omega) _).setBelowBase (a := ⟨w.heap.size, 2, none⟩) (by simp; omega) _).setBelowBase (a := ⟨w.heap.size + 1, 0, none⟩) (by simp) _).setBelowBase (a := ⟨w.heap.size + 1, 1, none⟩) (by simp) _).setBelowBase (a := ⟨w.heap.size + 1, 2, none⟩) (by simp) _)).mono (by simp; omega)

/-- edenref18.Make at all factors. -/
theorem m18_any (k R : Int) (v : Value) (f : List Int) (w : World) (hf : IntsAt w v f) :
    Calls Tryd.prog 31 #[.int .i64 k, .int .i64 R, v] w (Ret2 (fun x y w' => ∃ k' R' a n c, x = .agg #[.int .i64 k', .int .i64 R', .slice a n c] ∧ EOwn w.heap.size w' (makeP k R f) y ∧
      (makeP k R f = none → k' = k ∧ R' = R ∧ OwnI w.heap.size w' (.slice a n c) (sumT k.toNat f)) ∧ (makeP k R f ≠ none → k' = 0 ∧ R' = 0 ∧ (.slice a n c : Value) = .slice none 0 0)) w) := by
  have fin : ∀ {t' : PErr}, t' = makeP k R f → makeP k R f ≠ none → ∀ e w', (Ret2 (fun x y w' => x = zRule ∧ EOwn w.heap.size w' t' y) w) e w' → Ret2 (fun x y w' => ∃ k' R' a n c, x = .agg #[.int .i64 k', .int .i64 R', .slice a n c] ∧ EOwn w.heap.size w' (makeP k R f) y ∧
      (makeP k R f = none → k' = k ∧ R' = R ∧ OwnI w.heap.size w' (.slice a n c) (sumT k.toNat f)) ∧ (makeP k R f ≠ none → k' = 0 ∧ R' = 0 ∧ (.slice a n c : Value) = .slice none 0 0)) w e w' := by
    rintro t' rfl hn e w' ⟨x, y, he, hb, rfl, hy⟩
    exact ⟨_, _, he, hb, 0, 0, none, 0, 0, rfl, hy, fun h => absurd h hn, fun _ => ⟨rfl, rfl, rfl⟩⟩
  by_cases h1 : k < 1 ∨ 4 < k ∨ R < 0 ∨ 3 < R
  · have e : fresh sAdditive 0 3 = makeP k R f := by rw [makeP, if_pos h1]
    exact (m18_bad0 k R v w h1).mono (fin e (by rw [← e]; simp [fresh]))
  obtain ⟨K, rfl⟩ := Int.eq_ofNat_of_zero_le (show 0 ≤ k by omega)
  obtain ⟨Q, rfl⟩ := Int.eq_ofNat_of_zero_le (show 0 ≤ R by omega)
  by_cases h2 : (f.length : Int) ≠ 2 * Q + 1
  · have e : fresh sAdditive 1 3 = makeP K Q f := by rw [makeP, if_neg h1, if_pos h2]
    exact (m18_bad1 K Q v f w hf (by omega) (by omega) (by omega) (by omega)).mono (fin e (by rw [← e]; simp [fresh]))
  rcases syms_or K f with hs | ⟨i, hi, hlt⟩
  · have e : makeP K Q f = none := by rw [makeP, if_neg h1, if_neg h2, hs.num]
    refine (m18_ok K Q v f w hf (by omega) (by omega) (by omega) (by omega) hs).mono ?_
    rintro _ w' ⟨x, y, he, hb, rfl, a, n, c, rfl, ho⟩
    exact ⟨_, _, he, hb, _, _, a, n, c, rfl, by rw [e]; rfl, fun _ => ⟨rfl, rfl, by rw [Int.toNat_natCast]; exact ho⟩, fun h => absurd e h⟩
  · have e : fresh sAdditive i 2 = makeP K Q f := by rw [makeP, if_neg h1, if_neg h2, numP, if_neg (by omega), hi, Int.zero_add]
    exact (m18_num K Q v f i w hf (by omega) (by omega) (by omega) (by omega) hi).mono (fin e (by rw [← e]; simp [fresh]))
end Go.Proofs.YtmddapkhipmlgaaDoor
