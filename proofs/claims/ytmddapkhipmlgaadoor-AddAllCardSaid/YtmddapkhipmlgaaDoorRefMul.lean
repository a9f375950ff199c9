/-
  Walk: edenref18.Mul.
-/
import Derived.Test.YtmddapkhipmlgaaDoorRefOne
import Derived.Test.YtmddapkhipmlgaaDoorPureRefMul
namespace Go.Proofs.YtmddapkhipmlgaaDoor
open Go.RowKit
set_option maxRecDepth 100000

set_option maxHeartbeats 400000 in
theorem mul18_bad1 (k : Int) (v u : Value) (f : List Int) (t : Int × List (ByteArray × Int)) (w : World) (hf : IntsAt w v f) (hc : factP k f = some t) (hn : t.1 ≠ 0) :
    Calls Tryd.prog 38 #[.int .i64 k, v, u] w (Ret2 (fun x y w' => x = .slice none 0 0 ∧ EOwn w.heap.size w' (some t) y) w) := by
  have b0 := belowAlloc w (.cells #[.int .i64 0, .slice none 0 0, .slice none 0 0] 55)
  have q5 : Box3 (w.alloc (.cells #[.int .i64 0, .slice none 0 0, .slice none 0 0] 55)) w.heap.size (.int .i64 0) (.slice none 0 0) (.slice none 0 0) := by simp [Box3, go_sem]
  replace hf := Lib.hid (hf.below b0)
  replace hc := Lib.hid hc
  obtain ⟨n, l⟩ := t
  have hnb : (n != 0) = true := by rw [bne_iff_ne]; exact hn
  clear hn
  go_enter Tryd.func38, Tryd.ntmps38
  go_wp2_with fail
  refine (f18_any k v f _ hf.out).mono ?_
  rintro e w1 ⟨x, rfl, b1, he⟩
  rw [hc.out] at he
  obtain ⟨a1, n1, c1, a2, n2, c2, rfl, hs1, hs2⟩ := he
  have he : EOwn (w.alloc (.cells #[.int .i64 0, .slice none 0 0, .slice none 0 0] 55)).heap.size w1 (some (n, l)) (.agg #[.int .i64 n, .slice a1 n1 c1, .slice a2 n2 c2]) := ⟨_, _, _, _, _, _, rfl, hs1, hs2⟩
  clear hs1 hs2
  replace he := Lib.hid he
  have q6 := q5.below b1
  go_wp2_with fail
  refine (err_bad n a1 n1 c1 a2 n2 c2 _).mono ?_
  rintro e w2 ⟨x, rfl, b2, rfl⟩
  have b12 := Below.step (belowAlloc w1 (.cells #[.int .i64 n, .slice a1 n1 c1, .slice a2 n2 c2] 55)) b2
  obtain ⟨⟨y0, y1, y2⟩, f0, f1, f2⟩ := q6.below b12
  obtain ⟨x0, x1, x2⟩ := keep3 (n := w1.heap.size) (a := .int .i64 n) (b := .slice a1 n1 c1) (c := .slice a2 n2 c2) b2 ⟨by simp, by simp, by simp⟩
  have hEf := Lib.hid (he.out.below b12)
  have hBf := Lib.hid (Below.step (Below.step b0 b1) b12)
  go_wp2
  go_region
  go_wp2
  refine bodyPost_ret (v := .tuple #[.slice none 0 0, .agg #[.int .i64 n, .slice a1 n1 c1, .slice a2 n2 c2]]) (by simp [results, Tryd.results38, go_sem, y0, y1, y2]) rfl ⟨_, _, rfl, ?_, rfl, ?_⟩
  · exact (below_set3 hBf.out (Nat.le_refl _) _ _ _).drew
  · exact ((hEf.out.set3 (by simp) _ _ _).mono (by simp)).drew



set_option maxHeartbeats 400000 in
theorem mul18_even (K : Nat) (v u : Value) (f g : List Int) (w : World) (hf : IntsAt w v f) (hg : IntsAt w u g) (hc : factP K f = none) (h : g.length % 2 = 0) :
    Calls Tryd.prog 38 #[.int .i64 K, v, u] w (Ret2 (fun x y w' => x = .slice none 0 0 ∧ EOwn w.heap.size w' (fresh sAdditive 2 3) y) w) := by
  have hb : ((g.length : Int) % 2 == 0) = true := by rw [beq_iff_eq]; omega
  clear h
  have b0 := belowAlloc w (.cells #[.int .i64 0, .slice none 0 0, .slice none 0 0] 55)
  have q5 : Box3 (w.alloc (.cells #[.int .i64 0, .slice none 0 0, .slice none 0 0] 55)) w.heap.size (.int .i64 0) (.slice none 0 0) (.slice none 0 0) := by simp [Box3, go_sem]
  have hlen := hf.len
  have hlen2 := hg.len
  have hm := hf.len_le
  have hm2 := hg.len_le
  replace hf := Lib.hid (hf.below b0)
  replace hg := Lib.hid (hg.below b0)
  replace hc := Lib.hid hc
  go_enter Tryd.func38, Tryd.ntmps38
  go_wp2_with fail
  refine (f18_any _ v f _ hf.out).mono ?_
  rintro e w1 ⟨x, rfl, b1, he⟩
  rw [hc.out] at he
  obtain rfl : x = zErr := he
  have q6 := q5.below b1
  go_wp2_with fail
  refine (err_bad 0 none 0 0 none 0 0 _).mono ?_
  rintro e w2 ⟨x, rfl, b2, rfl⟩
  have b12 := Below.step (belowAlloc w1 (.cells #[.int .i64 0, .slice none 0 0, .slice none 0 0] 55)) b2
  have q7 := q6.below b12
  have hg2 := Lib.hid (hg.out.below (Below.step b1 b12))
  have hf2 := Lib.hid (hf.out.below (Below.step b1 b12))
  have hBf := Below.step (Below.step b0 b1) b12
  clear b1 b2 b12 q6
  go_wp2_with fail
  refine (raw_new _ _ _ _).mono ?_
  rintro e w3 ⟨x, rfl, b3, he⟩
  obtain ⟨q, a1, n1, c1, a2, n2, c2, rfl⟩ := he.shape
  obtain ⟨⟨y0, y1, y2⟩, f0, f1, f2⟩ := q7.below b3
  have hEf := Lib.hid he
  have hB3 := Lib.hid (Below.step hBf b3)
  have hsz := hBf.size
  have hlt : w.heap.size < w2.heap.size := World.block_lt_of_cell? _ _ q7.1.1
  go_wp2
  exact bodyPost_ret (v := .tuple #[.slice none 0 0, .agg #[.int .i64 q, .slice a1 n1 c1, .slice a2 n2 c2]]) (by simp [results, Tryd.results38, go_sem, y0, y1, y2]) rfl ⟨_, _, rfl, below_set3 hB3.out (Nat.le_refl _) _ _ _, rfl, (hEf.out.set3 hlt _ _ _).mono hsz⟩

set_option maxHeartbeats 400000 in
theorem mul18_long (K : Nat) (v u : Value) (f g : List Int) (w : World) (hf : IntsAt w v f) (hg : IntsAt w u g) (hc : factP K f = none) (h : g.length % 2 = 1) (h7 : 7 < g.length) :
    Calls Tryd.prog 38 #[.int .i64 K, v, u] w (Ret2 (fun x y w' => x = .slice none 0 0 ∧ EOwn w.heap.size w' (fresh sAdditive 2 3) y) w) := by
  have hb : ((g.length : Int) % 2 == 0) = false := by rw [beq_eq_false_iff_ne]; omega
  clear h
  have b0 := belowAlloc w (.cells #[.int .i64 0, .slice none 0 0, .slice none 0 0] 55)
  have q5 : Box3 (w.alloc (.cells #[.int .i64 0, .slice none 0 0, .slice none 0 0] 55)) w.heap.size (.int .i64 0) (.slice none 0 0) (.slice none 0 0) := by simp [Box3, go_sem]
  have hlen := hf.len
  have hlen2 := hg.len
  have hm := hf.len_le
  have hm2 := hg.len_le
  replace hf := Lib.hid (hf.below b0)
  replace hg := Lib.hid (hg.below b0)
  replace hc := Lib.hid hc
  go_enter Tryd.func38, Tryd.ntmps38
  go_wp2_with fail
  refine (f18_any _ v f _ hf.out).mono ?_
  rintro e w1 ⟨x, rfl, b1, he⟩
  rw [hc.out] at he
  obtain rfl : x = zErr := he
  have q6 := q5.below b1
  go_wp2_with fail
  refine (err_bad 0 none 0 0 none 0 0 _).mono ?_
  rintro e w2 ⟨x, rfl, b2, rfl⟩
  have b12 := Below.step (belowAlloc w1 (.cells #[.int .i64 0, .slice none 0 0, .slice none 0 0] 55)) b2
  have q7 := q6.below b12
  have hg2 := Lib.hid (hg.out.below (Below.step b1 b12))
  have hf2 := Lib.hid (hf.out.below (Below.step b1 b12))
  have hBf := Below.step (Below.step b0 b1) b12
  clear b1 b2 b12 q6
  go_wp2_with fail
  refine (raw_new _ _ _ _).mono ?_
  rintro e w3 ⟨x, rfl, b3, he⟩
  obtain ⟨q, a1, n1, c1, a2, n2, c2, rfl⟩ := he.shape
  obtain ⟨⟨y0, y1, y2⟩, f0, f1, f2⟩ := q7.below b3
  have hEf := Lib.hid he
  have hB3 := Lib.hid (Below.step hBf b3)
  have hsz := hBf.size
  have hlt : w.heap.size < w2.heap.size := World.block_lt_of_cell? _ _ q7.1.1
  go_wp2
  exact bodyPost_ret (v := .tuple #[.slice none 0 0, .agg #[.int .i64 q, .slice a1 n1 c1, .slice a2 n2 c2]]) (by simp [results, Tryd.results38, go_sem, y0, y1, y2]) rfl ⟨_, _, rfl, below_set3 hB3.out (Nat.le_refl _) _ _ _, rfl, (hEf.out.set3 hlt _ _ _).mono hsz⟩

set_option maxHeartbeats 400000 in
theorem mul18_odd (K : Nat) (v u : Value) (f g : List Int) (i : Nat) (w : World) (hf : IntsAt w v f) (hg : IntsAt w u g) (hc : factP K f = none) (h : g.length % 2 = 1) (h7 : g.length ≤ 7) (hi : idxOf (odd1 K) g = i) (hi7 : i ≤ 7) :
    Calls Tryd.prog 38 #[.int .i64 K, v, u] w (Ret2 (fun x y w' => x = .slice none 0 0 ∧ EOwn w.heap.size w' (fresh sAdditive (f.length + i) 2) y) w) := by
  obtain ⟨h1, h4, ho, hs⟩ := factP_none hc
  have hk1 : 1 ≤ K := by omega
  have hk4 : K ≤ 4 := by omega
  have hl7 : f.length ≤ 7 := by simp [oddP] at ho; omega
  have hl1 : f.length % 2 = 1 := by simp [oddP] at ho; omega
  clear ho
  have hb : ((g.length : Int) % 2 == 0) = false := by rw [beq_eq_false_iff_ne]; omega
  clear h hl1 hs
  replace hi := Lib.hid hi
  have b0 := belowAlloc w (.cells #[.int .i64 0, .slice none 0 0, .slice none 0 0] 55)
  have q5 : Box3 (w.alloc (.cells #[.int .i64 0, .slice none 0 0, .slice none 0 0] 55)) w.heap.size (.int .i64 0) (.slice none 0 0) (.slice none 0 0) := by simp [Box3, go_sem]
  have hlen := hf.len
  have hlen2 := hg.len
  have hm := hf.len_le
  have hm2 := hg.len_le
  replace hf := Lib.hid (hf.below b0)
  replace hg := Lib.hid (hg.below b0)
  replace hc := Lib.hid hc
  go_enter Tryd.func38, Tryd.ntmps38
  go_wp2_with fail
  refine (f18_any _ v f _ hf.out).mono ?_
  rintro e w1 ⟨x, rfl, b1, he⟩
  rw [hc.out] at he
  obtain rfl : x = zErr := he
  have q6 := q5.below b1
  go_wp2_with fail
  refine (err_bad 0 none 0 0 none 0 0 _).mono ?_
  rintro e w2 ⟨x, rfl, b2, rfl⟩
  have b12 := Below.step (belowAlloc w1 (.cells #[.int .i64 0, .slice none 0 0, .slice none 0 0] 55)) b2
  have q7 := q6.below b12
  have hg2 := Lib.hid (hg.out.below (Below.step b1 b12))
  have hf2 := Lib.hid (hf.out.below (Below.step b1 b12))
  have hBf := Below.step (Below.step b0 b1) b12
  clear b1 b2 b12 q6
  go_wp2_with fail
  refine (ref_bad K u g _ hg2.out).mono ?_
  rintro e w3 ⟨rfl, rfl⟩
  rw [hi.out]
  go_wp2_with fail
  refine (raw_new _ _ _ _).mono ?_
  rintro e w3 ⟨x, rfl, b3, he⟩
  obtain ⟨q, a1, n1, c1, a2, n2, c2, rfl⟩ := he.shape
  obtain ⟨⟨y0, y1, y2⟩, f0, f1, f2⟩ := q7.below b3
  have hEf := Lib.hid he
  have hB3 := Lib.hid (Below.step hBf b3)
  have hsz := hBf.size
  have hlt : w.heap.size < w2.heap.size := World.block_lt_of_cell? _ _ q7.1.1
  go_wp2
  exact bodyPost_ret (v := .tuple #[.slice none 0 0, .agg #[.int .i64 q, .slice a1 n1 c1, .slice a2 n2 c2]]) (by simp [results, Tryd.results38, go_sem, y0, y1, y2]) rfl ⟨_, _, rfl, below_set3 hB3.out (Nat.le_refl _) _ _ _, rfl, (hEf.out.set3 hlt _ _ _).mono hsz⟩

set_option maxHeartbeats 400000 in
theorem mul18_sum (K : Nat) (v u : Value) (f g : List Int) (w : World) (hf : IntsAt w v f) (hg : IntsAt w u g) (hc : factP K f = none) (h : g.length % 2 = 1) (h7 : g.length ≤ 7) (hs2 : Syms K g) (hsum : 7 < f.length + g.length - 1) :
    Calls Tryd.prog 38 #[.int .i64 K, v, u] w (Ret2 (fun x y w' => x = .slice none 0 0 ∧ EOwn w.heap.size w' (fresh sAdditive 2 3) y) w) := by
  obtain ⟨h1, h4, ho, hs⟩ := factP_none hc
  have hk1 : 1 ≤ K := by omega
  have hk4 : K ≤ 4 := by omega
  have hl7 : f.length ≤ 7 := by simp [oddP] at ho; omega
  have hl1 : f.length % 2 = 1 := by simp [oddP] at ho; omega
  clear ho
  have hb : ((g.length : Int) % 2 == 0) = false := by rw [beq_eq_false_iff_ne]; omega
  have hsi : (7 : Int) < (f.length : Int) + (g.length : Int) - 1 := by omega
  have hi := Lib.hid hs2.odd
  clear h hl1 hs hs2 hsum
  have b0 := belowAlloc w (.cells #[.int .i64 0, .slice none 0 0, .slice none 0 0] 55)
  have q5 : Box3 (w.alloc (.cells #[.int .i64 0, .slice none 0 0, .slice none 0 0] 55)) w.heap.size (.int .i64 0) (.slice none 0 0) (.slice none 0 0) := by simp [Box3, go_sem]
  have hlen := hf.len
  have hlen2 := hg.len
  have hm := hf.len_le
  have hm2 := hg.len_le
  replace hf := Lib.hid (hf.below b0)
  replace hg := Lib.hid (hg.below b0)
  replace hc := Lib.hid hc
  go_enter Tryd.func38, Tryd.ntmps38
  go_wp2_with fail
  refine (f18_any _ v f _ hf.out).mono ?_
  rintro e w1 ⟨x, rfl, b1, he⟩
  rw [hc.out] at he
  obtain rfl : x = zErr := he
  have q6 := q5.below b1
  go_wp2_with fail
  refine (err_bad 0 none 0 0 none 0 0 _).mono ?_
  rintro e w2 ⟨x, rfl, b2, rfl⟩
  have b12 := Below.step (belowAlloc w1 (.cells #[.int .i64 0, .slice none 0 0, .slice none 0 0] 55)) b2
  have q7 := q6.below b12
  have hg2 := Lib.hid (hg.out.below (Below.step b1 b12))
  have hf2 := Lib.hid (hf.out.below (Below.step b1 b12))
  have hBf := Below.step (Below.step b0 b1) b12
  clear b1 b2 b12 q6
  go_wp2_with fail
  refine (ref_bad K u g _ hg2.out).mono ?_
  rintro e w3 ⟨rfl, rfl⟩
  rw [hi.out]
  go_wp2_with fail
  refine (raw_new _ _ _ _).mono ?_
  rintro e w3 ⟨x, rfl, b3, he⟩
  obtain ⟨q, a1, n1, c1, a2, n2, c2, rfl⟩ := he.shape
  obtain ⟨⟨y0, y1, y2⟩, f0, f1, f2⟩ := q7.below b3
  have hEf := Lib.hid he
  have hB3 := Lib.hid (Below.step hBf b3)
  have hsz := hBf.size
  have hlt : w.heap.size < w2.heap.size := World.block_lt_of_cell? _ _ q7.1.1
  go_wp2
  exact bodyPost_ret (v := .tuple #[.slice none 0 0, .agg #[.int .i64 q, .slice a1 n1 c1, .slice a2 n2 c2]]) (by simp [results, Tryd.results38, go_sem, y0, y1, y2]) rfl ⟨_, _, rfl, below_set3 hB3.out (Nat.le_refl _) _ _ _, rfl, (hEf.out.set3 hlt _ _ _).mono hsz⟩

set_option maxHeartbeats 1000000 in
theorem mul18_ok (K : Nat) (v u : Value) (f g : List Int) (w : World) (hf : IntsAt w v f) (hg : IntsAt w u g) (hc : factP K f = none) (h : g.length % 2 = 1) (h7 : g.length ≤ 7) (hs2 : Syms K g) (hsum : f.length + g.length - 1 ≤ 7) :
    Calls Tryd.prog 38 #[.int .i64 K, v, u] w (Ret2 (fun x y w' => y = zErr ∧ OwnI w.heap.size w' x (mulL K f g)) w) := by
  obtain ⟨h1, h4, ho, hs⟩ := factP_none hc
  have hk1 : 1 ≤ K := by omega
  have hk4 : K ≤ 4 := by omega
  have hl7 : f.length ≤ 7 := by simp [oddP] at ho; omega
  have hl1 : f.length % 2 = 1 := by simp [oddP] at ho; omega
  clear ho
  have hb : ((g.length : Int) % 2 == 0) = false := by rw [beq_eq_false_iff_ne]; omega
  have hf1 : 1 ≤ f.length := by omega
  have hg1 : 1 ≤ g.length := by omega
  have hsi : (f.length : Int) + (g.length : Int) - 1 ≤ 7 := by omega
  have hsi0 : (0 : Int) ≤ (f.length : Int) + (g.length : Int) - 1 := by omega
  have hi := Lib.hid hs2.odd
  clear h hl1
  replace hs := Lib.hid hs
  replace hs2 := Lib.hid hs2
  have b0 := belowAlloc w (.cells #[.int .i64 0, .slice none 0 0, .slice none 0 0] 55)
  have q5 : Box3 (w.alloc (.cells #[.int .i64 0, .slice none 0 0, .slice none 0 0] 55)) w.heap.size (.int .i64 0) (.slice none 0 0) (.slice none 0 0) := by simp [Box3, go_sem]
  have hlen := hf.len
  have hlen2 := hg.len
  have hm := hf.len_le
  have hm2 := hg.len_le
  replace hf := Lib.hid (hf.below b0)
  replace hg := Lib.hid (hg.below b0)
  replace hc := Lib.hid hc
  go_enter Tryd.func38, Tryd.ntmps38
  go_wp2_with fail
  refine (f18_any _ v f _ hf.out).mono ?_
  rintro e w1 ⟨x, rfl, b1, he⟩
  rw [hc.out] at he
  obtain rfl : x = zErr := he
  have q6 := q5.below b1
  go_wp2_with fail
  refine (err_bad 0 none 0 0 none 0 0 _).mono ?_
  rintro e w2 ⟨x, rfl, b2, rfl⟩
  have b12 := Below.step (belowAlloc w1 (.cells #[.int .i64 0, .slice none 0 0, .slice none 0 0] 55)) b2
  have q7 := q6.below b12
  have hg2 := Lib.hid (hg.out.below (Below.step b1 b12))
  have hf2 := Lib.hid (hf.out.below (Below.step b1 b12))
  have hBf := Below.step (Below.step b0 b1) b12
  clear b1 b2 b12 q6
  go_wp2_with fail
  refine (ref_bad K u g _ hg2.out).mono ?_
  rintro e w3 ⟨rfl, rfl⟩
  rw [hi.out]
  go_wp2_with (at_make; refine wpl_make rfl _ _ rfl _ rfl rfl (by omega) (by omega) ?_)
  intro ov w3 hO b3
  rw [show ((f.length : Int) + (g.length : Int)).toNat - 1 = f.length + g.length - 1 by omega, ← outL_start K f g] at hO
  have hol := hO.at.len
  rw [outL_length] at hol
  obtain ⟨L, hL⟩ : ∃ L, L = f.length + g.length - 1 := ⟨_, rfl⟩
  rw [← hL] at hol
  have hLi : (L : Int) = (f.length : Int) + (g.length : Int) - 1 := by omega
  have hL7 : L ≤ 7 := by omega
  replace hLi := Lib.hid hLi
  replace hL := Lib.hid hL
  have q8 := q7.below b3
  have hf3 := Lib.hid (hf2.out.below b3)
  have hg3 := Lib.hid (hg2.out.below b3)
  have hK0 : ((K : Int) == 0) = false := by rw [beq_eq_false_iff_ne]; omega
  have hK1 : ¬ (K : Int) = 0 := by omega
  have hK2 : (0 : Int) < K := by omega
  have hK3 : ¬ K = 0 := by omega
  go_wp2
  go_loopw [11] (fun i wr => ∃ p : Nat, p ≤ L ∧ i = .int .i64 p ∧ OwnI w2.heap.size wr ov (outL K f g p 0) ∧ Below w2.heap.size w2 wr) (fun i _ => L - (intOf i).toNat)
  case atStart => exact ⟨0, by omega, rfl, hO, b3⟩
  case round =>
    obtain ⟨p, hp, rfl, hO, hB⟩ := hrel
    obtain ⟨wo, rfl⟩ : ∃ wo : World, wo = wr := ⟨_, rfl⟩
    by_cases hpl : p < L
    · go_wp2
      go_loopw [12] (fun j wr => ∃ t : Nat, t ≤ f.length ∧ j = .int .i64 t ∧ OwnI w2.heap.size wr ov (outL K f g p t) ∧ Below w2.heap.size w2 wr) (fun j _ => f.length - (intOf j).toNat)
      case atStart => exact ⟨0, by omega, rfl, hO, hB⟩
      case round =>
        clear hO hB
        obtain ⟨t, ht, rfl, hO, hB⟩ := hrel
        obtain ⟨wi, rfl⟩ : ∃ wi : World, wi = wr := ⟨_, rfl⟩
        by_cases htl : t < f.length
        · by_cases htp : t ≤ p
          · by_cases hgl : p - t < g.length
            · have hpL : p < f.length + g.length - 1 := by rw [← hL.out]; exact hpl
              have hfw := hf2.out.below hB
              have hgw := hg2.out.below hB
              have i1 := hO.at.idx p (by rw [outL_length]; exact hpL)
              have c1 := hO.at.cellD p (by rw [outL_length]; exact hpL)
              have r1 := hO.frz p (by rw [outL_length]; exact hpL)
              have i2 := hfw.idx t htl
              have c2 := hfw.cellD t htl
              have i3 : ∀ w', (Instr.indexAt 22 u (.int .i64 ((p : Int) - (t : Int)))).run Tryd.prog w' = .ok (.pointer (some (valAt u (p - t)))) w' := by
                intro w'
                have := hgw.idxI ((p : Int) - (t : Int)) (by omega) (by omega) w'
                rwa [show ((p : Int) - (t : Int)).toNat = p - t by omega] at this
              have c3 := hgw.cellD (p - t) hgl
              rw [outL_getD K f g p t hpL] at c1
              have hpr := mulPart_range hk1 f g p t
              have hpb := prod_bound hk4 (hs.out.getD (by omega) t) (hs2.out.getD (by omega) (p - t))
              have hnew : mulPart K f g p (t + 1) = (mulPart K f g p t + f.getD t 0 * g.getD (p - t) 0) % K := by rw [mulPart_succ, mulTerm, if_pos ⟨htp, hgl⟩]
              have hO2 := hO.set p (by rw [outL_length]; exact hpL) (mulPart K f g p (t + 1))
              rw [outL_set] at hO2
              have hB2 := hO.setBelow hB p (by rw [outL_length]; exact hpL) (.int .i64 (mulPart K f g p (t + 1)))
              have d1 : decide ((0 : Int) ≤ (p : Int) - (t : Int)) = true := by simp; omega
              have d2 : decide ((p : Int) - (t : Int) < (g.length : Int)) = true := by simp; omega
              rw [hnew] at hO2 hB2
              clear hnew hO hfw hgw
              generalize mulPart K f g p t = z at c1 hpr hO2 hB2
              generalize f.getD t 0 = x at c2 hpb hO2 hB2
              generalize g.getD (p - t) 0 = y at c3 hpb hO2 hB2
              obtain ⟨hz0, hz1⟩ := hpr
              obtain ⟨hxy0, hxy1⟩ := hpb
              replace hO2 := Lib.hid hO2
              replace hB2 := Lib.hid hB2
              replace hB := Lib.hid hB
              go_wp2
              go_region
              all_goals
                go_wp2
                go_roundw
                case rel => exact ⟨t + 1, by omega, by go_num, by first | exact hO2.out | exact hO2.out.drew | (rw [Int.tmod_eq_emod_of_nonneg (by omega)]; exact hO2.out), by first | exact hB2.out | exact hB2.out.drew | (rw [Int.tmod_eq_emod_of_nonneg (by omega)]; exact hB2.out.drew)⟩
                case measure => simp [intOf]; omega
            · have d1 : decide ((0 : Int) ≤ (p : Int) - (t : Int)) = true := by simp; omega
              have d2 : decide ((p : Int) - (t : Int) < (g.length : Int)) = false := by simp; omega
              have hO2 := hO
              rw [← outL_skip K f g p t (by omega)] at hO2
              replace hO2 := Lib.hid hO2
              replace hB := Lib.hid hB
              clear hO
              go_wp2
              go_roundw
              case rel => exact ⟨t + 1, by omega, by go_num, hO2.out, hB.out⟩
              case measure => simp [intOf]; omega
          · have d1 : decide ((0 : Int) ≤ (p : Int) - (t : Int)) = false := by simp; omega
            have hO2 := hO
            rw [← outL_skip K f g p t (by omega)] at hO2
            replace hO2 := Lib.hid hO2
            replace hB := Lib.hid hB
            clear hO
            go_wp2
            go_roundw
            case rel => exact ⟨t + 1, by omega, by go_num, hO2.out, hB.out⟩
            case measure => simp [intOf]; omega
        · obtain rfl : t = f.length := by omega
          rw [outL_next] at hO
          replace hO := Lib.hid hO
          replace hB := Lib.hid hB
          go_wp2
          go_roundw
          case rel => exact ⟨p + 1, by omega, by go_num, hO.out, hB.out⟩
          case measure => simp [intOf]; omega
    · obtain rfl : p = L := by omega
      rw [outL_end hk1 f g hg1 p (by rw [← hL.out]; exact Nat.le_refl _)] at hO
      obtain ⟨⟨y0, y1, y2⟩, f0, f1, f2⟩ := q7.belowB hB (World.block_lt_of_cell? _ _ q7.1.1)
      have hlt : w.heap.size < w2.heap.size := World.block_lt_of_cell? _ _ q7.1.1
      have hBB := Lib.hid (hBf.trans (hB.mono hBf.size))
      replace hO := Lib.hid hO
      have hsz := hBf.size
      go_wp2
      refine bodyPost_ret (v := .tuple #[ov, zErr]) (by simp [results, Tryd.results38, go_sem, y0, y1, y2]) rfl ⟨_, _, rfl, below_set3 hBB.out (Nat.le_refl _) _ _ _, rfl, ?_⟩
      exact (((hO.out.setBelowBase (a := ⟨w.heap.size, 0, none⟩) hlt _).setBelowBase (a := ⟨w.heap.size, 1, none⟩) hlt _).setBelowBase (a := ⟨w.heap.size, 2, none⟩) hlt _).mono hsz
end Go.Proofs.YtmddapkhipmlgaaDoor
