/-
  Walks: edenref18.Fault.
-/
import Derived.Test.YtmddapkhipmlgaaDoorRef04
import Derived.Test.YtmddapkhipmlgaaDoorAdd
namespace Go.Proofs.YtmddapkhipmlgaaDoor
open Go.RowKit
set_option maxRecDepth 100000

theorem f18_k1 (k : Int) (v : Value) (w : World) (h : k < 1) :
    Calls Tryd.prog 82 #[.int .i64 k, v] w (Ret1 (fun x w' => EOwn w.heap.size w' (fresh sAdditive 0 3) x) w) := by
  have b0 := belowAlloc w (.cells #[.int .i64 0, .slice none 0 0, .slice none 0 0] 55)
  go_enter Tryd.func82, Tryd.ntmps82
  go_wp2_with fail
  refine (raw_new _ _ _ _).mono ?_
  rintro e w1 ⟨x, rfl, b1, he⟩
  obtain ⟨q, a1, n1, c1, a2, n2, c2, rfl⟩ := he.shape
  obtain ⟨y0, y1, y2, f0, f1, f2⟩ := cells3 b1
  replace he := Lib.hid he
  go_wp2
  exact bodyPost_ret (v := .agg #[.int .i64 q, .slice a1 n1 c1, .slice a2 n2 c2]) (by simp [results, Tryd.results82, go_sem, y0, y1, y2]) rfl ⟨_, rfl, below_set3 (Below.step b0 b1) (Nat.le_refl _) _ _ _, (he.out.set3 (by simp) _ _ _).mono (by simp)⟩

theorem f18_k4 (k : Int) (v : Value) (w : World) (h : 4 < k) :
    Calls Tryd.prog 82 #[.int .i64 k, v] w (Ret1 (fun x w' => EOwn w.heap.size w' (fresh sAdditive 0 3) x) w) := by
  have b0 := belowAlloc w (.cells #[.int .i64 0, .slice none 0 0, .slice none 0 0] 55)
  have h1 : ¬ k < 1 := by omega
  go_enter Tryd.func82, Tryd.ntmps82
  go_wp2_with fail
  refine (raw_new _ _ _ _).mono ?_
  rintro e w1 ⟨x, rfl, b1, he⟩
  obtain ⟨q, a1, n1, c1, a2, n2, c2, rfl⟩ := he.shape
  obtain ⟨y0, y1, y2, f0, f1, f2⟩ := cells3 b1
  replace he := Lib.hid he
  go_wp2
  exact bodyPost_ret (v := .agg #[.int .i64 q, .slice a1 n1 c1, .slice a2 n2 c2]) (by simp [results, Tryd.results82, go_sem, y0, y1, y2]) rfl ⟨_, rfl, below_set3 (Below.step b0 b1) (Nat.le_refl _) _ _ _, (he.out.set3 (by simp) _ _ _).mono (by simp)⟩

theorem f18_even (K : Nat) (v : Value) (f : List Int) (w : World) (hf : IntsAt w v f) (h1 : 1 ≤ K) (h4 : K ≤ 4) (h : f.length % 2 = 0) :
    Calls Tryd.prog 82 #[.int .i64 K, v] w (Ret1 (fun x w' => EOwn w.heap.size w' (fresh sAdditive 1 3) x) w) := by
  have b0 := belowAlloc w (.cells #[.int .i64 0, .slice none 0 0, .slice none 0 0] 55)
  have hlen := hf.len
  have hm := hf.len_le
  have hb : ((f.length : Int) % 2 == 0) = true := by rw [beq_iff_eq]; omega
  clear hf h
  go_enter Tryd.func82, Tryd.ntmps82
  go_wp2_with fail
  refine (raw_new _ _ _ _).mono ?_
  rintro e w1 ⟨x, rfl, b1, he⟩
  obtain ⟨q, a1, n1, c1, a2, n2, c2, rfl⟩ := he.shape
  obtain ⟨y0, y1, y2, f0, f1, f2⟩ := cells3 b1
  replace he := Lib.hid he
  go_wp2
  exact bodyPost_ret (v := .agg #[.int .i64 q, .slice a1 n1 c1, .slice a2 n2 c2]) (by simp [results, Tryd.results82, go_sem, y0, y1, y2]) rfl ⟨_, rfl, below_set3 (Below.step b0 b1) (Nat.le_refl _) _ _ _, (he.out.set3 (by simp) _ _ _).mono (by simp)⟩

theorem f18_long (K : Nat) (v : Value) (f : List Int) (w : World) (hf : IntsAt w v f) (h1 : 1 ≤ K) (h4 : K ≤ 4) (h : f.length % 2 = 1) (h7 : 7 < f.length) :
    Calls Tryd.prog 82 #[.int .i64 K, v] w (Ret1 (fun x w' => EOwn w.heap.size w' (fresh sAdditive 1 3) x) w) := by
  have b0 := belowAlloc w (.cells #[.int .i64 0, .slice none 0 0, .slice none 0 0] 55)
  have hlen := hf.len
  have hm := hf.len_le
  have hb : ((f.length : Int) % 2 == 0) = false := by rw [beq_eq_false_iff_ne]; omega
  clear hf h
  go_enter Tryd.func82, Tryd.ntmps82
  go_wp2_with fail
  refine (raw_new _ _ _ _).mono ?_
  rintro e w1 ⟨x, rfl, b1, he⟩
  obtain ⟨q, a1, n1, c1, a2, n2, c2, rfl⟩ := he.shape
  obtain ⟨y0, y1, y2, f0, f1, f2⟩ := cells3 b1
  replace he := Lib.hid he
  go_wp2
  exact bodyPost_ret (v := .agg #[.int .i64 q, .slice a1 n1 c1, .slice a2 n2 c2]) (by simp [results, Tryd.results82, go_sem, y0, y1, y2]) rfl ⟨_, rfl, below_set3 (Below.step b0 b1) (Nat.le_refl _) _ _ _, (he.out.set3 (by simp) _ _ _).mono (by simp)⟩

theorem f18_odd (K : Nat) (v : Value) (f : List Int) (i : Nat) (w : World) (hf : IntsAt w v f) (h1 : 1 ≤ K) (h4 : K ≤ 4) (h : f.length % 2 = 1) (h7 : f.length ≤ 7) (hi : idxOf (odd1 K) f = i) :
    Calls Tryd.prog 82 #[.int .i64 K, v] w (Ret1 (fun x w' => EOwn w.heap.size w' (fresh sAdditive i 2) x) w) := by
  have b0 := belowAlloc w (.cells #[.int .i64 0, .slice none 0 0, .slice none 0 0] 55)
  have hlen := hf.len
  have hm := hf.len_le
  have hb : ((f.length : Int) % 2 == 0) = false := by rw [beq_eq_false_iff_ne]; omega
  replace hf := Lib.hid (hf.below b0)
  replace hi := Lib.hid hi
  clear h
  go_enter Tryd.func82, Tryd.ntmps82
  go_wp2_with fail
  refine (ref_bad K v f _ hf.out).mono ?_
  rintro e w1 ⟨rfl, rfl⟩
  rw [hi.out]
  go_wp2_with fail
  refine (raw_new _ _ _ _).mono ?_
  rintro e w1 ⟨x, rfl, b1, he⟩
  obtain ⟨q, a1, n1, c1, a2, n2, c2, rfl⟩ := he.shape
  obtain ⟨y0, y1, y2, f0, f1, f2⟩ := cells3 b1
  replace he := Lib.hid he
  go_wp2
  exact bodyPost_ret (v := .agg #[.int .i64 q, .slice a1 n1 c1, .slice a2 n2 c2]) (by simp [results, Tryd.results82, go_sem, y0, y1, y2]) rfl ⟨_, rfl, below_set3 (Below.step b0 b1) (Nat.le_refl _) _ _ _, (he.out.set3 (by simp) _ _ _).mono (by simp)⟩

theorem f18_ok (K : Nat) (v : Value) (f : List Int) (w : World) (hf : IntsAt w v f) (h1 : 1 ≤ K) (h4 : K ≤ 4) (h : f.length % 2 = 1) (h7 : f.length ≤ 7) (hs : Syms K f) :
    Calls Tryd.prog 82 #[.int .i64 K, v] w (Ret1 (fun x _ => x = zErr) w) := by
  have b0 := belowAlloc w (.cells #[.int .i64 0, .slice none 0 0, .slice none 0 0] 55)
  have hlen := hf.len
  have hm := hf.len_le
  have hb : ((f.length : Int) % 2 == 0) = false := by rw [beq_eq_false_iff_ne]; omega
  replace hf := Lib.hid (hf.below b0)
  have hi := Lib.hid hs.odd
  clear h hs
  go_enter Tryd.func82, Tryd.ntmps82
  go_wp2_with fail
  refine (ref_bad K v f _ hf.out).mono ?_
  rintro e w1 ⟨rfl, rfl⟩
  rw [hi.out]
  go_wp2
  exact bodyPost_ret (v := zErr) (by simp [results, Tryd.results82, go_sem]) rfl ⟨_, rfl, b0, rfl⟩

/-- edenref18.Fault at all factors. -/
theorem f18_any (k : Int) (v : Value) (f : List Int) (w : World) (hf : IntsAt w v f) :
    Calls Tryd.prog 82 #[.int .i64 k, v] w (Ret1 (fun x w' => EOwn w.heap.size w' (factP k f) x) w) := by
  by_cases h1 : k < 1
  · rw [factP, if_pos (.inl h1)]; exact f18_k1 k v w h1
  by_cases h2 : 4 < k
  · rw [factP, if_pos (.inr h2)]; exact f18_k4 k v w h2
  obtain ⟨K, rfl⟩ := Int.eq_ofNat_of_zero_le (show 0 ≤ k by omega)
  rw [factP, if_neg (by omega)]
  by_cases h3 : f.length % 2 = 0
  · rw [if_pos (by simp [oddP, h3])]; exact f18_even K v f w hf (by omega) (by omega) h3
  by_cases h4 : 7 < f.length
  · rw [if_pos (by simp [oddP]; omega)]; exact f18_long K v f w hf (by omega) (by omega) (by omega) h4
  rw [if_neg (by simp [oddP]; omega)]
  rcases syms_or K f with hs | ⟨i, hi, hlt⟩
  · rw [hs.num]; exact (f18_ok K v f w hf (by omega) (by omega) (by omega) (by omega) hs).mono fun _ _ ⟨x, a, b, c⟩ => ⟨x, a, b, c⟩
  · rw [numP, if_neg (by omega), hi, Int.zero_add]; exact f18_odd K v f i w hf (by omega) (by omega) (by omega) (by omega) hi
end Go.Proofs.YtmddapkhipmlgaaDoor
