/-
  Proved: the law edenlaw19.PermutAll as its tied card: it returns true and never panics, for every rule and any two lists. No conditions beyond the card's own.
  Walks: edenref19.Right, edenref19.Left.
  Plain mathematics: the reference's product, entry by entry.
  Walk: edenref18.Mul.
  Walks: edenref18.Onto, One, Mul at all factors.
  Walks: edenlaw18's helpers.
  Walk: additive.Mul.
  Walk: edenlaw18.AddKeeps returns true.
  The contracts that AddAll asks, of the program and of the reference, in one form: lists read, a bool, an error.
  Walks: edenlaw19.awake.
  The contracts that PermutAll asks, of the program and of the reference, in one form.
  Walk: edenlaw19.PermutAll returns true.
  Opening what a call is handed: []int, api.Rule, the package-level errors.
  From a card's list of laid variables that holds the handle of the type error: the package errors and errors.errorType.
-/
import Derived.Test.YtmddapkhipmlgaaDoorMPa4
import Derived.Test.YtmddapkhipmlgaaDoorRows
import Derived.ProofKit
import Derived.OpenShut
import Derived.ShutString
import Derived.ChangeOld
import Derived.LaidMore
import Derived.Stop.Joined
import Derived.Stop.LaidErr
import Derived.Lib.SmallJoins
import Derived.LaidHandle
import Derived.Test.YtmddapkhipmlgaaDoorCards
import Derived.Test.YtmddapkhipmlgaaDoorTie
import Derived.SevenTiedAt
namespace Go.Proofs.YtmddapkhipmlgaaDoor
open Go.RowKit
set_option maxRecDepth 100000

theorem checkM_num {K R : Nat} {xs ys : List Int} {t : Int × List (ByteArray × Int)} (h : checkM K R xs ys = some t) : 1 ≤ t.1 ∧ t.1 ≤ 11 ∧ t.2.length = 1 := by
  unfold checkM fresh at h
  split at h
  · cases h; simp
  · split at h
    · cases h; simp
    · split at h
      · cases h
      · cases h; simp

theorem rgt19_bad1 (k R : Int) (va : Option Addr) (vn vc : Nat) (xs : List Int) (u v : Value) (t : Int × List (ByteArray × Int)) (w : World) (h : IntsAt w (.slice va vn vc) xs) (hc : checkP k R xs = some t) :
    Calls Tryd.prog 41 #[.agg #[.int .i64 k, .int .i64 R, .slice va vn vc], u, v] w (Ret2 (fun x y w' => x = .slice none 0 0 ∧ EOwn w.heap.size w' (under sPermut 0 (some t)) y) w) := by
  have b0 := Below.step (belowAlloc w (.cells #[.int .i64 k, .int .i64 R, .slice va vn vc] 24)) (belowAlloc _ (.cells #[.int .i64 0, .slice none 0 0, .slice none 0 0] 55))
  have q7 : Box3 ((w.alloc (.cells #[.int .i64 k, .int .i64 R, .slice va vn vc] 24)).alloc (.cells #[.int .i64 0, .slice none 0 0, .slice none 0 0] 55)) (w.heap.size + 1) (.int .i64 0) (.slice none 0 0) (.slice none 0 0) := by simp [Box3, go_sem]
  obtain ⟨hn1, hl1⟩ := checkP_num hc
  replace h := Lib.hid (h.below b0)
  obtain ⟨n, l⟩ := t
  simp only at hn1 hl1
  have hnb : (n != 0) = true := by rw [bne_iff_ne]; omega
  replace hn1 := Lib.hid hn1
  go_enter Tryd.func41, Tryd.ntmps41
  go_wp2_with fail
  refine (sides19_bad k R va vn vc xs _ _ h.out hc).mono ?_
  rintro e w1 ⟨_, _, x2, rfl, b1, rfl, rfl, he2⟩
  obtain ⟨a1, n1, c1, a2, n2, c2, rfl, hs1, hs2⟩ := he2
  have he2 : EOwn ((w.alloc (.cells #[.int .i64 k, .int .i64 R, .slice va vn vc] 24)).alloc (.cells #[.int .i64 0, .slice none 0 0, .slice none 0 0] 55)).heap.size w1 (under sPermut 0 (some (n, l))) (.agg #[.int .i64 n, .slice a1 n1 c1, .slice a2 n2 c2]) := ⟨_, _, _, _, _, _, rfl, hs1, hs2⟩
  clear hs1 hs2
  replace he2 := Lib.hid he2
  go_wp2_with fail
  refine (err_bad n a1 n1 c1 a2 n2 c2 _).mono ?_
  rintro e w3 ⟨x, rfl, b3, rfl⟩
  have b13 := Below.step (belowAlloc w1 (.cells #[.int .i64 n, .slice a1 n1 c1, .slice a2 n2 c2] 55)) b3
  obtain ⟨⟨y0, y1, y2⟩, f0, f1, f2⟩ := q7.below (Below.step b1 b13)
  obtain ⟨x0, x1, x2⟩ := keep3 (n := w1.heap.size) (a := .int .i64 n) (b := .slice a1 n1 c1) (c := .slice a2 n2 c2) b3 ⟨by simp, by simp, by simp⟩
  have hEf := Lib.hid (he2.out.below b13)
  have hBf := Lib.hid (Below.step b0 (Below.step b1 b13))
  go_wp2
  go_region
  go_wp2
  refine bodyPost_ret (v := .tuple #[.slice none 0 0, .agg #[.int .i64 n, .slice a1 n1 c1, .slice a2 n2 c2]]) (by simp [results, Tryd.results41, go_sem, y0, y1, y2]) rfl ⟨_, _, rfl, ?_, rfl, ?_⟩
  · exact (below_set3 hBf.out (Nat.le_succ _) _ _ _).drew
  · exact ((hEf.out.set3 (by simp) _ _ _).mono (by simp; omega)).drew

theorem rgt19_bad2 (K R : Nat) (va : Option Addr) (vn vc : Nat) (T : List Int) (u v : Value) (w : World) (h : IntsAt w (.slice va vn vc) T) (hr : RuleOk K R T) (hp : unlikeP K T 1 = false) :
    Calls Tryd.prog 41 #[.agg #[.int .i64 K, .int .i64 R, .slice va vn vc], u, v] w (Ret2 (fun x y w' => x = .slice none 0 0 ∧ EOwn w.heap.size w' (fresh sPermut 0 3) y) w) := by
  have b0 := Below.step (belowAlloc w (.cells #[.int .i64 K, .int .i64 R, .slice va vn vc] 24)) (belowAlloc _ (.cells #[.int .i64 0, .slice none 0 0, .slice none 0 0] 55))
  have q7 : Box3 ((w.alloc (.cells #[.int .i64 K, .int .i64 R, .slice va vn vc] 24)).alloc (.cells #[.int .i64 0, .slice none 0 0, .slice none 0 0] 55)) (w.heap.size + 1) (.int .i64 0) (.slice none 0 0) (.slice none 0 0) := by simp [Box3, go_sem]
  replace h := Lib.hid (h.below b0)
  replace hr := Lib.hid hr
  go_enter Tryd.func41, Tryd.ntmps41
  go_wp2_with fail
  refine (sides19_ok K R va vn vc T _ h.out hr.out).mono ?_
  rintro e w1 ⟨_, _, x2, rfl, b1, rfl, rfl, rfl⟩
  go_wp2_with fail
  refine (err_bad 0 none 0 0 none 0 0 _).mono ?_
  rintro e w3 ⟨x, rfl, b3, rfl⟩
  have b13 := Below.step (belowAlloc w1 (.cells #[.int .i64 0, .slice none 0 0, .slice none 0 0] 55)) b3
  have q7' := q7.below (Below.step b1 b13)
  have hBf := Lib.hid (Below.step b0 (Below.step b1 b13))
  have s1 := (Below.step b1 b13).size
  simp only [World.size_alloc] at s1
  go_wp2_with fail
  refine (raw_new _ _ _ _).mono ?_
  rintro e w4 ⟨x, rfl, b4, he⟩
  obtain ⟨q, a1, n1, c1, a2, n2, c2, rfl⟩ := he.shape
  obtain ⟨⟨y0, y1, y2⟩, f0, f1, f2⟩ := q7'.below b4
  replace he := Lib.hid he
  go_wp2
  refine bodyPost_ret (v := .tuple #[.slice none 0 0, .agg #[.int .i64 q, .slice a1 n1 c1, .slice a2 n2 c2]]) (by simp [results, Tryd.results41, go_sem, y0, y1, y2]) rfl ⟨_, _, rfl, below_set3 (Below.step hBf.out b4) (Nat.le_succ _) _ _ _, rfl, (he.out.set3 (by omega) _ _ _).mono (by omega)⟩

set_option maxHeartbeats 1000000 in
theorem rgt19_bad3 (K R : Nat) (va : Option Addr) (vn vc : Nat) (T : List Int) (u v : Value) (ys zs : List Int) (t : Int × List (ByteArray × Int)) (w : World) (h : IntsAt w (.slice va vn vc) T) (hr : RuleOk K R T) (hp : unlikeP K T 1 = true)
    (hu : IntsAt w u ys) (hv : IntsAt w v zs) (hc : checkM K R ys zs = some t) :
    Calls Tryd.prog 41 #[.agg #[.int .i64 K, .int .i64 R, .slice va vn vc], u, v] w (Ret2 (fun x y w' => x = .slice none 0 0 ∧ EOwn w.heap.size w' (some t) y) w) := by
  have b0 := Below.step (belowAlloc w (.cells #[.int .i64 K, .int .i64 R, .slice va vn vc] 24)) (belowAlloc _ (.cells #[.int .i64 0, .slice none 0 0, .slice none 0 0] 55))
  have q7 : Box3 ((w.alloc (.cells #[.int .i64 K, .int .i64 R, .slice va vn vc] 24)).alloc (.cells #[.int .i64 0, .slice none 0 0, .slice none 0 0] 55)) (w.heap.size + 1) (.int .i64 0) (.slice none 0 0) (.slice none 0 0) := by simp [Box3, go_sem]
  have q3 : Box3 ((w.alloc (.cells #[.int .i64 K, .int .i64 R, .slice va vn vc] 24)).alloc (.cells #[.int .i64 0, .slice none 0 0, .slice none 0 0] 55)) w.heap.size (.int .i64 K) (.int .i64 R) (.slice va vn vc) := by simp [Box3, go_sem]
  obtain ⟨hn1, hn2, hl1⟩ := checkM_num hc
  have hR3 := hr.r3
  replace h := Lib.hid (h.below b0)
  replace hu := Lib.hid (hu.below b0)
  replace hv := Lib.hid (hv.below b0)
  replace hr := Lib.hid hr
  replace hc := Lib.hid hc
  obtain ⟨n, l⟩ := t
  simp only at hn1 hn2 hl1
  have hnb : (n != 0) = true := by rw [bne_iff_ne]; omega
  replace hn1 := Lib.hid hn1
  go_enter Tryd.func41, Tryd.ntmps41
  go_wp2_with fail
  refine (sides19_ok K R va vn vc T _ h.out hr.out).mono ?_
  rintro e w1 ⟨_, _, x2, rfl, b1, rfl, rfl, rfl⟩
  have qe : Box3 (w1.alloc (.cells #[.int .i64 0, .slice none 0 0, .slice none 0 0] 55)) w1.heap.size (.int .i64 0) (.slice none 0 0) (.slice none 0 0) := by simp [Box3, go_sem]
  go_wp2_with fail
  refine (err_bad 0 none 0 0 none 0 0 _).mono ?_
  rintro e w3 ⟨x, rfl, b3, rfl⟩
  have b13 := Below.step b1 (Below.step (belowAlloc w1 (.cells #[.int .i64 0, .slice none 0 0, .slice none 0 0] 55)) b3)
  have q3' := q3.below b13
  obtain ⟨⟨z0, z1, z2⟩, -, -, -⟩ := q3'
  have s1 := b1.size
  have s13 := b13.size
  simp only [World.size_alloc] at s1 s13
  have s3 := b3.size
  simp only [World.size_alloc] at s3
  go_wp2_with fail
  refine (f19_any K R va vn vc u v ys zs _ (hu.out.below b13) (hv.out.below b13) hR3).mono ?_
  rintro e w4 ⟨x, rfl, b4, he⟩
  rw [hc.out] at he
  obtain ⟨a1, n1, c1, a2, n2, c2, rfl, hs1, hs2⟩ := he
  have he : EOwn w3.heap.size w4 (some (n, l)) (.agg #[.int .i64 n, .slice a1 n1 c1, .slice a2 n2 c2]) := ⟨_, _, _, _, _, _, rfl, hs1, hs2⟩
  clear hs1 hs2
  have qe4 := qe.below (Below.step b3 b4)
  have q74 := q7.below (Below.step b13 b4)
  have hB4 := Below.step b0 (Below.step b13 b4)
  obtain ⟨S, hS⟩ : ∃ S, S = st3 w4 w1.heap.size (.int .i64 n) (.slice a1 n1 c1) (.slice a2 n2 c2) := ⟨_, rfl⟩
  have eS : EOwn w3.heap.size S (some (n, l)) (.agg #[.int .i64 n, .slice a1 n1 c1, .slice a2 n2 c2]) := by rw [hS]; exact he.set3 (b := w1.heap.size) (by omega) _ _ _
  have qeS : Box3 S _ _ _ _ := hS ▸ qe4.st3 (.int .i64 n) (.slice a1 n1 c1) (.slice a2 n2 c2)
  have q7S : Box3 S (w.heap.size + 1) _ _ _ := hS ▸ q74.st3_far (show w1.heap.size ≠ w.heap.size + 1 by omega) _ _ _
  have hBS : Below _ _ S := hS ▸ below_st3 hB4 (show w.heap.size ≤ w1.heap.size by omega) _ _ _
  obtain ⟨⟨y0, y1, y2⟩, g0, g1, g2⟩ := qe4
  obtain ⟨⟨k0, k1, k2⟩, -, -, -⟩ := qeS
  replace he := Lib.hid he
  go_wp2_with fail
  rw [show (((w4.setCell ⟨w1.heap.size, 0, none⟩ (.int .i64 n)).setCell ⟨w1.heap.size, 1, none⟩ (.slice a1 n1 c1)).setCell ⟨w1.heap.size, 2, none⟩ (.slice a2 n2 c2)) = S from hS.symm]
  clear hS y0 y1 y2 g0 g1 g2 he
  refine (err_bad n a1 n1 c1 a2 n2 c2 _).mono ?_
  rintro e w5 ⟨x, rfl, b5, rfl⟩
  obtain ⟨x0, x1, x2⟩ := keep3 (n := w1.heap.size) b5 ⟨k0, k1, k2⟩
  obtain ⟨⟨y0, y1, y2⟩, f0, f1, f2⟩ := q7S.below b5
  have hEf := Lib.hid (eS.below b5)
  have hBf := Lib.hid (Below.step hBS b5)
  clear k0 k1 k2 eS
  go_wp2
  go_region
  go_wp2
  refine bodyPost_ret (v := .tuple #[.slice none 0 0, .agg #[.int .i64 n, .slice a1 n1 c1, .slice a2 n2 c2]]) (by simp [results, Tryd.results41, go_sem, y0, y1, y2]) rfl ⟨_, _, rfl, ?_, rfl, ?_⟩
  · exact (below_set3 hBf.out (Nat.le_succ _) _ _ _).drew
  · exact ((hEf.out.set3 (by omega) _ _ _).mono (by omega)).drew

theorem lft19_bad1 (k R : Int) (va : Option Addr) (vn vc : Nat) (xs : List Int) (u v : Value) (t : Int × List (ByteArray × Int)) (w : World) (h : IntsAt w (.slice va vn vc) xs) (hc : checkP k R xs = some t) :
    Calls Tryd.prog 42 #[.agg #[.int .i64 k, .int .i64 R, .slice va vn vc], u, v] w (Ret2 (fun x y w' => x = .slice none 0 0 ∧ EOwn w.heap.size w' (under sPermut 0 (some t)) y) w) := by
  have b0 := Below.step (belowAlloc w (.cells #[.int .i64 k, .int .i64 R, .slice va vn vc] 24)) (belowAlloc _ (.cells #[.int .i64 0, .slice none 0 0, .slice none 0 0] 55))
  have q7 : Box3 ((w.alloc (.cells #[.int .i64 k, .int .i64 R, .slice va vn vc] 24)).alloc (.cells #[.int .i64 0, .slice none 0 0, .slice none 0 0] 55)) (w.heap.size + 1) (.int .i64 0) (.slice none 0 0) (.slice none 0 0) := by simp [Box3, go_sem]
  obtain ⟨hn1, hl1⟩ := checkP_num hc
  replace h := Lib.hid (h.below b0)
  obtain ⟨n, l⟩ := t
  simp only at hn1 hl1
  have hnb : (n != 0) = true := by rw [bne_iff_ne]; omega
  replace hn1 := Lib.hid hn1
  go_enter Tryd.func42, Tryd.ntmps42
  go_wp2_with fail
  refine (sides19_bad k R va vn vc xs _ _ h.out hc).mono ?_
  rintro e w1 ⟨_, _, x2, rfl, b1, rfl, rfl, he2⟩
  obtain ⟨a1, n1, c1, a2, n2, c2, rfl, hs1, hs2⟩ := he2
  have he2 : EOwn ((w.alloc (.cells #[.int .i64 k, .int .i64 R, .slice va vn vc] 24)).alloc (.cells #[.int .i64 0, .slice none 0 0, .slice none 0 0] 55)).heap.size w1 (under sPermut 0 (some (n, l))) (.agg #[.int .i64 n, .slice a1 n1 c1, .slice a2 n2 c2]) := ⟨_, _, _, _, _, _, rfl, hs1, hs2⟩
  clear hs1 hs2
  replace he2 := Lib.hid he2
  go_wp2_with fail
  refine (err_bad n a1 n1 c1 a2 n2 c2 _).mono ?_
  rintro e w3 ⟨x, rfl, b3, rfl⟩
  have b13 := Below.step (belowAlloc w1 (.cells #[.int .i64 n, .slice a1 n1 c1, .slice a2 n2 c2] 55)) b3
  obtain ⟨⟨y0, y1, y2⟩, f0, f1, f2⟩ := q7.below (Below.step b1 b13)
  obtain ⟨x0, x1, x2⟩ := keep3 (n := w1.heap.size) (a := .int .i64 n) (b := .slice a1 n1 c1) (c := .slice a2 n2 c2) b3 ⟨by simp, by simp, by simp⟩
  have hEf := Lib.hid (he2.out.below b13)
  have hBf := Lib.hid (Below.step b0 (Below.step b1 b13))
  go_wp2
  go_region
  go_wp2
  refine bodyPost_ret (v := .tuple #[.slice none 0 0, .agg #[.int .i64 n, .slice a1 n1 c1, .slice a2 n2 c2]]) (by simp [results, Tryd.results42, go_sem, y0, y1, y2]) rfl ⟨_, _, rfl, ?_, rfl, ?_⟩
  · exact (below_set3 hBf.out (Nat.le_succ _) _ _ _).drew
  · exact ((hEf.out.set3 (by simp) _ _ _).mono (by simp; omega)).drew

theorem lft19_bad2 (K R : Nat) (va : Option Addr) (vn vc : Nat) (T : List Int) (u v : Value) (w : World) (h : IntsAt w (.slice va vn vc) T) (hr : RuleOk K R T) (hp : unlikeP K T (T.length / K) = false) :
    Calls Tryd.prog 42 #[.agg #[.int .i64 K, .int .i64 R, .slice va vn vc], u, v] w (Ret2 (fun x y w' => x = .slice none 0 0 ∧ EOwn w.heap.size w' (fresh sPermut 0 3) y) w) := by
  have b0 := Below.step (belowAlloc w (.cells #[.int .i64 K, .int .i64 R, .slice va vn vc] 24)) (belowAlloc _ (.cells #[.int .i64 0, .slice none 0 0, .slice none 0 0] 55))
  have q7 : Box3 ((w.alloc (.cells #[.int .i64 K, .int .i64 R, .slice va vn vc] 24)).alloc (.cells #[.int .i64 0, .slice none 0 0, .slice none 0 0] 55)) (w.heap.size + 1) (.int .i64 0) (.slice none 0 0) (.slice none 0 0) := by simp [Box3, go_sem]
  replace h := Lib.hid (h.below b0)
  replace hr := Lib.hid hr
  go_enter Tryd.func42, Tryd.ntmps42
  go_wp2_with fail
  refine (sides19_ok K R va vn vc T _ h.out hr.out).mono ?_
  rintro e w1 ⟨_, _, x2, rfl, b1, rfl, rfl, rfl⟩
  go_wp2_with fail
  refine (err_bad 0 none 0 0 none 0 0 _).mono ?_
  rintro e w3 ⟨x, rfl, b3, rfl⟩
  have b13 := Below.step (belowAlloc w1 (.cells #[.int .i64 0, .slice none 0 0, .slice none 0 0] 55)) b3
  have q7' := q7.below (Below.step b1 b13)
  have hBf := Lib.hid (Below.step b0 (Below.step b1 b13))
  have s1 := (Below.step b1 b13).size
  simp only [World.size_alloc] at s1
  go_wp2_with fail
  refine (raw_new _ _ _ _).mono ?_
  rintro e w4 ⟨x, rfl, b4, he⟩
  obtain ⟨q, a1, n1, c1, a2, n2, c2, rfl⟩ := he.shape
  obtain ⟨⟨y0, y1, y2⟩, f0, f1, f2⟩ := q7'.below b4
  replace he := Lib.hid he
  go_wp2
  refine bodyPost_ret (v := .tuple #[.slice none 0 0, .agg #[.int .i64 q, .slice a1 n1 c1, .slice a2 n2 c2]]) (by simp [results, Tryd.results42, go_sem, y0, y1, y2]) rfl ⟨_, _, rfl, below_set3 (Below.step hBf.out b4) (Nat.le_succ _) _ _ _, rfl, (he.out.set3 (by omega) _ _ _).mono (by omega)⟩

set_option maxHeartbeats 1000000 in
theorem lft19_bad3 (K R : Nat) (va : Option Addr) (vn vc : Nat) (T : List Int) (u v : Value) (ys zs : List Int) (t : Int × List (ByteArray × Int)) (w : World) (h : IntsAt w (.slice va vn vc) T) (hr : RuleOk K R T) (hp : unlikeP K T (T.length / K) = true)
    (hu : IntsAt w u ys) (hv : IntsAt w v zs) (hc : checkM K R ys zs = some t) :
    Calls Tryd.prog 42 #[.agg #[.int .i64 K, .int .i64 R, .slice va vn vc], u, v] w (Ret2 (fun x y w' => x = .slice none 0 0 ∧ EOwn w.heap.size w' (some t) y) w) := by
  have b0 := Below.step (belowAlloc w (.cells #[.int .i64 K, .int .i64 R, .slice va vn vc] 24)) (belowAlloc _ (.cells #[.int .i64 0, .slice none 0 0, .slice none 0 0] 55))
  have q7 : Box3 ((w.alloc (.cells #[.int .i64 K, .int .i64 R, .slice va vn vc] 24)).alloc (.cells #[.int .i64 0, .slice none 0 0, .slice none 0 0] 55)) (w.heap.size + 1) (.int .i64 0) (.slice none 0 0) (.slice none 0 0) := by simp [Box3, go_sem]
  have q3 : Box3 ((w.alloc (.cells #[.int .i64 K, .int .i64 R, .slice va vn vc] 24)).alloc (.cells #[.int .i64 0, .slice none 0 0, .slice none 0 0] 55)) w.heap.size (.int .i64 K) (.int .i64 R) (.slice va vn vc) := by simp [Box3, go_sem]
  obtain ⟨hn1, hn2, hl1⟩ := checkM_num hc
  have hR3 := hr.r3
  replace h := Lib.hid (h.below b0)
  replace hu := Lib.hid (hu.below b0)
  replace hv := Lib.hid (hv.below b0)
  replace hr := Lib.hid hr
  replace hc := Lib.hid hc
  obtain ⟨n, l⟩ := t
  simp only at hn1 hn2 hl1
  have hnb : (n != 0) = true := by rw [bne_iff_ne]; omega
  replace hn1 := Lib.hid hn1
  go_enter Tryd.func42, Tryd.ntmps42
  go_wp2_with fail
  refine (sides19_ok K R va vn vc T _ h.out hr.out).mono ?_
  rintro e w1 ⟨_, _, x2, rfl, b1, rfl, rfl, rfl⟩
  have qe : Box3 (w1.alloc (.cells #[.int .i64 0, .slice none 0 0, .slice none 0 0] 55)) w1.heap.size (.int .i64 0) (.slice none 0 0) (.slice none 0 0) := by simp [Box3, go_sem]
  go_wp2_with fail
  refine (err_bad 0 none 0 0 none 0 0 _).mono ?_
  rintro e w3 ⟨x, rfl, b3, rfl⟩
  have b13 := Below.step b1 (Below.step (belowAlloc w1 (.cells #[.int .i64 0, .slice none 0 0, .slice none 0 0] 55)) b3)
  have q3' := q3.below b13
  obtain ⟨⟨z0, z1, z2⟩, -, -, -⟩ := q3'
  have s1 := b1.size
  have s13 := b13.size
  simp only [World.size_alloc] at s1 s13
  have s3 := b3.size
  simp only [World.size_alloc] at s3
  go_wp2_with fail
  refine (f19_any K R va vn vc u v ys zs _ (hu.out.below b13) (hv.out.below b13) hR3).mono ?_
  rintro e w4 ⟨x, rfl, b4, he⟩
  rw [hc.out] at he
  obtain ⟨a1, n1, c1, a2, n2, c2, rfl, hs1, hs2⟩ := he
  have he : EOwn w3.heap.size w4 (some (n, l)) (.agg #[.int .i64 n, .slice a1 n1 c1, .slice a2 n2 c2]) := ⟨_, _, _, _, _, _, rfl, hs1, hs2⟩
  clear hs1 hs2
  have qe4 := qe.below (Below.step b3 b4)
  have q74 := q7.below (Below.step b13 b4)
  have hB4 := Below.step b0 (Below.step b13 b4)
  obtain ⟨S, hS⟩ : ∃ S, S = st3 w4 w1.heap.size (.int .i64 n) (.slice a1 n1 c1) (.slice a2 n2 c2) := ⟨_, rfl⟩
  have eS : EOwn w3.heap.size S (some (n, l)) (.agg #[.int .i64 n, .slice a1 n1 c1, .slice a2 n2 c2]) := by rw [hS]; exact he.set3 (b := w1.heap.size) (by omega) _ _ _
  have qeS : Box3 S _ _ _ _ := hS ▸ qe4.st3 (.int .i64 n) (.slice a1 n1 c1) (.slice a2 n2 c2)
  have q7S : Box3 S (w.heap.size + 1) _ _ _ := hS ▸ q74.st3_far (show w1.heap.size ≠ w.heap.size + 1 by omega) _ _ _
  have hBS : Below _ _ S := hS ▸ below_st3 hB4 (show w.heap.size ≤ w1.heap.size by omega) _ _ _
  obtain ⟨⟨y0, y1, y2⟩, g0, g1, g2⟩ := qe4
  obtain ⟨⟨k0, k1, k2⟩, -, -, -⟩ := qeS
  replace he := Lib.hid he
  go_wp2_with fail
  rw [show (((w4.setCell ⟨w1.heap.size, 0, none⟩ (.int .i64 n)).setCell ⟨w1.heap.size, 1, none⟩ (.slice a1 n1 c1)).setCell ⟨w1.heap.size, 2, none⟩ (.slice a2 n2 c2)) = S from hS.symm]
  clear hS y0 y1 y2 g0 g1 g2 he
  refine (err_bad n a1 n1 c1 a2 n2 c2 _).mono ?_
  rintro e w5 ⟨x, rfl, b5, rfl⟩
  obtain ⟨x0, x1, x2⟩ := keep3 (n := w1.heap.size) b5 ⟨k0, k1, k2⟩
  obtain ⟨⟨y0, y1, y2⟩, f0, f1, f2⟩ := q7S.below b5
  have hEf := Lib.hid (eS.below b5)
  have hBf := Lib.hid (Below.step hBS b5)
  clear k0 k1 k2 eS
  go_wp2
  go_region
  go_wp2
  refine bodyPost_ret (v := .tuple #[.slice none 0 0, .agg #[.int .i64 n, .slice a1 n1 c1, .slice a2 n2 c2]]) (by simp [results, Tryd.results42, go_sem, y0, y1, y2]) rfl ⟨_, _, rfl, ?_, rfl, ?_⟩
  · exact (below_set3 hBf.out (Nat.le_succ _) _ _ _).drew
  · exact ((hEf.out.set3 (by omega) _ _ _).mono (by omega)).drew

set_option maxHeartbeats 1000000 in
theorem rgt19_ok (K R : Nat) (va : Option Addr) (vn vc : Nat) (T : List Int) (u v : Value) (ys zs : List Int) (w : World) (h : IntsAt w (.slice va vn vc) T) (hr : RuleOk K R T) (hp : unlikeP K T 1 = true)
    (hu : IntsAt w u ys) (hv : IntsAt w v zs) (hc : checkM K R ys zs = none) :
    Calls Tryd.prog 41 #[.agg #[.int .i64 K, .int .i64 R, .slice va vn vc], u, v] w (Ret2 (fun x y w' => OwnI w.heap.size w' x (zs ++ rightP K T (numW K zs) ys) ∧ y = zErr) w) := by
  have b0 := Below.step (belowAlloc w (.cells #[.int .i64 K, .int .i64 R, .slice va vn vc] 24)) (belowAlloc _ (.cells #[.int .i64 0, .slice none 0 0, .slice none 0 0] 55))
  have q7 : Box3 ((w.alloc (.cells #[.int .i64 K, .int .i64 R, .slice va vn vc] 24)).alloc (.cells #[.int .i64 0, .slice none 0 0, .slice none 0 0] 55)) (w.heap.size + 1) (.int .i64 0) (.slice none 0 0) (.slice none 0 0) := by simp [Box3, go_sem]
  have q3 : Box3 ((w.alloc (.cells #[.int .i64 K, .int .i64 R, .slice va vn vc] 24)).alloc (.cells #[.int .i64 0, .slice none 0 0, .slice none 0 0] 55)) w.heap.size (.int .i64 K) (.int .i64 R) (.slice va vn vc) := by simp [Box3, go_sem]
  obtain ⟨hyl, hzl, hys, hzs⟩ := checkM_none hc
  have hR3 := hr.r3
  replace h := Lib.hid (h.below b0)
  replace hu := Lib.hid (hu.below b0)
  replace hv := Lib.hid (hv.below b0)
  replace hr := Lib.hid hr
  replace hc := Lib.hid hc
  replace hzl := Lib.hid hzl
  replace hys := Lib.hid hys
  replace hzs := Lib.hid hzs
  go_enter Tryd.func41, Tryd.ntmps41
  go_wp2_with fail
  refine (sides19_ok K R va vn vc T _ h.out hr.out).mono ?_
  rintro e w1 ⟨_, _, x2, rfl, b1, rfl, rfl, rfl⟩
  have qe : Box3 (w1.alloc (.cells #[.int .i64 0, .slice none 0 0, .slice none 0 0] 55)) w1.heap.size (.int .i64 0) (.slice none 0 0) (.slice none 0 0) := by simp [Box3, go_sem]
  go_wp2_with fail
  refine (err_bad 0 none 0 0 none 0 0 _).mono ?_
  rintro e w3 ⟨x, rfl, b3, rfl⟩
  have b13 := Below.step b1 (Below.step (belowAlloc w1 (.cells #[.int .i64 0, .slice none 0 0, .slice none 0 0] 55)) b3)
  have q3' := q3.below b13
  have q3x := q3'
  obtain ⟨⟨z0, z1, z2⟩, -, -, -⟩ := q3x
  have s1 := b1.size
  have s13 := b13.size
  simp only [World.size_alloc] at s1 s13
  have s3 := b3.size
  simp only [World.size_alloc] at s3
  go_wp2_with fail
  refine (f19_any K R va vn vc u v ys zs _ (hu.out.below b13) (hv.out.below b13) hR3).mono ?_
  rintro e w4 ⟨x, rfl, b4, he⟩
  rw [hc.out] at he
  obtain rfl : x = zErr := he
  have qe4 := qe.below (Below.step b3 b4)
  have q74 := q7.below (Below.step b13 b4)
  have q34 := q3.below (Below.step b13 b4)
  have b04 := Below.step b13 b4
  have hS : st3 w4 w1.heap.size (.int .i64 0) (.slice none 0 0) (.slice none 0 0) = w4 := setCell_self3 qe4.1.1 qe4.1.2.1 qe4.1.2.2
  obtain ⟨⟨y0, y1, y2⟩, g0, g1, g2⟩ := qe4
  clear z0 z1 z2
  go_wp2_with fail
  clear hS g0 g1 g2
  refine (err_bad 0 none 0 0 none 0 0 _).mono ?_
  rintro e w5 ⟨x, rfl, b5, rfl⟩
  clear y0 y1 y2
  obtain ⟨⟨z0, z1, z2⟩, -, -, -⟩ := q34.below b5
  have b05 := Below.step b04 b5
  have q75 := q74.below b5
  have s5 := b05.size
  simp only [World.size_alloc] at s5
  go_wp2_with fail
  refine (on19_any K R va vn vc T u v ys zs _ (h.out.below b05) hr.out hp (hu.out.below b05) (hv.out.below b05) hys.out hzs.out hyl hzl.out).mono ?_
  rintro e w6 ⟨x, rfl, b6, ho⟩
  obtain ⟨⟨y0, y1, y2⟩, f0, f1, f2⟩ := q75.below b6
  have hBf := Lib.hid (Below.step b0 (Below.step b05 b6))
  replace ho := Lib.hid ho
  clear z0 z1 z2
  go_wp2
  refine bodyPost_ret (v := .tuple #[x, zErr]) (by simp [results, Tryd.results41, go_sem, y0, y1, y2]) rfl ⟨_, _, rfl, below_set3 hBf.out (Nat.le_succ _) _ _ _, ?_, rfl⟩
  exact (((ho.out.setBelowBase (a := ⟨w.heap.size + 1, 0, none⟩) (by simp; omega) _).setBelowBase (a := ⟨w.heap.size + 1, 1, none⟩) (by simp; omega) _).setBelowBase (a := ⟨w.heap.size + 1, 2, none⟩) (by simp; omega) _).mono (by omega)

set_option maxHeartbeats 1000000 in
theorem lft19_ok (K R : Nat) (va : Option Addr) (vn vc : Nat) (T : List Int) (u v : Value) (ys zs : List Int) (w : World) (h : IntsAt w (.slice va vn vc) T) (hr : RuleOk K R T) (hp : unlikeP K T (T.length / K) = true)
    (hu : IntsAt w u ys) (hv : IntsAt w v zs) (hc : checkM K R ys zs = none) :
    Calls Tryd.prog 42 #[.agg #[.int .i64 K, .int .i64 R, .slice va vn vc], u, v] w (Ret2 (fun x y w' => OwnI w.heap.size w' x ((leftS K T (numW K zs) ys).2 ++ zs) ∧ y = zErr) w) := by
  have b0 := Below.step (belowAlloc w (.cells #[.int .i64 K, .int .i64 R, .slice va vn vc] 24)) (belowAlloc _ (.cells #[.int .i64 0, .slice none 0 0, .slice none 0 0] 55))
  have q7 : Box3 ((w.alloc (.cells #[.int .i64 K, .int .i64 R, .slice va vn vc] 24)).alloc (.cells #[.int .i64 0, .slice none 0 0, .slice none 0 0] 55)) (w.heap.size + 1) (.int .i64 0) (.slice none 0 0) (.slice none 0 0) := by simp [Box3, go_sem]
  have q3 : Box3 ((w.alloc (.cells #[.int .i64 K, .int .i64 R, .slice va vn vc] 24)).alloc (.cells #[.int .i64 0, .slice none 0 0, .slice none 0 0] 55)) w.heap.size (.int .i64 K) (.int .i64 R) (.slice va vn vc) := by simp [Box3, go_sem]
  obtain ⟨hyl, hzl, hys, hzs⟩ := checkM_none hc
  have hR3 := hr.r3
  obtain ⟨uu, -, -, -, -, hLM⟩ := left_mirror hr zs ys hzs hzl
  rw [hLM]
  clear hLM uu
  have hpm : unlikeP K (mirT K (2 * R + 1) T) 1 = true := by rw [unlike_right (mirT_ok hr), ← unlike_left hr]; exact hp
  replace hpm := Lib.hid hpm
  have hrm := Lib.hid (mirT_ok hr)
  have hzl6 : zs.length ≤ 6 := by omega
  replace h := Lib.hid (h.below b0)
  replace hu := Lib.hid (hu.below b0)
  replace hv := Lib.hid (hv.below b0)
  replace hr := Lib.hid hr
  replace hc := Lib.hid hc
  replace hzl := Lib.hid hzl
  replace hys := Lib.hid hys
  replace hzs := Lib.hid hzs
  go_enter Tryd.func42, Tryd.ntmps42
  go_wp2_with fail
  refine (sides19_ok K R va vn vc T _ h.out hr.out).mono ?_
  rintro e w1 ⟨_, _, x2, rfl, b1, rfl, rfl, rfl⟩
  have qe : Box3 (w1.alloc (.cells #[.int .i64 0, .slice none 0 0, .slice none 0 0] 55)) w1.heap.size (.int .i64 0) (.slice none 0 0) (.slice none 0 0) := by simp [Box3, go_sem]
  go_wp2_with fail
  refine (err_bad 0 none 0 0 none 0 0 _).mono ?_
  rintro e w3 ⟨x, rfl, b3, rfl⟩
  have b13 := Below.step b1 (Below.step (belowAlloc w1 (.cells #[.int .i64 0, .slice none 0 0, .slice none 0 0] 55)) b3)
  have q3' := q3.below b13
  have q3x := q3'
  obtain ⟨⟨z0, z1, z2⟩, -, -, -⟩ := q3x
  have s1 := b1.size
  have s13 := b13.size
  simp only [World.size_alloc] at s1 s13
  have s3 := b3.size
  simp only [World.size_alloc] at s3
  go_wp2_with fail
  refine (f19_any K R va vn vc u v ys zs _ (hu.out.below b13) (hv.out.below b13) hR3).mono ?_
  rintro e w4 ⟨x, rfl, b4, he⟩
  rw [hc.out] at he
  obtain rfl : x = zErr := he
  have qe4 := qe.below (Below.step b3 b4)
  have q74 := q7.below (Below.step b13 b4)
  have q34 := q3.below (Below.step b13 b4)
  have b04 := Below.step b13 b4
  have hS : st3 w4 w1.heap.size (.int .i64 0) (.slice none 0 0) (.slice none 0 0) = w4 := setCell_self3 qe4.1.1 qe4.1.2.1 qe4.1.2.2
  obtain ⟨⟨y0, y1, y2⟩, g0, g1, g2⟩ := qe4
  clear z0 z1 z2
  go_wp2_with fail
  clear hS g0 g1 g2
  refine (err_bad 0 none 0 0 none 0 0 _).mono ?_
  rintro e w5 ⟨x, rfl, b5, rfl⟩
  clear y0 y1 y2
  obtain ⟨⟨z0, z1, z2⟩, -, -, -⟩ := q34.below b5
  have b05 := Below.step b04 b5
  have q75 := q74.below b5
  have s5 := b05.size
  simp only [World.size_alloc] at s5
  go_wp2_with fail
  refine (mirror19_ok K R va vn vc T _ (h.out.below b05) hr.out).mono ?_
  rintro e w6 ⟨x, rfl, b6, ma, mn, mc, rfl, hM⟩
  clear z0 z1 z2
  go_wp2_with fail
  refine (back03_any u ys _ (hu.out.below (Below.step b05 b6)) (by omega)).mono ?_
  rintro e w7 ⟨ub, rfl, b7, hub⟩
  go_wp2_with fail
  refine (back03_any v zs _ (hv.out.below (Below.step b05 (Below.step b6 b7))) (by omega)).mono ?_
  rintro e w8 ⟨vb, rfl, b8, hvb⟩
  go_wp2_with fail
  refine (on19_any K R ma mn mc _ ub vb ys.reverse zs.reverse _ (hM.at.below (Below.step b7 b8)) hrm.out hpm.out (hub.at.below b8) hvb.at (fun x hx => hys.out x (List.mem_reverse.1 hx)) (fun x hx => hzs.out x (List.mem_reverse.1 hx)) (by simpa using hyl) (by simpa using hzl.out)).mono ?_
  rintro e w9 ⟨xb, rfl, b9, hxb⟩
  go_wp2_with fail
  refine (back03_any xb _ _ hxb.at (by rw [List.length_append, rightP_length]; simp; omega)).mono ?_
  rintro e w10 ⟨x, rfl, b10, ho⟩
  rw [List.reverse_append, List.reverse_reverse] at ho
  have b610 := Below.step b6 (Below.step b7 (Below.step b8 (Below.step b9 b10)))
  have s9 := (Below.step b6 (Below.step b7 (Below.step b8 b9))).size
  obtain ⟨⟨y0, y1, y2⟩, f0, f1, f2⟩ := q75.below b610
  have hBf := Lib.hid (Below.step b0 (Below.step b05 b610))
  replace ho := Lib.hid ho
  go_wp2
  refine bodyPost_ret (v := .tuple #[x, zErr]) (by simp [results, Tryd.results42, go_sem, y0, y1, y2]) rfl ⟨_, _, rfl, below_set3 hBf.out (Nat.le_succ _) _ _ _, ?_, rfl⟩
  exact (((ho.out.setBelowBase (a := ⟨w.heap.size + 1, 0, none⟩) (by simp; omega) _).setBelowBase (a := ⟨w.heap.size + 1, 1, none⟩) (by simp; omega) _).setBelowBase (a := ⟨w.heap.size + 1, 2, none⟩) (by simp; omega) _).mono (by omega)

end Go.Proofs.YtmddapkhipmlgaaDoor

namespace Go.Proofs.YtmddapkhipmlgaaDoor

/-- What is added to entry p for the factor i. -/
def mulTerm (a b : List Int) (p i : Nat) : Int := if i ≤ p ∧ p - i < b.length then a.getD i 0 * b.getD (p - i) 0 else 0
/-- Entry p after n factors. -/
def mulPart (K : Nat) (a b : List Int) (p n : Nat) : Int := Sm (mulTerm a b p) n % K
theorem mulPart_zero (K : Nat) (a b : List Int) (p : Nat) : mulPart K a b p 0 = 0 := by simp [mulPart, Sm]
theorem mulPart_succ (K : Nat) (a b : List Int) (p n : Nat) : mulPart K a b p (n + 1) = (mulPart K a b p n + mulTerm a b p n) % K := by
  rw [mulPart, mulPart, Sm, Int.emod_add_emod]
theorem mulPart_range {K : Nat} (hK : 1 ≤ K) (a b : List Int) (p n : Nat) : 0 ≤ mulPart K a b p n ∧ mulPart K a b p n < K :=
  ⟨Int.emod_nonneg _ (by omega), Int.emod_lt_of_pos _ (by omega)⟩
theorem mulL_entry {K : Nat} (hK : 1 ≤ K) (a b : List Int) (hb : 1 ≤ b.length) (p : Nat) (hp : p < a.length + b.length - 1) : (mulL K a b).getD p 0 = mulPart K a b p a.length := by
  rw [mulL_at K hK a b hb p hp, mulPart]
  congr 1
  refine Sm_congr _ fun i _ => ?_
  unfold mulTerm
  by_cases hi : i ≤ p
  · have e := Sm_delta (fun j => a.getD i 0 * b.getD j 0) (p - i) b.length
    have e2 : Sm (fun j => a.getD i 0 * b.getD j 0 * (if i + j = p then 1 else 0)) b.length = Sm (fun j => a.getD i 0 * b.getD j 0 * (if j = p - i then 1 else 0)) b.length := by
      refine Sm_congr _ fun j _ => ?_
      by_cases h : j = p - i
      · rw [if_pos h, if_pos (by omega)]
      · rw [if_neg h, if_neg (by omega)]
    rw [e2, e]
    by_cases h : p - i < b.length
    · rw [if_pos h, if_pos ⟨hi, h⟩]
    · rw [if_neg h, if_neg (by omega)]
  · rw [if_neg (by omega)]
    refine Sm_zero _ fun j _ => ?_
    rw [if_neg (by omega), Int.mul_zero]

/-- The product while it is reckoned: entries below p are done, entry p has j factors. -/
def outL (K : Nat) (a b : List Int) (p j : Nat) : List Int := (List.range (a.length + b.length - 1)).map fun t => if t < p then mulPart K a b t a.length else if t = p then mulPart K a b t j else 0
theorem outL_length (K : Nat) (a b : List Int) (p j : Nat) : (outL K a b p j).length = a.length + b.length - 1 := by simp [outL]
theorem outL_start (K : Nat) (a b : List Int) : outL K a b 0 0 = List.replicate (a.length + b.length - 1) 0 := by
  refine List.ext_getElem (by simp [outL]) fun t h1 h2 => ?_
  simp [outL, mulPart_zero]
theorem outL_next (K : Nat) (a b : List Int) (p : Nat) : outL K a b p a.length = outL K a b (p + 1) 0 := by
  refine List.ext_getElem (by simp [outL]) fun t h1 h2 => ?_
  simp only [outL, List.getElem_map, List.getElem_range, mulPart_zero]
  by_cases h : t < p
  · rw [if_pos h, if_pos (by omega)]
  · rw [if_neg h]
    by_cases e : t = p
    · rw [if_pos e, if_pos (by omega)]
    · rw [if_neg e, if_neg (by omega)]; split <;> rfl
theorem outL_getD (K : Nat) (a b : List Int) (p j : Nat) (hp : p < a.length + b.length - 1) : (outL K a b p j).getD p 0 = mulPart K a b p j := by
  have hl : p < (outL K a b p j).length := by rw [outL_length]; exact hp
  simp only [List.getD, List.getElem?_eq_getElem hl, Option.getD_some]
  simp [outL]
theorem outL_set (K : Nat) (a b : List Int) (p j : Nat) : (outL K a b p j).set p (mulPart K a b p (j + 1)) = outL K a b p (j + 1) := by
  refine List.ext_getElem (by simp [outL]) fun t h1 h2 => ?_
  rw [List.getElem_set]
  simp only [outL, List.getElem_map, List.getElem_range]
  by_cases e : p = t
  · subst e; simp
  · rw [if_neg e]
    by_cases h : t < p
    · rw [if_pos h, if_pos h]
    · rw [if_neg h, if_neg h, if_neg (by omega), if_neg (by omega)]
theorem outL_skip (K : Nat) (a b : List Int) (p j : Nat) (h : ¬ (j ≤ p ∧ p - j < b.length)) : outL K a b p (j + 1) = outL K a b p j := by
  have e : mulPart K a b p (j + 1) = mulPart K a b p j := by
    rw [mulPart_succ, mulTerm, if_neg h, Int.add_zero, mulPart, Int.emod_emod]
  simp only [outL]
  refine List.map_congr_left fun t _ => ?_
  by_cases c : t = p
  · subst c; rw [e]
  · simp only [if_neg c]
theorem outL_end {K : Nat} (hK : 1 ≤ K) (a b : List Int) (hb : 1 ≤ b.length) (p : Nat) (hp : a.length + b.length - 1 ≤ p) : outL K a b p 0 = mulL K a b := by
  refine List.ext_getElem (by simp [outL, mulL_length]) fun t h1 h2 => ?_
  have ht : t < a.length + b.length - 1 := by rw [outL_length] at h1; exact h1
  have := mulL_entry hK a b hb t ht
  simp only [outL, List.getElem_map, List.getElem_range]
  rw [if_pos (by omega), ← this]
  simp [List.getD, h2]
end Go.Proofs.YtmddapkhipmlgaaDoor

namespace Go.Proofs.YtmddapkhipmlgaaDoor
open Go.RowKit
set_option maxRecDepth 100000

set_option maxHeartbeats 400000 in
theorem mul18_bad1 (k : Int) (v u : Value) (f : List Int) (t : Int × List (ByteArray × Int)) (w : World) (hf : IntsAt w v f) (hc : factP k f = some t) (hn : t.1 ≠ 0) :
    Calls Tryd.prog 38 #[.int .i64 k, v, u] w (Ret2 (fun x y w' => x = .slice none 0 0 ∧ EOwn w.heap.size w' (some t) y) w) := by
  have b0 := belowAlloc w (.cells #[.int .i64 0, .slice none 0 0, .slice none 0 0] 55)
  have q5 : Box3 (w.alloc (.cells #[.int .i64 0, .slice none 0 0, .slice none 0 0] 55)) w.heap.size (.int .i64 0) (.slice none 0 0) (.slice none 0 0) := by simp [Box3, go_sem]
  replace hf := Lib.hid (hf.below b0)
  replace hc := Lib.hid hc
  obtain ⟨n, l⟩ := t
  have hnb : (n != 0) = true := by rw [bne_iff_ne]; exact hn
  clear hn
  go_enter Tryd.func38, Tryd.ntmps38
  go_wp2_with fail
  refine (f18_any k v f _ hf.out).mono ?_
  rintro e w1 ⟨x, rfl, b1, he⟩
  rw [hc.out] at he
  obtain ⟨a1, n1, c1, a2, n2, c2, rfl, hs1, hs2⟩ := he
  have he : EOwn (w.alloc (.cells #[.int .i64 0, .slice none 0 0, .slice none 0 0] 55)).heap.size w1 (some (n, l)) (.agg #[.int .i64 n, .slice a1 n1 c1, .slice a2 n2 c2]) := ⟨_, _, _, _, _, _, rfl, hs1, hs2⟩
  clear hs1 hs2
  replace he := Lib.hid he
  have q6 := q5.below b1
  go_wp2_with fail
  refine (err_bad n a1 n1 c1 a2 n2 c2 _).mono ?_
  rintro e w2 ⟨x, rfl, b2, rfl⟩
  have b12 := Below.step (belowAlloc w1 (.cells #[.int .i64 n, .slice a1 n1 c1, .slice a2 n2 c2] 55)) b2
  obtain ⟨⟨y0, y1, y2⟩, f0, f1, f2⟩ := q6.below b12
  obtain ⟨x0, x1, x2⟩ := keep3 (n := w1.heap.size) (a := .int .i64 n) (b := .slice a1 n1 c1) (c := .slice a2 n2 c2) b2 ⟨by simp, by simp, by simp⟩
  have hEf := Lib.hid (he.out.below b12)
  have hBf := Lib.hid (Below.step (Below.step b0 b1) b12)
  go_wp2
  go_region
  go_wp2
  refine bodyPost_ret (v := .tuple #[.slice none 0 0, .agg #[.int .i64 n, .slice a1 n1 c1, .slice a2 n2 c2]]) (by simp [results, Tryd.results38, go_sem, y0, y1, y2]) rfl ⟨_, _, rfl, ?_, rfl, ?_⟩
  · exact (below_set3 hBf.out (Nat.le_refl _) _ _ _).drew
  · exact ((hEf.out.set3 (by simp) _ _ _).mono (by simp)).drew



set_option maxHeartbeats 400000 in
theorem mul18_even (K : Nat) (v u : Value) (f g : List Int) (w : World) (hf : IntsAt w v f) (hg : IntsAt w u g) (hc : factP K f = none) (h : g.length % 2 = 0) :
    Calls Tryd.prog 38 #[.int .i64 K, v, u] w (Ret2 (fun x y w' => x = .slice none 0 0 ∧ EOwn w.heap.size w' (fresh sAdditive 2 3) y) w) := by
  have hb : ((g.length : Int) % 2 == 0) = true := by rw [beq_iff_eq]; omega
  clear h
  have b0 := belowAlloc w (.cells #[.int .i64 0, .slice none 0 0, .slice none 0 0] 55)
  have q5 : Box3 (w.alloc (.cells #[.int .i64 0, .slice none 0 0, .slice none 0 0] 55)) w.heap.size (.int .i64 0) (.slice none 0 0) (.slice none 0 0) := by simp [Box3, go_sem]
  have hlen := hf.len
  have hlen2 := hg.len
  have hm := hf.len_le
  have hm2 := hg.len_le
  replace hf := Lib.hid (hf.below b0)
  replace hg := Lib.hid (hg.below b0)
  replace hc := Lib.hid hc
  go_enter Tryd.func38, Tryd.ntmps38
  go_wp2_with fail
  refine (f18_any _ v f _ hf.out).mono ?_
  rintro e w1 ⟨x, rfl, b1, he⟩
  rw [hc.out] at he
  obtain rfl : x = zErr := he
  have q6 := q5.below b1
  go_wp2_with fail
  refine (err_bad 0 none 0 0 none 0 0 _).mono ?_
  rintro e w2 ⟨x, rfl, b2, rfl⟩
  have b12 := Below.step (belowAlloc w1 (.cells #[.int .i64 0, .slice none 0 0, .slice none 0 0] 55)) b2
  have q7 := q6.below b12
  have hg2 := Lib.hid (hg.out.below (Below.step b1 b12))
  have hf2 := Lib.hid (hf.out.below (Below.step b1 b12))
  have hBf := Below.step (Below.step b0 b1) b12
  clear b1 b2 b12 q6
  go_wp2_with fail
  refine (raw_new _ _ _ _).mono ?_
  rintro e w3 ⟨x, rfl, b3, he⟩
  obtain ⟨q, a1, n1, c1, a2, n2, c2, rfl⟩ := he.shape
  obtain ⟨⟨y0, y1, y2⟩, f0, f1, f2⟩ := q7.below b3
  have hEf := Lib.hid he
  have hB3 := Lib.hid (Below.step hBf b3)
  have hsz := hBf.size
  have hlt : w.heap.size < w2.heap.size := World.block_lt_of_cell? _ _ q7.1.1
  go_wp2
  exact bodyPost_ret (v := .tuple #[.slice none 0 0, .agg #[.int .i64 q, .slice a1 n1 c1, .slice a2 n2 c2]]) (by simp [results, Tryd.results38, go_sem, y0, y1, y2]) rfl ⟨_, _, rfl, below_set3 hB3.out (Nat.le_refl _) _ _ _, rfl, (hEf.out.set3 hlt _ _ _).mono hsz⟩

set_option maxHeartbeats 400000 in
theorem mul18_long (K : Nat) (v u : Value) (f g : List Int) (w : World) (hf : IntsAt w v f) (hg : IntsAt w u g) (hc : factP K f = none) (h : g.length % 2 = 1) (h7 : 7 < g.length) :
    Calls Tryd.prog 38 #[.int .i64 K, v, u] w (Ret2 (fun x y w' => x = .slice none 0 0 ∧ EOwn w.heap.size w' (fresh sAdditive 2 3) y) w) := by
  have hb : ((g.length : Int) % 2 == 0) = false := by rw [beq_eq_false_iff_ne]; omega
  clear h
  have b0 := belowAlloc w (.cells #[.int .i64 0, .slice none 0 0, .slice none 0 0] 55)
  have q5 : Box3 (w.alloc (.cells #[.int .i64 0, .slice none 0 0, .slice none 0 0] 55)) w.heap.size (.int .i64 0) (.slice none 0 0) (.slice none 0 0) := by simp [Box3, go_sem]
  have hlen := hf.len
  have hlen2 := hg.len
  have hm := hf.len_le
  have hm2 := hg.len_le
  replace hf := Lib.hid (hf.below b0)
  replace hg := Lib.hid (hg.below b0)
  replace hc := Lib.hid hc
  go_enter Tryd.func38, Tryd.ntmps38
  go_wp2_with fail
  refine (f18_any _ v f _ hf.out).mono ?_
  rintro e w1 ⟨x, rfl, b1, he⟩
  rw [hc.out] at he
  obtain rfl : x = zErr := he
  have q6 := q5.below b1
  go_wp2_with fail
  refine (err_bad 0 none 0 0 none 0 0 _).mono ?_
  rintro e w2 ⟨x, rfl, b2, rfl⟩
  have b12 := Below.step (belowAlloc w1 (.cells #[.int .i64 0, .slice none 0 0, .slice none 0 0] 55)) b2
  have q7 := q6.below b12
  have hg2 := Lib.hid (hg.out.below (Below.step b1 b12))
  have hf2 := Lib.hid (hf.out.below (Below.step b1 b12))
  have hBf := Below.step (Below.step b0 b1) b12
  clear b1 b2 b12 q6
  go_wp2_with fail
  refine (raw_new _ _ _ _).mono ?_
  rintro e w3 ⟨x, rfl, b3, he⟩
  obtain ⟨q, a1, n1, c1, a2, n2, c2, rfl⟩ := he.shape
  obtain ⟨⟨y0, y1, y2⟩, f0, f1, f2⟩ := q7.below b3
  have hEf := Lib.hid he
  have hB3 := Lib.hid (Below.step hBf b3)
  have hsz := hBf.size
  have hlt : w.heap.size < w2.heap.size := World.block_lt_of_cell? _ _ q7.1.1
  go_wp2
  exact bodyPost_ret (v := .tuple #[.slice none 0 0, .agg #[.int .i64 q, .slice a1 n1 c1, .slice a2 n2 c2]]) (by simp [results, Tryd.results38, go_sem, y0, y1, y2]) rfl ⟨_, _, rfl, below_set3 hB3.out (Nat.le_refl _) _ _ _, rfl, (hEf.out.set3 hlt _ _ _).mono hsz⟩

set_option maxHeartbeats 400000 in
theorem mul18_odd (K : Nat) (v u : Value) (f g : List Int) (i : Nat) (w : World) (hf : IntsAt w v f) (hg : IntsAt w u g) (hc : factP K f = none) (h : g.length % 2 = 1) (h7 : g.length ≤ 7) (hi : idxOf (odd1 K) g = i) (hi7 : i ≤ 7) :
    Calls Tryd.prog 38 #[.int .i64 K, v, u] w (Ret2 (fun x y w' => x = .slice none 0 0 ∧ EOwn w.heap.size w' (fresh sAdditive (f.length + i) 2) y) w) := by
  obtain ⟨h1, h4, ho, hs⟩ := factP_none hc
  have hk1 : 1 ≤ K := by omega
  have hk4 : K ≤ 4 := by omega
  have hl7 : f.length ≤ 7 := by simp [oddP] at ho; omega
  have hl1 : f.length % 2 = 1 := by simp [oddP] at ho; omega
  clear ho
  have hb : ((g.length : Int) % 2 == 0) = false := by rw [beq_eq_false_iff_ne]; omega
  clear h hl1 hs
  replace hi := Lib.hid hi
  have b0 := belowAlloc w (.cells #[.int .i64 0, .slice none 0 0, .slice none 0 0] 55)
  have q5 : Box3 (w.alloc (.cells #[.int .i64 0, .slice none 0 0, .slice none 0 0] 55)) w.heap.size (.int .i64 0) (.slice none 0 0) (.slice none 0 0) := by simp [Box3, go_sem]
  have hlen := hf.len
  have hlen2 := hg.len
  have hm := hf.len_le
  have hm2 := hg.len_le
  replace hf := Lib.hid (hf.below b0)
  replace hg := Lib.hid (hg.below b0)
  replace hc := Lib.hid hc
  go_enter Tryd.func38, Tryd.ntmps38
  go_wp2_with fail
  refine (f18_any _ v f _ hf.out).mono ?_
  rintro e w1 ⟨x, rfl, b1, he⟩
  rw [hc.out] at he
  obtain rfl : x = zErr := he
  have q6 := q5.below b1
  go_wp2_with fail
  refine (err_bad 0 none 0 0 none 0 0 _).mono ?_
  rintro e w2 ⟨x, rfl, b2, rfl⟩
  have b12 := Below.step (belowAlloc w1 (.cells #[.int .i64 0, .slice none 0 0, .slice none 0 0] 55)) b2
  have q7 := q6.below b12
  have hg2 := Lib.hid (hg.out.below (Below.step b1 b12))
  have hf2 := Lib.hid (hf.out.below (Below.step b1 b12))
  have hBf := Below.step (Below.step b0 b1) b12
  clear b1 b2 b12 q6
  go_wp2_with fail
  refine (ref_bad K u g _ hg2.out).mono ?_
  rintro e w3 ⟨rfl, rfl⟩
  rw [hi.out]
  go_wp2_with fail
  refine (raw_new _ _ _ _).mono ?_
  rintro e w3 ⟨x, rfl, b3, he⟩
  obtain ⟨q, a1, n1, c1, a2, n2, c2, rfl⟩ := he.shape
  obtain ⟨⟨y0, y1, y2⟩, f0, f1, f2⟩ := q7.below b3
  have hEf := Lib.hid he
  have hB3 := Lib.hid (Below.step hBf b3)
  have hsz := hBf.size
  have hlt : w.heap.size < w2.heap.size := World.block_lt_of_cell? _ _ q7.1.1
  go_wp2
  exact bodyPost_ret (v := .tuple #[.slice none 0 0, .agg #[.int .i64 q, .slice a1 n1 c1, .slice a2 n2 c2]]) (by simp [results, Tryd.results38, go_sem, y0, y1, y2]) rfl ⟨_, _, rfl, below_set3 hB3.out (Nat.le_refl _) _ _ _, rfl, (hEf.out.set3 hlt _ _ _).mono hsz⟩

set_option maxHeartbeats 400000 in
theorem mul18_sum (K : Nat) (v u : Value) (f g : List Int) (w : World) (hf : IntsAt w v f) (hg : IntsAt w u g) (hc : factP K f = none) (h : g.length % 2 = 1) (h7 : g.length ≤ 7) (hs2 : Syms K g) (hsum : 7 < f.length + g.length - 1) :
    Calls Tryd.prog 38 #[.int .i64 K, v, u] w (Ret2 (fun x y w' => x = .slice none 0 0 ∧ EOwn w.heap.size w' (fresh sAdditive 2 3) y) w) := by
  obtain ⟨h1, h4, ho, hs⟩ := factP_none hc
  have hk1 : 1 ≤ K := by omega
  have hk4 : K ≤ 4 := by omega
  have hl7 : f.length ≤ 7 := by simp [oddP] at ho; omega
  have hl1 : f.length % 2 = 1 := by simp [oddP] at ho; omega
  clear ho
  have hb : ((g.length : Int) % 2 == 0) = false := by rw [beq_eq_false_iff_ne]; omega
  have hsi : (7 : Int) < (f.length : Int) + (g.length : Int) - 1 := by omega
  have hi := Lib.hid hs2.odd
  clear h hl1 hs hs2 hsum
  have b0 := belowAlloc w (.cells #[.int .i64 0, .slice none 0 0, .slice none 0 0] 55)
  have q5 : Box3 (w.alloc (.cells #[.int .i64 0, .slice none 0 0, .slice none 0 0] 55)) w.heap.size (.int .i64 0) (.slice none 0 0) (.slice none 0 0) := by simp [Box3, go_sem]
  have hlen := hf.len
  have hlen2 := hg.len
  have hm := hf.len_le
  have hm2 := hg.len_le
  replace hf := Lib.hid (hf.below b0)
  replace hg := Lib.hid (hg.below b0)
  replace hc := Lib.hid hc
  go_enter Tryd.func38, Tryd.ntmps38
  go_wp2_with fail
  refine (f18_any _ v f _ hf.out).mono ?_
  rintro e w1 ⟨x, rfl, b1, he⟩
  rw [hc.out] at he
  obtain rfl : x = zErr := he
  have q6 := q5.below b1
  go_wp2_with fail
  refine (err_bad 0 none 0 0 none 0 0 _).mono ?_
  rintro e w2 ⟨x, rfl, b2, rfl⟩
  have b12 := Below.step (belowAlloc w1 (.cells #[.int .i64 0, .slice none 0 0, .slice none 0 0] 55)) b2
  have q7 := q6.below b12
  have hg2 := Lib.hid (hg.out.below (Below.step b1 b12))
  have hf2 := Lib.hid (hf.out.below (Below.step b1 b12))
  have hBf := Below.step (Below.step b0 b1) b12
  clear b1 b2 b12 q6
  go_wp2_with fail
  refine (ref_bad K u g _ hg2.out).mono ?_
  rintro e w3 ⟨rfl, rfl⟩
  rw [hi.out]
  go_wp2_with fail
  refine (raw_new _ _ _ _).mono ?_
  rintro e w3 ⟨x, rfl, b3, he⟩
  obtain ⟨q, a1, n1, c1, a2, n2, c2, rfl⟩ := he.shape
  obtain ⟨⟨y0, y1, y2⟩, f0, f1, f2⟩ := q7.below b3
  have hEf := Lib.hid he
  have hB3 := Lib.hid (Below.step hBf b3)
  have hsz := hBf.size
  have hlt : w.heap.size < w2.heap.size := World.block_lt_of_cell? _ _ q7.1.1
  go_wp2
  exact bodyPost_ret (v := .tuple #[.slice none 0 0, .agg #[.int .i64 q, .slice a1 n1 c1, .slice a2 n2 c2]]) (by simp [results, Tryd.results38, go_sem, y0, y1, y2]) rfl ⟨_, _, rfl, below_set3 hB3.out (Nat.le_refl _) _ _ _, rfl, (hEf.out.set3 hlt _ _ _).mono hsz⟩

set_option maxHeartbeats 1000000 in
theorem mul18_ok (K : Nat) (v u : Value) (f g : List Int) (w : World) (hf : IntsAt w v f) (hg : IntsAt w u g) (hc : factP K f = none) (h : g.length % 2 = 1) (h7 : g.length ≤ 7) (hs2 : Syms K g) (hsum : f.length + g.length - 1 ≤ 7) :
    Calls Tryd.prog 38 #[.int .i64 K, v, u] w (Ret2 (fun x y w' => y = zErr ∧ OwnI w.heap.size w' x (mulL K f g)) w) := by
  obtain ⟨h1, h4, ho, hs⟩ := factP_none hc
  have hk1 : 1 ≤ K := by omega
  have hk4 : K ≤ 4 := by omega
  have hl7 : f.length ≤ 7 := by simp [oddP] at ho; omega
  have hl1 : f.length % 2 = 1 := by simp [oddP] at ho; omega
  clear ho
  have hb : ((g.length : Int) % 2 == 0) = false := by rw [beq_eq_false_iff_ne]; omega
  have hf1 : 1 ≤ f.length := by omega
  have hg1 : 1 ≤ g.length := by omega
  have hsi : (f.length : Int) + (g.length : Int) - 1 ≤ 7 := by omega
  have hsi0 : (0 : Int) ≤ (f.length : Int) + (g.length : Int) - 1 := by omega
  have hi := Lib.hid hs2.odd
  clear h hl1
  replace hs := Lib.hid hs
  replace hs2 := Lib.hid hs2
  have b0 := belowAlloc w (.cells #[.int .i64 0, .slice none 0 0, .slice none 0 0] 55)
  have q5 : Box3 (w.alloc (.cells #[.int .i64 0, .slice none 0 0, .slice none 0 0] 55)) w.heap.size (.int .i64 0) (.slice none 0 0) (.slice none 0 0) := by simp [Box3, go_sem]
  have hlen := hf.len
  have hlen2 := hg.len
  have hm := hf.len_le
  have hm2 := hg.len_le
  replace hf := Lib.hid (hf.below b0)
  replace hg := Lib.hid (hg.below b0)
  replace hc := Lib.hid hc
  go_enter Tryd.func38, Tryd.ntmps38
  go_wp2_with fail
  refine (f18_any _ v f _ hf.out).mono ?_
  rintro e w1 ⟨x, rfl, b1, he⟩
  rw [hc.out] at he
  obtain rfl : x = zErr := he
  have q6 := q5.below b1
  go_wp2_with fail
  refine (err_bad 0 none 0 0 none 0 0 _).mono ?_
  rintro e w2 ⟨x, rfl, b2, rfl⟩
  have b12 := Below.step (belowAlloc w1 (.cells #[.int .i64 0, .slice none 0 0, .slice none 0 0] 55)) b2
  have q7 := q6.below b12
  have hg2 := Lib.hid (hg.out.below (Below.step b1 b12))
  have hf2 := Lib.hid (hf.out.below (Below.step b1 b12))
  have hBf := Below.step (Below.step b0 b1) b12
  clear b1 b2 b12 q6
  go_wp2_with fail
  refine (ref_bad K u g _ hg2.out).mono ?_
  rintro e w3 ⟨rfl, rfl⟩
  rw [hi.out]
  go_wp2_with (at_make; refine wpl_make rfl _ _ rfl _ rfl rfl (by omega) (by omega) ?_)
  intro ov w3 hO b3
  rw [show ((f.length : Int) + (g.length : Int)).toNat - 1 = f.length + g.length - 1 by omega, ← outL_start K f g] at hO
  have hol := hO.at.len
  rw [outL_length] at hol
  obtain ⟨L, hL⟩ : ∃ L, L = f.length + g.length - 1 := ⟨_, rfl⟩
  rw [← hL] at hol
  have hLi : (L : Int) = (f.length : Int) + (g.length : Int) - 1 := by omega
  have hL7 : L ≤ 7 := by omega
  replace hLi := Lib.hid hLi
  replace hL := Lib.hid hL
  have q8 := q7.below b3
  have hf3 := Lib.hid (hf2.out.below b3)
  have hg3 := Lib.hid (hg2.out.below b3)
  have hK0 : ((K : Int) == 0) = false := by rw [beq_eq_false_iff_ne]; omega
  have hK1 : ¬ (K : Int) = 0 := by omega
  have hK2 : (0 : Int) < K := by omega
  have hK3 : ¬ K = 0 := by omega
  go_wp2
  go_loopw [11] (fun i wr => ∃ p : Nat, p ≤ L ∧ i = .int .i64 p ∧ OwnI w2.heap.size wr ov (outL K f g p 0) ∧ Below w2.heap.size w2 wr) (fun i _ => L - (intOf i).toNat)
  case atStart => exact ⟨0, by omega, rfl, hO, b3⟩
  case round =>
    obtain ⟨p, hp, rfl, hO, hB⟩ := hrel
    obtain ⟨wo, rfl⟩ : ∃ wo : World, wo = wr := ⟨_, rfl⟩
    by_cases hpl : p < L
    · go_wp2
      go_loopw [12] (fun j wr => ∃ t : Nat, t ≤ f.length ∧ j = .int .i64 t ∧ OwnI w2.heap.size wr ov (outL K f g p t) ∧ Below w2.heap.size w2 wr) (fun j _ => f.length - (intOf j).toNat)
      case atStart => exact ⟨0, by omega, rfl, hO, hB⟩
      case round =>
        clear hO hB
        obtain ⟨t, ht, rfl, hO, hB⟩ := hrel
        obtain ⟨wi, rfl⟩ : ∃ wi : World, wi = wr := ⟨_, rfl⟩
        by_cases htl : t < f.length
        · by_cases htp : t ≤ p
          · by_cases hgl : p - t < g.length
            · have hpL : p < f.length + g.length - 1 := by rw [← hL.out]; exact hpl
              have hfw := hf2.out.below hB
              have hgw := hg2.out.below hB
              have i1 := hO.at.idx p (by rw [outL_length]; exact hpL)
              have c1 := hO.at.cellD p (by rw [outL_length]; exact hpL)
              have r1 := hO.frz p (by rw [outL_length]; exact hpL)
              have i2 := hfw.idx t htl
              have c2 := hfw.cellD t htl
              have i3 : ∀ w', (Instr.indexAt 22 u (.int .i64 ((p : Int) - (t : Int)))).run Tryd.prog w' = .ok (.pointer (some (valAt u (p - t)))) w' := by
                intro w'
                have := hgw.idxI ((p : Int) - (t : Int)) (by omega) (by omega) w'
                rwa [show ((p : Int) - (t : Int)).toNat = p - t by omega] at this
              have c3 := hgw.cellD (p - t) hgl
              rw [outL_getD K f g p t hpL] at c1
              have hpr := mulPart_range hk1 f g p t
              have hpb := prod_bound hk4 (hs.out.getD (by omega) t) (hs2.out.getD (by omega) (p - t))
              have hnew : mulPart K f g p (t + 1) = (mulPart K f g p t + f.getD t 0 * g.getD (p - t) 0) % K := by rw [mulPart_succ, mulTerm, if_pos ⟨htp, hgl⟩]
              have hO2 := hO.set p (by rw [outL_length]; exact hpL) (mulPart K f g p (t + 1))
              rw [outL_set] at hO2
              have hB2 := hO.setBelow hB p (by rw [outL_length]; exact hpL) (.int .i64 (mulPart K f g p (t + 1)))
              have d1 : decide ((0 : Int) ≤ (p : Int) - (t : Int)) = true := by simp; omega
              have d2 : decide ((p : Int) - (t : Int) < (g.length : Int)) = true := by simp; omega
              rw [hnew] at hO2 hB2
              clear hnew hO hfw hgw
              generalize mulPart K f g p t = z at c1 hpr hO2 hB2
              generalize f.getD t 0 = x at c2 hpb hO2 hB2
              generalize g.getD (p - t) 0 = y at c3 hpb hO2 hB2
              obtain ⟨hz0, hz1⟩ := hpr
              obtain ⟨hxy0, hxy1⟩ := hpb
              replace hO2 := Lib.hid hO2
              replace hB2 := Lib.hid hB2
              replace hB := Lib.hid hB
              go_wp2
              go_region
              all_goals
                go_wp2
                go_roundw
                case rel => exact ⟨t + 1, by omega, by go_num, by first | exact hO2.out | exact hO2.out.drew | (rw [Int.tmod_eq_emod_of_nonneg (by omega)]; exact hO2.out), by first | exact hB2.out | exact hB2.out.drew | (rw [Int.tmod_eq_emod_of_nonneg (by omega)]; exact hB2.out.drew)⟩
                case measure => simp [intOf]; omega
            · have d1 : decide ((0 : Int) ≤ (p : Int) - (t : Int)) = true := by simp; omega
              have d2 : decide ((p : Int) - (t : Int) < (g.length : Int)) = false := by simp; omega
              have hO2 := hO
              rw [← outL_skip K f g p t (by omega)] at hO2
              replace hO2 := Lib.hid hO2
              replace hB := Lib.hid hB
              clear hO
              go_wp2
              go_roundw
              case rel => exact ⟨t + 1, by omega, by go_num, hO2.out, hB.out⟩
              case measure => simp [intOf]; omega
          · have d1 : decide ((0 : Int) ≤ (p : Int) - (t : Int)) = false := by simp; omega
            have hO2 := hO
            rw [← outL_skip K f g p t (by omega)] at hO2
            replace hO2 := Lib.hid hO2
            replace hB := Lib.hid hB
            clear hO
            go_wp2
            go_roundw
            case rel => exact ⟨t + 1, by omega, by go_num, hO2.out, hB.out⟩
            case measure => simp [intOf]; omega
        · obtain rfl : t = f.length := by omega
          rw [outL_next] at hO
          replace hO := Lib.hid hO
          replace hB := Lib.hid hB
          go_wp2
          go_roundw
          case rel => exact ⟨p + 1, by omega, by go_num, hO.out, hB.out⟩
          case measure => simp [intOf]; omega
    · obtain rfl : p = L := by omega
      rw [outL_end hk1 f g hg1 p (by rw [← hL.out]; exact Nat.le_refl _)] at hO
      obtain ⟨⟨y0, y1, y2⟩, f0, f1, f2⟩ := q7.belowB hB (World.block_lt_of_cell? _ _ q7.1.1)
      have hlt : w.heap.size < w2.heap.size := World.block_lt_of_cell? _ _ q7.1.1
      have hBB := Lib.hid (hBf.trans (hB.mono hBf.size))
      replace hO := Lib.hid hO
      have hsz := hBf.size
      go_wp2
      refine bodyPost_ret (v := .tuple #[ov, zErr]) (by simp [results, Tryd.results38, go_sem, y0, y1, y2]) rfl ⟨_, _, rfl, below_set3 hBB.out (Nat.le_refl _) _ _ _, rfl, ?_⟩
      exact (((hO.out.setBelowBase (a := ⟨w.heap.size, 0, none⟩) hlt _).setBelowBase (a := ⟨w.heap.size, 1, none⟩) hlt _).setBelowBase (a := ⟨w.heap.size, 2, none⟩) hlt _).mono hsz
end Go.Proofs.YtmddapkhipmlgaaDoor

namespace Go.Proofs.YtmddapkhipmlgaaDoor
open Go.RowKit
set_option maxRecDepth 100000

theorem onto18_any (k : Int) (v : Value) (f : List Int) (w : World) (hf : IntsAt w v f) :
    Calls Tryd.prog 35 #[.int .i64 k, v] w (Ret2 (fun x y w' => x = .bool (toldP mayOnto k f) ∧ EOwn w.heap.size w' (factP k f) y) w) := by
  cases hc : factP k f with
  | some t =>
    have := factP_num hc
    rw [toldP, if_neg (by rw [hc]; simp)]
    exact onto18_bad k v f t w hf hc (by omega)
  | none =>
    obtain ⟨h1, _, _, _⟩ := factP_none hc
    obtain ⟨K, rfl⟩ := Int.eq_ofNat_of_zero_le (show 0 ≤ k by omega)
    rw [toldP, if_pos hc]
    refine (onto18_ok K v f w hf hc).mono ?_
    rintro e w' ⟨x, y, he, hb, hx, hy⟩
    exact ⟨x, y, he, hb, by rw [hx, ontoR_eq], hy⟩

theorem one18_any (k : Int) (v : Value) (f : List Int) (w : World) (hf : IntsAt w v f) :
    Calls Tryd.prog 37 #[.int .i64 k, v] w (Ret2 (fun x y w' => x = .bool (toldP mayOne k f) ∧ EOwn w.heap.size w' (factP k f) y) w) := by
  cases hc : factP k f with
  | some t =>
    have := factP_num hc
    rw [toldP, if_neg (by rw [hc]; simp)]
    exact one18_bad k v f t w hf hc (by omega)
  | none =>
    obtain ⟨h1, _, _, _⟩ := factP_none hc
    obtain ⟨K, rfl⟩ := Int.eq_ofNat_of_zero_le (show 0 ≤ k by omega)
    rw [toldP, if_pos hc]
    refine (one18_ok K v f w hf hc).mono ?_
    rintro e w' ⟨x, y, he, hb, hx, hy⟩
    exact ⟨x, y, he, hb, by rw [hx], hy⟩

theorem mul18_any (k : Int) (v u : Value) (f g : List Int) (w : World) (hf : IntsAt w v f) (hg : IntsAt w u g) :
    Calls Tryd.prog 38 #[.int .i64 k, v, u] w (Ret2 (fun x y w' => EOwn w.heap.size w' (mulP k f g) y ∧ (mulP k f g = none → OwnI w.heap.size w' x (mulL k.toNat f g)) ∧ (mulP k f g ≠ none → x = .slice none 0 0)) w) := by
  have fin : ∀ {t : PErr}, t = mulP k f g → mulP k f g ≠ none → ∀ e w', (Ret2 (fun x y w' => x = .slice none 0 0 ∧ EOwn w.heap.size w' t y) w) e w' → Ret2 (fun x y w' => EOwn w.heap.size w' (mulP k f g) y ∧ (mulP k f g = none → OwnI w.heap.size w' x (mulL k.toNat f g)) ∧ (mulP k f g ≠ none → x = .slice none 0 0)) w e w' := by
    rintro t rfl hn e w' ⟨x, y, he, hb, rfl, hy⟩
    exact ⟨_, _, he, hb, hy, fun h => absurd h hn, fun _ => rfl⟩
  cases hc : factP k f with
  | some t =>
    have e : some t = mulP k f g := by simp [mulP, hc]
    have := factP_num hc
    exact (mul18_bad1 k v u f t w hf hc (by omega)).mono (fin e (by rw [← e]; simp))
  | none =>
    obtain ⟨h1, h4, ho, hs⟩ := factP_none hc
    obtain ⟨K, rfl⟩ := Int.eq_ofNat_of_zero_le (show 0 ≤ k by omega)
    have hl1 : f.length % 2 = 1 ∧ f.length ≤ 7 := by simp [oddP] at ho; omega
    by_cases g1 : g.length % 2 = 0
    · have e : fresh sAdditive 2 3 = mulP K f g := by simp [mulP, hc, oddP, g1]
      exact (mul18_even K v u f g w hf hg hc g1).mono (fin e (by rw [← e]; simp [fresh]))
    by_cases g2 : 7 < g.length
    · have e : fresh sAdditive 2 3 = mulP K f g := by
        have : oddP g.length = false := by simp [oddP]; omega
        simp [mulP, hc, this]
      exact (mul18_long K v u f g w hf hg hc (by omega) g2).mono (fin e (by rw [← e]; simp [fresh]))
    have ho2 : oddP g.length = true := by simp [oddP]; omega
    rcases syms_or K g with hs2 | ⟨i, hi, hlt⟩
    · by_cases g3 : 7 < f.length + g.length - 1
      · have e : fresh sAdditive 2 3 = mulP K f g := by
          have : oddP (f.length + g.length - 1) = false := by simp [oddP]; omega
          simp [mulP, hc, ho2, hs2.num, this]
        exact (mul18_sum K v u f g w hf hg hc (by omega) (by omega) hs2 g3).mono (fin e (by rw [← e]; simp [fresh]))
      · have e : mulP K f g = none := by
          have : oddP (f.length + g.length - 1) = true := by simp [oddP]; omega
          simp [mulP, hc, ho2, hs2.num, this]
        refine (mul18_ok K v u f g w hf hg hc (by omega) (by omega) hs2 (by omega)).mono ?_
        rintro _ w' ⟨x, y, he, hb, rfl, hy⟩
        exact ⟨_, _, he, hb, by rw [e]; rfl, fun _ => by rw [Int.toNat_natCast]; exact hy, fun h => absurd e h⟩
    · have e : fresh sAdditive (f.length + i) 2 = mulP K f g := by
        have : numP K g f.length = fresh sAdditive (f.length + i) 2 := by rw [numP, if_neg (by omega), hi]
        simp only [mulP, hc, ho2, this, Bool.true_eq_false, if_false]
        rfl
      exact (mul18_odd K v u f g i w hf hg hc (by omega) (by omega) hi (by omega)).mono (fin e (by rw [← e]; simp [fresh]))
end Go.Proofs.YtmddapkhipmlgaaDoor

namespace Go.Proofs.YtmddapkhipmlgaaDoor
open Go.RowKit
set_option maxRecDepth 100000

theorem sumT_ok {K R : Nat} {f : List Int} (h1 : 1 ≤ K) (h4 : K ≤ 4) (h3 : R ≤ 3) (hl : f.length = 2 * R + 1) : RuleOk K R (sumT K f) :=
  ⟨h1, h4, h3, by rw [sumT_length, hl], sumT_syms h1 f⟩

theorem awake18 (r : Nat → Addr) (w : World) (hg : Glob r w) : Calls Tryd.prog 11 #[] w (Ret1 (fun x _ => x = .bool true) w) := by
  replace hg := Lib.hid hg
  have hsyms : Syms (2 : Nat) [1, 0, 1] := by intro x hx; simp at hx; omega
  have hrok : RuleOk 2 1 (sumT 2 [1, 0, 1]) := sumT_ok (by decide) (by decide) (by decide) rfl
  have hsum : isSum 2 1 (sumT 2 [1, 0, 1]) = true := by decide +kernel
  have hfac : facs 2 1 (sumT 2 [1, 0, 1]) = [1, 0, 1] := by decide +kernel
  have hfp : factP 4 [2, 1, 2] = none := by decide +kernel
  have hto : toldP mayOnto 4 [2, 1, 2] = true := by decide +kernel
  replace hsyms := Lib.hid hsyms
  replace hrok := Lib.hid hrok
  replace hsum := Lib.hid hsum
  replace hfac := Lib.hid hfac
  replace hfp := Lib.hid hfp
  replace hto := Lib.hid hto
  have hb0 : Below w.heap.size w (w.alloc (.cells #[.int .i64 1, .int .i64 0, .int .i64 1] 3)) := (Below.refl _ _).alloc (Nat.le_refl _) _
  go_enter Tryd.func11, Tryd.ntmps11
  go_wp2_with fail
  refine (make_ok r 2 1 _ [1, 0, 1] _ (hg.out.below hb0) (OwnI.lit 0 w (Nat.zero_le _) [1, 0, 1] (by decide) #[.int .i64 1, .int .i64 0, .int .i64 1] rfl 3 rfl).at (by decide) (by decide) (by decide) rfl hsyms.out).mono ?_
  rintro e w1 ⟨x, y, rfl, hb1, rfl, a, n, c, rfl, ho⟩
  replace hb1 := hb0.trans (hb1.mono (by simp))
  go_wp2_with fail
  have hb2 := hb1.alloc hb1.size (.cells #[.int .i64 2, .int .i64 1, .slice a n c] 24)
  refine (of_ok 2 1 _ (sumT 2 [1, 0, 1]) _ (ho.at.below ((Below.refl _ _).alloc (Nat.le_refl _) _)) hrok.out).mono ?_
  rintro e w3 ⟨x, y, z, rfl, hb3, rfl, rfl, hf, -⟩
  rw [hsum.out]
  replace hf := hf hsum.out
  rw [hfac.out] at hf
  replace hb3 := hb2.trans (hb3.mono hb2.size)
  go_wp2_with fail
  refine (add_onto r 4 _ [2, 1, 2] _ (hg.out.below (hb3.alloc hb3.size _)) (OwnI.lit 0 w3 (Nat.zero_le _) [2, 1, 2] (by decide) #[.int .i64 2, .int .i64 1, .int .i64 2] rfl 3 rfl).at (by decide)).mono ?_
  rintro e w4 ⟨x, y, rfl, hb4, rfl, he⟩
  rw [hto.out]
  rw [hfp.out] at he
  obtain rfl := he.none_eq
  clear he
  have hf4 := (hf.at.below ((Below.refl _ _).alloc (Nat.le_refl _) _)).below hb4
  replace hb4 := (hb3.alloc hb3.size _).trans (hb4.mono (by have := hb3.size; simp; omega))
  go_wp2_with fail
  refine (ints_any _ _ [1, 0, 1] [1, 0, 1] _ (hf4.below ((Below.refl _ _).alloc (Nat.le_refl _) _)) (OwnI.lit 0 w4 (Nat.zero_le _) [1, 0, 1] (by decide) #[.int .i64 1, .int .i64 0, .int .i64 1] rfl 3 rfl).at).mono ?_
  rintro e w5 hq
  obtain ⟨rfl, hb5⟩ := hq.below
  replace hb5 := (hb4.alloc hb4.size _).trans (hb5.mono (by have := hb4.size; simp; omega))
  clear hq
  go_wp2
  go_ret
  exact ⟨_, rfl, hb5, rfl⟩
end Go.Proofs.YtmddapkhipmlgaaDoor

namespace Go.Proofs.YtmddapkhipmlgaaDoor
open Go.RowKit
set_option maxRecDepth 100000

theorem oddP_true {n : Nat} (h : oddP n = true) : n % 2 = 1 ∧ n ≤ 7 := by
  simp [oddP] at h; exact h

theorem mul_bad1 (r : Nat → Addr) (k : Int) (v u : Value) (a : List Int) (t : Int × List (ByteArray × Int)) (w : World) (hg : Glob r w) (h : IntsAt w v a) (hl : a.length ≤ 17592186044416) (hc : factP k a = some t) :
    Calls Tryd.prog 15 #[.int .i64 k, v, u] w (Ret2 (fun x y w' => x = .slice none 0 0 ∧ ErrIs r w' (some t) y) w) := by
  replace h := Lib.hid h
  replace hg := Lib.hid hg
  replace hc := Lib.hid hc
  go_enter Tryd.func15, Tryd.ntmps15
  go_wp2_with fail
  refine (fact_any r k v a _ hg.out h.out hl).mono ?_
  rintro e w1 ⟨x, rfl, hb, he⟩
  rw [hc.out] at he
  have he' := Lib.hid he
  obtain ⟨T, p, rfl⟩ := he.some_shape
  clear he
  go_wp2
  go_ret2
  exact ⟨_, _, rfl, hb, rfl, he'.out⟩

theorem mul_bad2 (r : Nat → Addr) (k : Int) (v u : Value) (a b : List Int) (w : World) (hg : Glob r w) (h : IntsAt w v a) (h' : IntsAt w u b) (hl : a.length ≤ 17592186044416) (hl' : b.length ≤ 17592186044416) (hc : factP k a = none) (ho : oddP b.length = false) :
    Calls Tryd.prog 15 #[.int .i64 k, v, u] w (Ret2 (fun x y w' => x = .slice none 0 0 ∧ ErrIs r w' (fresh sAdditive 2 3) y) w) := by
  have hlen := h'.len
  replace h := Lib.hid h
  replace h' := Lib.hid h'
  replace hg := Lib.hid hg
  replace hc := Lib.hid hc
  replace ho := Lib.hid ho
  go_enter Tryd.func15, Tryd.ntmps15
  go_wp2_with fail
  refine (fact_any r k v a _ hg.out h.out hl).mono ?_
  rintro e w1 ⟨x, rfl, hb, he⟩
  rw [hc.out] at he
  obtain rfl := he.none_eq
  clear he
  go_wp2_with fail
  refine (odd_any _ _ hl').mono ?_
  rintro e w' ⟨rfl, rfl⟩
  rw [ho.out]
  go_wp2_with fail
  refine (add_wrong r _ _ _ (hg.out.below hb) (by decide) (by decide)).mono ?_
  rintro e w2 ⟨x, rfl, hb', he⟩
  go_wp2
  go_ret2
  exact ⟨_, _, rfl, hb.trans (hb'.mono hb.size), rfl, he⟩

theorem mul_bad3 (r : Nat → Addr) (k : Int) (v u : Value) (a b : List Int) (t : Int × List (ByteArray × Int)) (w : World) (hg : Glob r w) (h : IntsAt w v a) (h' : IntsAt w u b) (hl : a.length ≤ 17592186044416) (hl' : b.length ≤ 17592186044416) (hc : factP k a = none) (ho : oddP b.length = true) (hn : numP k b a.length = some t) :
    Calls Tryd.prog 15 #[.int .i64 k, v, u] w (Ret2 (fun x y w' => x = .slice none 0 0 ∧ ErrIs r w' (some t) y) w) := by
  have hlen := h'.len
  have hlen2 := h.len
  replace h := Lib.hid h
  replace h' := Lib.hid h'
  replace hg := Lib.hid hg
  replace hc := Lib.hid hc
  replace ho := Lib.hid ho
  replace hn := Lib.hid hn
  go_enter Tryd.func15, Tryd.ntmps15
  go_wp2_with fail
  refine (fact_any r k v a _ hg.out h.out hl).mono ?_
  rintro e w1 ⟨x, rfl, hb, he⟩
  rw [hc.out] at he
  obtain rfl := he.none_eq
  clear he
  go_wp2_with fail
  refine (odd_any _ _ hl').mono ?_
  rintro e w' ⟨rfl, rfl⟩
  rw [ho.out]
  go_wp2_with fail
  refine (numbers_any r _ _ u b _ (hg.out.below hb) (h'.out.below hb) hl' (by omega) (by omega)).mono ?_
  rintro e w2 ⟨x, rfl, hb', he⟩
  rw [hn.out] at he
  have he' := Lib.hid he
  obtain ⟨T, p, rfl⟩ := he.some_shape
  clear he
  go_wp2
  go_ret2
  exact ⟨_, _, rfl, hb.trans (hb'.mono hb.size), rfl, he'.out⟩

theorem mul_bad4 (r : Nat → Addr) (k : Int) (v u : Value) (a b : List Int) (w : World) (hg : Glob r w) (h : IntsAt w v a) (h' : IntsAt w u b) (hl : a.length ≤ 7) (hl1 : 1 ≤ a.length) (hl' : b.length ≤ 7) (hc : factP k a = none) (ho : oddP b.length = true) (hn : numP k b a.length = none) (ho2 : oddP (a.length + b.length - 1) = false) :
    Calls Tryd.prog 15 #[.int .i64 k, v, u] w (Ret2 (fun x y w' => x = .slice none 0 0 ∧ ErrIs r w' (fresh sAdditive 2 3) y) w) := by
  have hlen := h'.len
  have hlen2 := h.len
  replace h := Lib.hid h
  replace h' := Lib.hid h'
  replace hg := Lib.hid hg
  replace hc := Lib.hid hc
  replace ho := Lib.hid ho
  replace hn := Lib.hid hn
  replace ho2 := Lib.hid ho2
  have hcast : Hid ((a.length : Int) + (b.length : Int) - 1 = ((a.length + b.length - 1 : Nat) : Int)) := by show _ = _; omega
  go_enter Tryd.func15, Tryd.ntmps15
  go_wp2_with fail
  refine (fact_any r k v a _ hg.out h.out (by omega)).mono ?_
  rintro e w1 ⟨x, rfl, hb, he⟩
  rw [hc.out] at he
  obtain rfl := he.none_eq
  clear he
  go_wp2_with fail
  refine (odd_any _ _ (by omega)).mono ?_
  rintro e w' ⟨rfl, rfl⟩
  rw [ho.out]
  go_wp2_with fail
  refine (numbers_any r _ _ u b _ (hg.out.below hb) (h'.out.below hb) (by omega) (by omega) (by omega)).mono ?_
  rintro e w2 ⟨x, rfl, hb', he⟩
  rw [hn.out] at he
  obtain rfl := he.none_eq
  clear he
  go_wp2_with fail
  rw [hcast.out]
  refine (odd_any _ _ (by omega)).mono ?_
  rintro e w' ⟨rfl, rfl⟩
  rw [ho2.out]
  go_wp2_with fail
  refine (add_wrong r _ _ _ ((hg.out.below hb).below hb') (by decide) (by decide)).mono ?_
  rintro e w3 ⟨x, rfl, hb3, he⟩
  go_wp2
  go_ret2
  exact ⟨_, _, rfl, (hb.trans (hb'.mono hb.size)).trans (hb3.mono (Nat.le_trans hb.size hb'.size)), rfl, he⟩

set_option maxHeartbeats 1000000 in
theorem mul_ok (r : Nat → Addr) (K : Nat) (v u : Value) (a b : List Int) (w : World) (hg : Glob r w) (h : IntsAt w v a) (h' : IntsAt w u b) (hl : a.length ≤ 7) (hl1 : 1 ≤ a.length) (hl' : b.length ≤ 7) (hk1 : 1 ≤ K) (hk4 : K ≤ 4) (hsa : Syms K a) (hsb : Syms K b) (hc : factP K a = none) (ho : oddP b.length = true) (hn : numP K b a.length = none) (ho2 : oddP (a.length + b.length - 1) = true) :
    Calls Tryd.prog 15 #[.int .i64 K, v, u] w (Ret2 (fun x y w' => OwnI w.heap.size w' x (mulL K a b) ∧ y = .nilIface) w) := by
  have hlen := h'.len
  have hlen2 := h.len
  have hb1 : 1 ≤ b.length := by have := oddP_true ho; omega
  replace h := Lib.hid h
  replace h' := Lib.hid h'
  replace hg := Lib.hid hg
  replace hc := Lib.hid hc
  replace ho := Lib.hid ho
  replace hn := Lib.hid hn
  replace ho2 := Lib.hid ho2
  replace hsa := Lib.hid hsa
  replace hsb := Lib.hid hsb
  have hcast : Hid ((a.length : Int) + (b.length : Int) - 1 = ((a.length + b.length - 1 : Nat) : Int)) := by show _ = _; omega
  go_enter Tryd.func15, Tryd.ntmps15
  go_wp2_with fail
  refine (fact_any r K v a _ hg.out h.out (by omega)).mono ?_
  rintro e w1 ⟨x, rfl, hb, he⟩
  rw [hc.out] at he
  obtain rfl := he.none_eq
  clear he
  go_wp2_with fail
  refine (odd_any _ _ (by omega)).mono ?_
  rintro e w' ⟨rfl, rfl⟩
  rw [ho.out]
  go_wp2_with fail
  refine (numbers_any r _ _ u b _ (hg.out.below hb) (h'.out.below hb) (by omega) (by omega) (by omega)).mono ?_
  rintro e w2 ⟨x, rfl, hb', he⟩
  rw [hn.out] at he
  obtain rfl := he.none_eq
  clear he
  replace hb' := hb.trans (hb'.mono hb.size)
  clear hb
  go_wp2_with fail
  rw [hcast.out]
  refine (odd_any _ _ (by omega)).mono ?_
  rintro e w' ⟨rfl, rfl⟩
  rw [ho2.out]
  go_wp2_with (at_make; refine wpl_make rfl _ _ rfl _ rfl rfl (by omega) (by omega) ?_)
  intro ov w3 hout hb3
  have hn0 : ((a.length : Int) + (b.length : Int)).toNat - 1 = a.length + b.length - 1 := by omega
  rw [hn0] at hout
  clear hn0
  go_wp2
  go_loopw [52] (fun i wr => ∃ s : Nat, s ≤ a.length ∧ i = .int .i64 s ∧ OwnI w2.heap.size wr ov (mulAll K a b s) ∧ Below w2.heap.size w2 wr) (fun i _ => a.length - (intOf i).toNat)
  case atStart => exact ⟨0, by omega, rfl, hout, hb3⟩
  case round =>
    obtain ⟨s, hs, rfl, hos, hbs⟩ := hrel
    obtain ⟨wo, rfl⟩ : ∃ wo : World, wo = wr := ⟨_, rfl⟩
    by_cases hlt : s < a.length
    · have haw := h.out.below (hb'.trans (hbs.mono hb'.size))
      have i1 := haw.idx s hlt
      have c1 := haw.cellD s hlt
      have hx := Syms.getD (by omega) hsa.out s
      have hnx : Hid (mulAll K a b (s + 1) = mulRow K s (a.getD s 0) b b.length (mulAll K a b s)) := rfl
      have hol : (mulAll K a b s).length = a.length + b.length - 1 := mulAll_length ..
      have hosy := mulAll_syms hk1 a b s
      generalize a.getD s 0 = x at c1 hx hnx
      generalize mulAll K a b s = O at hos hnx hol hosy
      replace hosy := Lib.hid hosy
      replace hol := Lib.hid hol
      go_wp2
      go_loopw [59] (fun i wr => ∃ q : Nat, q ≤ b.length ∧ i = .int .i64 q ∧ OwnI w2.heap.size wr ov (mulRow K s x b q O) ∧ Below w2.heap.size w2 wr) (fun i _ => b.length - (intOf i).toNat)
      case atStart => exact ⟨0, by omega, rfl, hos, hbs⟩
      case round =>
        obtain ⟨q, hq, rfl, hoq, hbq⟩ := hrel
        obtain ⟨wi, rfl⟩ : ∃ wi : World, wi = wr := ⟨_, rfl⟩
        by_cases hql : q < b.length
        · have hbw := h'.out.below (hb'.trans (hbq.mono hb'.size))
          have i2 := hbw.idx q hql
          have c2 := hbw.cellD q hql
          have hy := Syms.getD (by omega) hsb.out q
          have hpl : s + q < (mulRow K s x b q O).length := by rw [mulRow_length, hol.out]; omega
          have i3 : ∀ w', (Instr.indexAt 22 ov (.int .i64 ((s : Int) + (q : Int)))).run Tryd.prog w' = .ok (.pointer (some (valAt ov (s + q)))) w' := hoq.at.idx (s + q) hpl
          have c3 := hoq.at.cellD (s + q) hpl
          have f3 := hoq.frz (s + q) hpl
          have hz := Syms.getD (by omega) (mulRow_syms hk1 s x b q hosy.out) (s + q)
          have hnq : Hid (mulRow K s x b (q + 1) O = (mulRow K s x b q O).set (s + q) (((mulRow K s x b q O).getD (s + q) 0 + x * b.getD q 0) % K)) := rfl
          generalize b.getD q 0 = y at c2 hy hnq
          generalize (mulRow K s x b q O).getD (s + q) 0 = z at c3 hz hnq
          have hm := mul3 (x := x) (s := y) ⟨hx.1, by omega⟩ ⟨hy.1, by omega⟩
          have hset := Lib.hid (hoq.set (s + q) hpl ((z + x * y) % K))
          have hsb' := Lib.hid (hoq.setBelow hbq (s + q) hpl (.int .i64 ((z + x * y) % K)))
          go_wp2
          go_roundw
          case rel => exact ⟨q + 1, by omega, by go_num, by rw [hnq.out]; exact hset.out, hsb'.out⟩
          case measure => simp [intOf]; omega
        · obtain rfl : q = b.length := by omega
          go_wp2
          go_roundw
          case rel => exact ⟨s + 1, by omega, by go_num, by rw [hnx.out]; exact hoq, hbq⟩
          case measure => simp [intOf]; omega
    · obtain rfl : s = a.length := by omega
      go_wp2
      go_ret2
      exact ⟨_, _, rfl, hb'.trans (hbs.mono hb'.size), hos.mono hb'.size, rfl⟩

/-- additive.Mul at all factors. -/
theorem mul_any (r : Nat → Addr) (k : Int) (v u : Value) (a b : List Int) (w : World) (hg : Glob r w) (h : IntsAt w v a) (h' : IntsAt w u b) (hl : a.length ≤ 17592186044416) (hl' : b.length ≤ 17592186044416) :
    Calls Tryd.prog 15 #[.int .i64 k, v, u] w (Ret2 (fun x y w' => ErrIs r w' (mulP k a b) y ∧ (mulP k a b = none → OwnI w.heap.size w' x (mulL k.toNat a b)) ∧ (mulP k a b ≠ none → x = .slice none 0 0)) w) := by
  cases hc : factP k a with
  | some t =>
    have e : mulP k a b = some t := by simp [mulP, hc]
    refine (mul_bad1 r k v u a t w hg h hl hc).mono ?_
    rintro e1 w' ⟨x, y, he, hb, hx, hy⟩
    exact ⟨x, y, he, hb, by rw [e]; exact hy, (fun h => by rw [e] at h; cases h), fun _ => hx⟩
  | none =>
    obtain ⟨hk1, hk4, ho1, hsa⟩ := factP_none hc
    have ho1' := oddP_true ho1
    cases ho : oddP b.length with
    | false =>
      have e : mulP k a b = fresh sAdditive 2 3 := by simp [mulP, hc, ho]
      refine (mul_bad2 r k v u a b w hg h h' hl hl' hc ho).mono ?_
      rintro e1 w' ⟨x, y, he, hb, hx, hy⟩
      exact ⟨x, y, he, hb, by rw [e]; exact hy, (fun h => by rw [e] at h; cases h), fun _ => hx⟩
    | true =>
      have ho' := oddP_true ho
      cases hn : numP k b a.length with
      | some t =>
        have e : mulP k a b = some t := by simp [mulP, hc, ho, hn]
        refine (mul_bad3 r k v u a b t w hg h h' hl hl' hc ho hn).mono ?_
        rintro e1 w' ⟨x, y, he, hb, hx, hy⟩
        exact ⟨x, y, he, hb, by rw [e]; exact hy, (fun h => by rw [e] at h; cases h), fun _ => hx⟩
      | none =>
        cases ho2 : oddP (a.length + b.length - 1) with
        | false =>
          have e : mulP k a b = fresh sAdditive 2 3 := by simp [mulP, hc, ho, hn, ho2]
          refine (mul_bad4 r k v u a b w hg h h' ho1'.2 (by omega) ho'.2 hc ho hn ho2).mono ?_
          rintro e1 w' ⟨x, y, he, hb, hx, hy⟩
          exact ⟨x, y, he, hb, by rw [e]; exact hy, (fun h => by rw [e] at h; cases h), fun _ => hx⟩
        | true =>
          have e : mulP k a b = none := by simp [mulP, hc, ho, hn, ho2]
          obtain ⟨K, rfl⟩ := Int.eq_ofNat_of_zero_le (show 0 ≤ k by omega)
          refine (mul_ok r K v u a b w hg h h' ho1'.2 (by omega) ho'.2 (by omega) (by omega) hsa (numP_none hn) hc ho hn ho2).mono ?_
          rintro e1 w' ⟨x, y, he, hb, hx, hy⟩
          exact ⟨x, y, he, hb, by rw [e]; exact hy, fun _ => by rw [Int.toNat_natCast]; exact hx, fun h => absurd e h⟩
end Go.Proofs.YtmddapkhipmlgaaDoor

namespace Go.Proofs.YtmddapkhipmlgaaDoor
open Go.RowKit
set_option maxRecDepth 100000

/-- additive.Make at all factors. -/
theorem make_any (r : Nat → Addr) (k R : Int) (v : Value) (f : List Int) (w : World) (hg : Glob r w) (h : IntsAt w v f) :
    Calls Tryd.prog 14 #[.int .i64 k, .int .i64 R, v] w (Ret2 (fun x y w' => ∃ k' R' a n c, x = .agg #[.int .i64 k', .int .i64 R', .slice a n c] ∧ ErrIs r w' (makeP k R f) y ∧
      (makeP k R f = none → k' = k ∧ R' = R ∧ OwnI w.heap.size w' (.slice a n c) (sumT k.toNat f)) ∧ (makeP k R f ≠ none → k' = 0 ∧ R' = 0 ∧ (.slice a n c : Value) = .slice none 0 0)) w) := by
  cases hm : makeP k R f with
  | none =>
    obtain ⟨K, Q, rfl, rfl, h1, h4, h3, hl, hs⟩ := makeP_none hm
    refine (make_ok r K Q v f w hg h h1 h4 h3 hl hs).mono ?_
    rintro e w' ⟨x, y, he, hb, rfl, a, n, c, rfl, ho⟩
    exact ⟨_, _, he, hb, _, _, a, n, c, rfl, rfl, fun _ => ⟨rfl, rfl, by rw [Int.toNat_natCast]; exact ho⟩, fun h => absurd rfl h⟩
  | some t =>
    have fin : ∀ {t' : PErr}, t' = some t → ∀ e w', (Ret2 (fun x y w' => x = zRule ∧ ErrIs r w' t' y) w) e w' → Ret2 (fun x y w' => ∃ k' R' a n c, x = .agg #[.int .i64 k', .int .i64 R', .slice a n c] ∧ ErrIs r w' (some t) y ∧
      (some t = none → k' = k ∧ R' = R ∧ OwnI w.heap.size w' (.slice a n c) (sumT k.toNat f)) ∧ (some t ≠ none → k' = 0 ∧ R' = 0 ∧ (.slice a n c : Value) = .slice none 0 0)) w e w' := by
      rintro t' rfl e w' ⟨x, y, he, hb, rfl, hy⟩
      exact ⟨_, _, he, hb, 0, 0, none, 0, 0, rfl, hy, (fun h => by cases h), fun _ => ⟨rfl, rfl, rfl⟩⟩
    unfold makeP at hm
    by_cases h1 : k < 1 ∨ 4 < k ∨ R < 0 ∨ 3 < R
    · rw [if_pos h1] at hm
      exact (make_bad0 r k R v w hg h1).mono (fin hm)
    rw [if_neg h1] at hm
    obtain ⟨K, rfl⟩ := Int.eq_ofNat_of_zero_le (show 0 ≤ k by omega)
    obtain ⟨Q, rfl⟩ := Int.eq_ofNat_of_zero_le (show 0 ≤ R by omega)
    by_cases h2 : (f.length : Int) ≠ 2 * Q + 1
    · rw [if_pos h2] at hm
      exact (make_bad1 r K Q v f w hg h (by omega) (by omega) (by omega) (by omega)).mono (fin hm)
    rw [if_neg h2] at hm
    exact (make_num r K Q v f t w hg h (by omega) (by omega) (by omega) (by omega) hm).mono (fin rfl)

theorem ErrIs.test {r : Nat → Addr} {w : World} {t : PErr} {v : Value} (h : ErrIs r w t v) : (t = none ∧ v = .nilIface) ∨ (t ≠ none ∧ ∃ T a, v = .iface T (.pointer (some a))) := by
  cases t with
  | none => exact .inl ⟨rfl, h⟩
  | some t => exact .inr ⟨by simp, h.some_shape⟩

set_option maxHeartbeats 4000000 in
theorem addKeeps_any (r : Nat → Addr) (k : Int) (va vb : Value) (xs ys : List Int) (w : World) (hg : Glob r w) (ha : IntsAt w va xs) (hb : IntsAt w vb ys) (hxl : xs.length ≤ 17592186043904) (hyl : ys.length ≤ 17592186043904) :
    Calls Tryd.prog 4 #[.int .i64 k, va, vb] w (Ret1 (fun x _ => x = .bool true) w) := by
  have hla := ha.len
  have hla2 : (0 : Int) ≤ (xs.length : Int) / 2 := by omega
  replace hg := Lib.hid hg
  replace ha := Lib.hid ha
  replace hb := Lib.hid hb
  go_enter Tryd.func4, Tryd.ntmps4
  go_wp2_with fail
  refine (awake18 r _ hg.out).mono ?_
  rintro e w1 ⟨_, rfl, b1, rfl⟩
  go_wp2_with fail
  refine (lent_any va xs _ (ha.out.below b1) (by omega)).mono ?_
  rintro e w2 ⟨x, rfl, b2, hx⟩
  have c2 := Below.step b1 b2
  go_wp2_with fail
  refine (lent_any vb ys _ (hb.out.below c2) (by omega)).mono ?_
  rintro e w3 ⟨y, rfl, b3, hy⟩
  have c3 := Below.step c2 b3
  replace hx := hx.below b3
  go_wp2_with fail
  refine (make_any r k _ x xs _ (hg.out.below c3) hx.at).mono ?_
  rintro e w4 ⟨_, e1, rfl, b4, k1, R1, a1, n1, d1, rfl, he1, hok1, _⟩
  go_wp2_with fail
  have b4' := Below.step b4 (belowAlloc w4 (.cells #[.int .i64 k1, .int .i64 R1, .slice a1 n1 d1] 24))
  refine (make_any r k _ x xs _ ((hg.out.below c3).below b4') (hx.below b4').at).mono ?_
  rintro e w5 ⟨_, e2, rfl, b5, k2, R2, a2, n2, d2, rfl, he2, hok2, _⟩
  go_wp2_with fail
  have b5' := Below.step b5 (belowAlloc w5 (.cells #[.int .i64 k2, .int .i64 R2, .slice a2 n2 d2] 24))
  have b45 := Below.step b4' b5'
  refine (mul_any r k x y xs ys _ ((hg.out.below c3).below b45) (hx.below b45).at (hy.below b45).at (by omega) (by omega)).mono ?_
  rintro e w6 ⟨m, e3, rfl, b6, he3, hok3, _⟩
  go_wp2_with fail
  have b6' := Below.step b6 (belowAlloc w6 (.cells #[.int .i64 1] 3))
  have b46 := Below.step b45 b6'
  refine (mul_any r k x _ xs [1] _ ((hg.out.below c3).below b46) (hx.below b46).at (OwnI.lit 0 w6 (Nat.zero_le _) [1] (by decide) #[.int .i64 1] rfl 1 rfl).at (by omega) (by decide)).mono ?_
  rintro e w7 ⟨o, e4, rfl, b7, he4, hok4, _⟩
  have b47 := Below.step b46 b7
  have c7 := Lib.hid (Below.step c3 b47)
  -- where some call refuses
  rcases he1.test with ⟨hm1, rfl⟩ | ⟨_, T1, p1, rfl⟩
  case inr => go_wp2; go_ret; exact ⟨_, rfl, c7.out, rfl⟩
  rcases he2.test with ⟨_, rfl⟩ | ⟨hm2, _⟩
  case inr => exact absurd hm1 hm2
  rcases he3.test with ⟨hm3, rfl⟩ | ⟨_, T3, p3, rfl⟩
  case inr => go_wp2; go_ret; exact ⟨_, rfl, c7.out, rfl⟩
  by_cases hk2 : k < 2
  · go_wp2; go_ret; exact ⟨_, rfl, c7.out, rfl⟩
  obtain ⟨K, Q, rfl, hQ, hk1, hk4, hQ3, hl, hs⟩ := makeP_none hm1
  obtain ⟨rfl, rfl, ho1⟩ := hok1 hm1
  obtain ⟨rfl, rfl, ho2⟩ := hok2 hm1
  replace hok3 := hok3 hm3
  have hm4 : mulP K xs [1] = none := mulP_one (by omega) hk4 (by rw [hl]; exact oddP_mk hQ3) hs
  rw [hm4] at he4
  obtain rfl := he4.none_eq
  replace hok4 := hok4 hm4
  rw [Int.toNat_natCast] at ho1 ho2 hok3 hok4
  rw [mulL_one hs] at hok4
  have hK : 1 < K := by omega
  have hrok : RuleOk K Q (sumT K xs) := sumT_ok hk1 hk4 hQ3 hl
  have hfac : facs K Q (sumT K xs) = xs := facs_sumT hK hl hs
  have hsum : isSum K Q (sumT K xs) = true := isSum_sumT hK hl hs
  rw [hQ]
  replace hrok := Lib.hid hrok
  replace hfac := Lib.hid hfac
  replace hsum := Lib.hid hsum
  have hxl7 : xs.length ≤ 7 := by omega
  have hyl7 : (mulL K xs ys).length ≤ 100 := by
    rw [mulL_length]
    have : mulP K xs ys = none := hm3
    unfold mulP at this
    cases hc : factP K xs with
    | some t => rw [hc] at this; cases this
    | none =>
      rw [hc] at this
      simp only at this
      cases hy : oddP ys.length with
      | false => rw [hy, if_pos rfl] at this; cases this
      | true => have := oddP_true hy; omega
  have hsl : (sumT K xs).length ≤ 16384 := by rw [sumT_length]; exact pw_le hk1 hk4 hxl7
  replace hs := Lib.hid hs
  replace hl := Lib.hid hl
  rw [hQ] at *
  clear hm1 hm3 hm4 hok1 hok2 he1 he2 he3 he4
  -- everything at world 7
  have g5 := Below.step b6' b7
  have g4 := Below.step (Below.step b5 (belowAlloc w5 (.cells #[.int .i64 (K : Int), .int .i64 (Q : Int), .slice a2 n2 d2] 24))) g5
  have t1 := ho1.at.below (Below.step (belowAlloc w4 (.cells #[.int .i64 (K : Int), .int .i64 (Q : Int), .slice a1 n1 d1] 24)) g4)
  have t2 := ho2.at.below (Below.step (belowAlloc w5 (.cells #[.int .i64 (K : Int), .int .i64 (Q : Int), .slice a2 n2 d2] 24)) g5)
  obtain ⟨z0, z1, z2, -, -, -⟩ := cells3 g4
  go_wp2_with fail
  refine (of_ok K Q _ (sumT K xs) _ t1 hrok.out).mono ?_
  rintro e w8 ⟨u, _, _, rfl, b8, rfl, rfl, hu, -⟩
  replace hu := hu hsum.out
  rw [hfac.out] at hu
  rw [hsum.out]
  replace g4 := Below.step g4 b8
  replace g5 := Below.step g5 b8
  replace t1 := t1.below b8
  replace t2 := t2.below b8
  clear z0 z1 z2
  obtain ⟨z0, z1, z2, -, -, -⟩ := cells3 g4
  go_wp2_with fail
  refine (of_ok K Q _ (sumT K xs) _ t1 hrok.out).mono ?_
  rintro e w9 ⟨v, _, _, rfl, b9, rfl, rfl, hv, -⟩
  replace hv := hv hsum.out
  rw [hfac.out] at hv
  rw [hsum.out]
  replace g4 := Below.step g4 b9
  replace g5 := Below.step g5 b9
  replace t1 := t1.below b9
  replace t2 := t2.below b9
  have hu9 := hu.at.below b9
  have ho9 := (hok4.at.below b8).below b9
  have c9 := Below.step (Below.step c7.out b8) b9
  clear z0 z1 z2
  obtain ⟨z0, z1, z2, -, -, -⟩ := cells3 g4
  obtain ⟨y0, y1, y2, -, -, -⟩ := cells3 g5
  go_wp2_with fail
  refine (rules_any K Q K Q a1 n1 d1 a2 n2 d2 _ _ _ t1 t2).mono ?_
  rintro e w10 ⟨_, rfl, b10, rfl⟩
  rw [show (((K : Int) == (K : Int)) && (((Q : Int) == (Q : Int)) && decide (sumT K xs = sumT K xs))) = true by simp]
  clear z0 z1 z2 y0 y1 y2
  go_wp2_with fail
  refine (ints_any o va xs xs _ (ho9.below b10) (ha.out.below (Below.step c9 b10))).mono ?_
  rintro e w11 h11
  obtain ⟨rfl, b11⟩ := h11.below
  clear h11
  rw [show decide (xs = xs) = true by simp]
  have b10' := Below.step b10 b11
  go_wp2_with fail
  refine (ints_any u va xs xs _ (hu9.below b10') (ha.out.below (Below.step c9 b10'))).mono ?_
  rintro e w12 h12
  obtain ⟨rfl, b12⟩ := h12.below
  clear h12
  rw [show decide (xs = xs) = true by simp]
  have b912 := Below.step b10' b12
  replace g4 := Below.step g4 b912
  replace g5 := Below.step g5 b912
  obtain ⟨z0, z1, z2, -, -, -⟩ := cells3 g4
  obtain ⟨y0, y1, y2, -, -, -⟩ := cells3 g5
  have s1 := Lib.hid (ho1.below (Below.step (belowAlloc w4 (.cells #[.int .i64 (K : Int), .int .i64 (Q : Int), .slice a1 n1 d1] 24)) g4))
  have s2 := Lib.hid (ho2.below (Below.step (belowAlloc w5 (.cells #[.int .i64 (K : Int), .int .i64 (Q : Int), .slice a2 n2 d2] 24)) g5))
  have b712 := Below.step (Below.step b8 b9) b912
  have s3 := Lib.hid (hok3.below (Below.step (belowAlloc w6 (.cells #[.int .i64 1] 3)) (Below.step b7 b712)))
  have s4 := Lib.hid (hok4.below b712)
  have s5 := Lib.hid (hu.below (Below.step b9 b912))
  have s6 := Lib.hid (hv.below b912)
  obtain ⟨ma, mn, mc, rfl⟩ := hok3.at.shape
  obtain ⟨oa, on, oc, rfl⟩ := hok4.at.shape
  obtain ⟨ua, un, uc, rfl⟩ := hu.at.shape
  obtain ⟨va', vn', vc', rfl⟩ := hv.at.shape
  have hOwns : Owns w12 w3.heap.size [.slice a1 n1 d1, .slice a2 n2 d2, .slice ma mn mc, .slice oa on oc, .slice ua un uc, .slice va' vn' vc'] [sumT K xs, sumT K xs, mulL K xs ys, xs, xs, xs] :=
    ⟨w4.heap.size, b4.size, s1.out, fun k hk => (ho1.lt k hk).2,
     w5.heap.size, (by have := b5.size; simp at this; omega), s2.out.mono (by simp), fun k hk => (ho2.lt k hk).2,
     w6.heap.size, (by have := b6.size; simp at this; omega), s3.out.mono (by simp), fun k hk => (hok3.lt k hk).2,
     w7.heap.size, (by have := b7.size; simp at this; omega), s4.out.mono (by simp), fun k hk => (hok4.lt k hk).2,
     w8.heap.size, b8.size, s5.out, fun k hk => (hu.lt k hk).2,
     w9.heap.size, b9.size, s6.out, fun k hk => (hv.lt k hk).2, b912.size⟩
  replace hOwns := Lib.hid hOwns
  have c312 : Below w3.heap.size w3 w12 := Below.step b4' (Below.step b5' (Below.step b6' (Below.step b7 b712)))
  clear hu hv hok3 hok4 t1 t2 hu9 ho9
  go_wp2_with fail
  refine (apart_lit _ _ _ _ hOwns.out (by simp) (by
    intro x hx
    simp at hx
    rcases hx with rfl | rfl | rfl <;> omega) _ rfl 6 rfl).mono ?_
  rintro e w13 ⟨rfl, b13⟩
  have c313 : Below w3.heap.size w3 w13 := (Below.step c312 (belowAlloc _ _)).trans b13
  have c13 := c3.trans (c313.mono c3.size)
  go_wp2_with fail
  refine (kept_any _ x va xs _ (hx.below c313) (ha.out.below c13) (by omega)).mono ?_
  rintro e w14 h14
  obtain ⟨rfl, b14⟩ := h14.below
  clear h14
  go_wp2_with fail
  refine (kept_any _ y vb ys _ (hy.below (Below.step c313 b14)) (hb.out.below (Below.step c13 b14)) (by omega)).mono ?_
  rintro e w15 h15
  obtain ⟨rfl, b15⟩ := h15.below
  clear h15
  have c15 := Lib.hid (Below.step (Below.step c13 b14) b15)
  go_wp2
  go_ret
  exact ⟨_, rfl, c15.out, rfl⟩
end Go.Proofs.YtmddapkhipmlgaaDoor

namespace Go.Proofs.YtmddapkhipmlgaaDoor
open Go.RowKit
set_option maxRecDepth 100000

theorem fresh_fine {op : ByteArray} {at_ n : Int} (h1 : 1 ≤ n) (h2 : n ≤ 11) : (fresh op at_ n).Fine := ⟨h1, h2, by simp⟩
theorem numP_fine (k : Int) (f : List Int) (a : Int) : (numP k f a).Fine := by
  unfold numP; split
  · trivial
  · exact fresh_fine (by decide) (by decide)
theorem factP_fine (k : Int) (f : List Int) : (factP k f).Fine := by
  unfold factP; split
  · exact fresh_fine (by decide) (by decide)
  · split
    · exact fresh_fine (by decide) (by decide)
    · exact numP_fine ..
theorem makeP_fine (k R : Int) (f : List Int) : (makeP k R f).Fine := by
  unfold makeP; split
  · exact fresh_fine (by decide) (by decide)
  · split
    · exact fresh_fine (by decide) (by decide)
    · exact numP_fine ..
theorem mulP_fine (k : Int) (f g : List Int) : (mulP k f g).Fine := by
  unfold mulP
  have h1 := factP_fine k f
  have h2 := numP_fine k g f.length
  split
  · rename_i t ht; rw [ht] at h1; exact h1
  · split
    · exact fresh_fine (by decide) (by decide)
    · split
      · rename_i t ht; rw [ht] at h2; exact h2
      · split
        · exact fresh_fine (by decide) (by decide)
        · trivial

/-- The factors that are told; whether; the fault. -/
def ofL (k R : Int) (T : List Int) : List Int := if checkP k R T = none ∧ isSum k.toNat R.toNat T = true then facs k.toNat R.toNat T else []
def ofB (k R : Int) (T : List Int) : Bool := decide (checkP k R T = none) && isSum k.toNat R.toNat T
def ofP (k R : Int) (T : List Int) : PErr := under sAdditive 0 (checkP k R T)
theorem ofP_fine (k R : Int) (T : List Int) : (ofP k R T).Fine := by
  unfold ofP
  cases hc : checkP k R T with
  | none => trivial
  | some t =>
    obtain ⟨n, l⟩ := t
    have := checkP_num hc
    simp only at this
    exact ⟨by omega, by omega, by simp; omega⟩

theorem nilAt (w : World) : IntsAt w (.slice none 0 0) [] := (OwnI.nil 0 w).at

theorem of_any (r : Nat → Addr) (k R : Int) (va : Option Addr) (vn vc : Nat) (T : List Int) (w : World) (hg : Glob r w) (h : IntsAt w (.slice va vn vc) T) :
    Calls Tryd.prog 12 #[.agg #[.int .i64 k, .int .i64 R, .slice va vn vc]] w (Ret3 (fun x y z w' => IntsAt w' x (ofL k R T) ∧ y = .bool (ofB k R T) ∧ ErrIs r w' (ofP k R T) z) w) := by
  cases hc : checkP k R T with
  | some t =>
    refine (of_bad r k R _ T t w hg h hc).mono ?_
    rintro e w' ⟨x, y, z, he, hb, rfl, rfl, hz⟩
    exact ⟨_, _, _, he, hb, by rw [ofL, if_neg (by rw [hc]; simp)]; exact nilAt _, by rw [ofB, hc]; simp, by rw [ofP, hc]; exact hz⟩
  | none =>
    obtain ⟨K, Q, rfl, rfl, hr⟩ := checkP_none hc
    refine (of_ok K Q _ T w h hr).mono ?_
    rintro e w' ⟨x, y, z, he, hb, rfl, rfl, h1, h2⟩
    refine ⟨_, _, _, he, hb, ?_, by rw [ofB, hc]; simp, by rw [ofP, hc]; rfl⟩
    cases hs : isSum K Q T with
    | true => rw [ofL, if_pos ⟨hc, by simpa using hs⟩]; simpa using (h1 hs).at
    | false => rw [h2 hs, ofL, if_neg (by simp [hs])]; exact nilAt _

theorem of18_any (k R : Int) (va : Option Addr) (vn vc : Nat) (T : List Int) (w : World) (h : IntsAt w (.slice va vn vc) T) :
    Calls Tryd.prog 32 #[.agg #[.int .i64 k, .int .i64 R, .slice va vn vc]] w (Ret3 (fun x y z w' => IntsAt w' x (ofL k R T) ∧ y = .bool (ofB k R T) ∧ EAt w' (ofP k R T) z) w) := by
  cases hc : checkP k R T with
  | some t =>
    refine (of18_bad k R va vn vc T t w h hc).mono ?_
    rintro e w' ⟨x, y, z, he, hb, rfl, rfl, hz⟩
    exact ⟨_, _, _, he, hb, by rw [ofL, if_neg (by rw [hc]; simp)]; exact nilAt _, by rw [ofB, hc]; simp, by rw [ofP, hc]; exact hz.at⟩
  | none =>
    obtain ⟨K, Q, rfl, rfl, hr⟩ := checkP_none hc
    refine (of18_ok K Q va vn vc T w h hr).mono ?_
    rintro e w' ⟨x, y, z, he, hb, rfl, rfl, h1, h2⟩
    refine ⟨_, _, _, he, hb, ?_, by rw [ofB, hc]; simp, by rw [ofP, hc]; rfl⟩
    cases hs : isSum K Q T with
    | true => rw [ofL, if_pos ⟨hc, by simpa using hs⟩]; simpa using (h1 hs).at
    | false => rw [h2 hs, ofL, if_neg (by simp [hs])]; exact nilAt _

/-- What Make answers, as plain data. -/
def mkK (k R : Int) (f : List Int) : Int := if makeP k R f = none then k else 0
def mkR (k R : Int) (f : List Int) : Int := if makeP k R f = none then R else 0
def mkL (k R : Int) (f : List Int) : List Int := if makeP k R f = none then sumT k.toNat f else []
theorem make_rd (r : Nat → Addr) (k R : Int) (v : Value) (f : List Int) (w : World) (hg : Glob r w) (h : IntsAt w v f) :
    Calls Tryd.prog 14 #[.int .i64 k, .int .i64 R, v] w (Ret2 (fun x y w' => ∃ a n c, x = .agg #[.int .i64 (mkK k R f), .int .i64 (mkR k R f), .slice a n c] ∧ IntsAt w' (.slice a n c) (mkL k R f) ∧ ErrIs r w' (makeP k R f) y) w) := by
  refine (make_any r k R v f w hg h).mono ?_
  rintro e w' ⟨x, y, he, hb, k', R', a, n, c, rfl, hy, h1, h2⟩
  by_cases hm : makeP k R f = none
  · obtain ⟨rfl, rfl, ho⟩ := h1 hm
    exact ⟨_, _, he, hb, a, n, c, by simp [mkK, mkR, hm], by rw [mkL, if_pos hm]; exact ho.at, hy⟩
  · obtain ⟨rfl, rfl, hs⟩ := h2 hm
    exact ⟨_, _, he, hb, a, n, c, by simp [mkK, mkR, hm], by rw [mkL, if_neg hm, hs]; exact nilAt _, hy⟩
theorem m18_rd (k R : Int) (v : Value) (f : List Int) (w : World) (h : IntsAt w v f) :
    Calls Tryd.prog 31 #[.int .i64 k, .int .i64 R, v] w (Ret2 (fun x y w' => ∃ a n c, x = .agg #[.int .i64 (mkK k R f), .int .i64 (mkR k R f), .slice a n c] ∧ IntsAt w' (.slice a n c) (mkL k R f) ∧ EAt w' (makeP k R f) y) w) := by
  refine (m18_any k R v f w h).mono ?_
  rintro e w' ⟨x, y, he, hb, k', R', a, n, c, rfl, hy, h1, h2⟩
  by_cases hm : makeP k R f = none
  · obtain ⟨rfl, rfl, ho⟩ := h1 hm
    exact ⟨_, _, he, hb, a, n, c, by simp [mkK, mkR, hm], by rw [mkL, if_pos hm]; exact ho.at, hy.at⟩
  · obtain ⟨rfl, rfl, hs⟩ := h2 hm
    exact ⟨_, _, he, hb, a, n, c, by simp [mkK, mkR, hm], by rw [mkL, if_neg hm, hs]; exact nilAt _, hy.at⟩
def mlL (k : Int) (f g : List Int) : List Int := if mulP k f g = none then mulL k.toNat f g else []
theorem mul_rd (r : Nat → Addr) (k : Int) (v u : Value) (f g : List Int) (w : World) (hg : Glob r w) (h : IntsAt w v f) (h' : IntsAt w u g) (hl : f.length ≤ 17592186044416) (hl' : g.length ≤ 17592186044416) :
    Calls Tryd.prog 15 #[.int .i64 k, v, u] w (Ret2 (fun x y w' => IntsAt w' x (mlL k f g) ∧ ErrIs r w' (mulP k f g) y) w) := by
  refine (mul_any r k v u f g w hg h h' hl hl').mono ?_
  rintro e w' ⟨x, y, he, hb, hy, h1, h2⟩
  by_cases hm : mulP k f g = none
  · exact ⟨_, _, he, hb, by rw [mlL, if_pos hm]; exact (h1 hm).at, hy⟩
  · rw [h2 hm] at he
    exact ⟨_, _, he, hb, by rw [mlL, if_neg hm]; exact nilAt _, hy⟩
theorem mul18_rd (k : Int) (v u : Value) (f g : List Int) (w : World) (h : IntsAt w v f) (h' : IntsAt w u g) :
    Calls Tryd.prog 38 #[.int .i64 k, v, u] w (Ret2 (fun x y w' => IntsAt w' x (mlL k f g) ∧ EAt w' (mulP k f g) y) w) := by
  refine (mul18_any k v u f g w h h').mono ?_
  rintro e w' ⟨x, y, he, hb, hy, h1, h2⟩
  by_cases hm : mulP k f g = none
  · exact ⟨_, _, he, hb, by rw [mlL, if_pos hm]; exact (h1 hm).at, hy.at⟩
  · rw [h2 hm] at he
    exact ⟨_, _, he, hb, by rw [mlL, if_neg hm]; exact nilAt _, hy.at⟩
end Go.Proofs.YtmddapkhipmlgaaDoor

namespace Go.Proofs.YtmddapkhipmlgaaDoor
open Go.RowKit
set_option maxRecDepth 100000

def tab19 : List Int := [0, 1, 0, 1, 1, 0, 1, 0]

set_option maxHeartbeats 1000000 in
theorem awake19 (r : Nat → Addr) (w : World) (hg : Glob r w) : Calls Tryd.prog 20 #[] w (Ret1 (fun x _ => x = .bool true) w) := by
  replace hg := Lib.hid hg
  have hrok : RuleOk 2 1 tab19 := ⟨by decide, by decide, by decide, by decide, by intro x hx; simp [tab19] at hx; omega⟩
  have hu1 : unlikeP 2 tab19 1 = true := by decide +kernel
  have hu4 : unlikeP 2 tab19 (tab19.length / 2) = true := by decide +kernel
  have hchk : checkM 2 1 [1, 0, 1] [0, 0] = none := by decide +kernel
  have hres : [0, 0] ++ rightP 2 tab19 (numW 2 [0, 0]) [1, 0, 1] = [0, 0, 1, 0, 0] := by decide +kernel
  replace hrok := Lib.hid hrok
  replace hu1 := Lib.hid hu1
  replace hu4 := Lib.hid hu4
  replace hchk := Lib.hid hchk
  replace hres := Lib.hid hres
  go_enter Tryd.func20, Tryd.ntmps20
  go_wp2_with fail
  have hT0 := (OwnI.lit 0 w (Nat.zero_le _) tab19 (by decide) #[.int .i64 0, .int .i64 1, .int .i64 0, .int .i64 1, .int .i64 1, .int .i64 0, .int .i64 1, .int .i64 0] rfl 8 rfl).at
  have hT := hT0.below (belowAlloc _ (.cells #[.int .i64 2, .int .i64 1, .slice (some ⟨w.heap.size, 0, none⟩) 8 8] 24))
  have hb0 := Below.step (belowAlloc w (.cells #[.int .i64 0, .int .i64 1, .int .i64 0, .int .i64 1, .int .i64 1, .int .i64 0, .int .i64 1, .int .i64 0] 3)) (belowAlloc _ (.cells #[.int .i64 2, .int .i64 1, .slice (some ⟨w.heap.size, 0, none⟩) 8 8] 24))
  refine (sides_ok 2 1 _ _ _ tab19 _ hT hrok.out).mono ?_
  rintro e w1 ⟨x, y, z, rfl, hb, rfl, rfl, rfl⟩
  rw [hu1.out, hu4.out]
  obtain ⟨z0, z1, z2, -, -, -⟩ := cells3 hb
  rw [show (w.alloc (.cells #[.int .i64 0, .int .i64 1, .int .i64 0, .int .i64 1, .int .i64 1, .int .i64 0, .int .i64 1, .int .i64 0] 3)).heap.size = w.heap.size + 1 by simp] at z0 z1 z2
  go_wp2_with fail
  have l1 := (OwnI.lit 0 w1 (Nat.zero_le _) [1, 0, 1] (by decide) #[.int .i64 1, .int .i64 0, .int .i64 1] rfl 3 rfl).at
  have l2 := (OwnI.lit 0 (w1.alloc (.cells #[.int .i64 1, .int .i64 0, .int .i64 1] 3)) (Nat.zero_le _) [0, 0] (by decide) #[.int .i64 0, .int .i64 0] rfl 2 rfl).at
  have hb1 := Below.step (belowAlloc w1 (.cells #[.int .i64 1, .int .i64 0, .int .i64 1] 3)) (belowAlloc _ (.cells #[.int .i64 0, .int .i64 0] 3))
  replace l1 := l1.below (belowAlloc _ (.cells #[.int .i64 0, .int .i64 0] 3))
  rw [show (w1.alloc (.cells #[.int .i64 1, .int .i64 0, .int .i64 1] 3)).heap.size = w1.heap.size + 1 by simp] at l2
  replace hb1 := Below.step hb hb1
  refine (right_ok r 2 1 _ _ _ tab19 _ _ [1, 0, 1] [0, 0] _ (hg.out.below (Below.step hb0 hb1)) (hT.below hb1) hrok.out hu1.out l1 l2 hchk.out).mono ?_
  rintro e w2 ⟨x, y, rfl, hb2, ho, rfl⟩
  rw [hres.out] at ho
  replace ho := Lib.hid ho
  have hb3 := Below.step hb0 (Below.step hb1 hb2)
  clear hb hb1
  go_wp2_with fail
  refine (ints_any _ _ [0, 0, 1, 0, 0] [0, 0, 1, 0, 0] _ (ho.out.at.below (belowAlloc _ _)) (OwnI.lit 0 w2 (Nat.zero_le _) [0, 0, 1, 0, 0] (by decide) #[.int .i64 0, .int .i64 0, .int .i64 1, .int .i64 0, .int .i64 0] rfl 5 rfl).at).mono ?_
  rintro e w3 hq
  obtain ⟨rfl, hb5⟩ := hq.below
  clear hq
  replace hb5 := Lib.hid (Below.step hb3 (Below.step (belowAlloc _ _) hb5))
  clear hb3
  go_wp2
  go_ret
  exact ⟨_, rfl, hb5.out, rfl⟩
end Go.Proofs.YtmddapkhipmlgaaDoor

namespace Go.Proofs.YtmddapkhipmlgaaDoor
open Go.RowKit
set_option maxRecDepth 100000

def sdL (k R : Int) (T : List Int) : Bool := decide (checkP k R T = none) && unlikeP k.toNat T (T.length / k.toNat)
def sdR (k R : Int) (T : List Int) : Bool := decide (checkP k R T = none) && unlikeP k.toNat T 1
def sdP (k R : Int) (T : List Int) : PErr := under sPermut 0 (checkP k R T)
def rgL (k R : Int) (T ys zs : List Int) : List Int := if permF k R T 1 ys zs = none then zs ++ rightP k.toNat T (numW k.toNat zs) ys else []
def lfL (k R : Int) (T ys zs : List Int) : List Int := if permF k R T (T.length / k.toNat) ys zs = none then (leftS k.toNat T (numW k.toNat zs) ys).2 ++ zs else []

theorem under_check_fine (op : ByteArray) (k R : Int) (T : List Int) : (under op 0 (checkP k R T)).Fine := by
  cases hc : checkP k R T with
  | none => trivial
  | some t =>
    obtain ⟨n, l⟩ := t
    have := checkP_num hc
    simp only at this
    exact ⟨by omega, by omega, by simp; omega⟩
theorem checkM_fine (K R : Nat) (ys zs : List Int) : (checkM K R ys zs).Fine := by
  cases hc : checkM K R ys zs with
  | none => trivial
  | some t =>
    obtain ⟨n, l⟩ := t
    have := checkM_num hc
    simp only at this
    exact ⟨by omega, by omega, by omega⟩
theorem permF_fine (k R : Int) (T : List Int) (W : Nat) (ys zs : List Int) : (permF k R T W ys zs).Fine := by
  have h1 := under_check_fine sPermut k R T
  unfold permF
  split
  · rename_i t ht; rw [ht] at h1; exact h1
  · split
    · exact fresh_fine (by decide) (by decide)
    · exact checkM_fine ..

theorem sides_rd (r : Nat → Addr) (k R : Int) (va : Option Addr) (vn vc : Nat) (T : List Int) (w : World) (hg : Glob r w) (h : IntsAt w (.slice va vn vc) T) :
    Calls Tryd.prog 28 #[.agg #[.int .i64 k, .int .i64 R, .slice va vn vc]] w (Ret3 (fun x y z w' => x = .bool (sdL k R T) ∧ y = .bool (sdR k R T) ∧ ErrIs r w' (sdP k R T) z) w) := by
  cases hc : checkP k R T with
  | some t =>
    refine (sides_bad r k R va vn vc T t w hg h hc).mono ?_
    rintro e w' ⟨x, y, z, he, hb, rfl, rfl, hz⟩
    exact ⟨_, _, _, he, hb, by rw [sdL, hc]; simp, by rw [sdR, hc]; simp, by rw [sdP, hc]; exact hz⟩
  | none =>
    obtain ⟨K, Q, rfl, rfl, hr⟩ := checkP_none hc
    refine (sides_ok K Q va vn vc T w h hr).mono ?_
    rintro e w' ⟨x, y, z, he, hb, rfl, rfl, rfl⟩
    exact ⟨_, _, _, he, hb, by rw [sdL, hc]; simp, by rw [sdR, hc]; simp, by rw [sdP, hc]; rfl⟩
theorem sides19_rd (k R : Int) (va : Option Addr) (vn vc : Nat) (T : List Int) (w : World) (h : IntsAt w (.slice va vn vc) T) :
    Calls Tryd.prog 40 #[.agg #[.int .i64 k, .int .i64 R, .slice va vn vc]] w (Ret3 (fun x y z w' => x = .bool (sdL k R T) ∧ y = .bool (sdR k R T) ∧ EAt w' (sdP k R T) z) w) := by
  cases hc : checkP k R T with
  | some t =>
    refine (sides19_bad k R va vn vc T t w h hc).mono ?_
    rintro e w' ⟨x, y, z, he, hb, rfl, rfl, hz⟩
    exact ⟨_, _, _, he, hb, by rw [sdL, hc]; simp, by rw [sdR, hc]; simp, by rw [sdP, hc]; exact hz.at⟩
  | none =>
    obtain ⟨K, Q, rfl, rfl, hr⟩ := checkP_none hc
    refine (sides19_ok K Q va vn vc T w h hr).mono ?_
    rintro e w' ⟨x, y, z, he, hb, rfl, rfl, rfl⟩
    exact ⟨_, _, _, he, hb, by rw [sdL, hc]; simp, by rw [sdR, hc]; simp, by rw [sdP, hc]; rfl⟩

theorem rgt_rd (r : Nat → Addr) (k R : Int) (va : Option Addr) (vn vc : Nat) (T : List Int) (u v : Value) (ys zs : List Int) (w : World) (hg : Glob r w) (h : IntsAt w (.slice va vn vc) T) (hu : IntsAt w u ys) (hv : IntsAt w v zs) :
    Calls Tryd.prog 21 #[.agg #[.int .i64 k, .int .i64 R, .slice va vn vc], u, v] w (Ret2 (fun x y w' => IntsAt w' x (rgL k R T ys zs) ∧ ErrIs r w' (permF k R T 1 ys zs) y) w) := by
  refine (right_any r k R va vn vc T u v ys zs w hg h hu hv).mono ?_
  rintro e w' ⟨x, y, he, hb, hy, h1, h2⟩
  by_cases hm : permF k R T 1 ys zs = none
  · exact ⟨_, _, he, hb, by rw [rgL, if_pos hm]; exact (h1 hm).at, hy⟩
  · rw [h2 hm] at he
    exact ⟨_, _, he, hb, by rw [rgL, if_neg hm]; exact nilAt _, hy⟩
theorem rgt19_rd (k R : Int) (va : Option Addr) (vn vc : Nat) (T : List Int) (u v : Value) (ys zs : List Int) (w : World) (h : IntsAt w (.slice va vn vc) T) (hu : IntsAt w u ys) (hv : IntsAt w v zs) :
    Calls Tryd.prog 41 #[.agg #[.int .i64 k, .int .i64 R, .slice va vn vc], u, v] w (Ret2 (fun x y w' => IntsAt w' x (rgL k R T ys zs) ∧ EAt w' (permF k R T 1 ys zs) y) w) := by
  have fin : ∀ {t : PErr}, t = permF k R T 1 ys zs → permF k R T 1 ys zs ≠ none → ∀ e w', (Ret2 (fun x y w' => x = .slice none 0 0 ∧ EOwn w.heap.size w' t y) w) e w' → Ret2 (fun x y w' => IntsAt w' x (rgL k R T ys zs) ∧ EAt w' (permF k R T 1 ys zs) y) w e w' := by
    rintro t rfl hn e w' ⟨x, y, he, hb, rfl, hy⟩
    exact ⟨_, _, he, hb, by rw [rgL, if_neg hn]; exact nilAt _, hy.at⟩
  cases hc : checkP k R T with
  | some t =>
    exact (rgt19_bad1 k R va vn vc T u v t w h hc).mono (fin (by simp [permF, hc]) (by simp [permF, hc, under]))
  | none =>
    obtain ⟨K, Q, rfl, rfl, hr⟩ := checkP_none hc
    cases hp : unlikeP K T 1 with
    | false => exact (rgt19_bad2 K Q va vn vc T u v w h hr hp).mono (fin (by simp [permF, hc, hp]) (by simp [permF, hc, hp, fresh]))
    | true =>
      cases hm : checkM K Q ys zs with
      | some t => exact (rgt19_bad3 K Q va vn vc T u v ys zs t w h hr hp hu hv hm).mono (fin (by simp [permF, hc, hp, hm]) (by simp [permF, hc, hp, hm]))
      | none =>
        have hn : permF K Q T 1 ys zs = none := by simp [permF, hc, hp, hm]
        refine (rgt19_ok K Q va vn vc T u v ys zs w h hr hp hu hv hm).mono ?_
        rintro e w' ⟨x, y, he, hb, ho, rfl⟩
        exact ⟨_, _, he, hb, by rw [rgL, if_pos hn]; exact ho.at, by rw [hn]; rfl⟩

theorem lft_rd (r : Nat → Addr) (k R : Int) (va : Option Addr) (vn vc : Nat) (T : List Int) (u v : Value) (ys zs : List Int) (w : World) (hg : Glob r w) (h : IntsAt w (.slice va vn vc) T) (hu : IntsAt w u ys) (hv : IntsAt w v zs) :
    Calls Tryd.prog 22 #[.agg #[.int .i64 k, .int .i64 R, .slice va vn vc], u, v] w (Ret2 (fun x y w' => IntsAt w' x (lfL k R T ys zs) ∧ ErrIs r w' (permF k R T (T.length / k.toNat) ys zs) y) w) := by
  refine (left_any r k R va vn vc T u v ys zs w hg h hu hv).mono ?_
  rintro e w' ⟨x, y, he, hb, hy, h1, h2⟩
  by_cases hm : permF k R T (T.length / k.toNat) ys zs = none
  · exact ⟨_, _, he, hb, by rw [lfL, if_pos hm]; exact (h1 hm).at, hy⟩
  · rw [h2 hm] at he
    exact ⟨_, _, he, hb, by rw [lfL, if_neg hm]; exact nilAt _, hy⟩
theorem lft19_rd (k R : Int) (va : Option Addr) (vn vc : Nat) (T : List Int) (u v : Value) (ys zs : List Int) (w : World) (h : IntsAt w (.slice va vn vc) T) (hu : IntsAt w u ys) (hv : IntsAt w v zs) :
    Calls Tryd.prog 42 #[.agg #[.int .i64 k, .int .i64 R, .slice va vn vc], u, v] w (Ret2 (fun x y w' => IntsAt w' x (lfL k R T ys zs) ∧ EAt w' (permF k R T (T.length / k.toNat) ys zs) y) w) := by
  have fin : ∀ {t : PErr}, t = permF k R T (T.length / k.toNat) ys zs → permF k R T (T.length / k.toNat) ys zs ≠ none → ∀ e w', (Ret2 (fun x y w' => x = .slice none 0 0 ∧ EOwn w.heap.size w' t y) w) e w' → Ret2 (fun x y w' => IntsAt w' x (lfL k R T ys zs) ∧ EAt w' (permF k R T (T.length / k.toNat) ys zs) y) w e w' := by
    rintro t rfl hn e w' ⟨x, y, he, hb, rfl, hy⟩
    exact ⟨_, _, he, hb, by rw [lfL, if_neg hn]; exact nilAt _, hy.at⟩
  cases hc : checkP k R T with
  | some t =>
    exact (lft19_bad1 k R va vn vc T u v t w h hc).mono (fin (by simp [permF, hc]) (by simp [permF, hc, under]))
  | none =>
    obtain ⟨K, Q, rfl, rfl, hr⟩ := checkP_none hc
    cases hp : unlikeP K T (T.length / K) with
    | false => exact (lft19_bad2 K Q va vn vc T u v w h hr hp).mono (fin (by simp [permF, hc, hp]) (by simp [permF, hc, hp, fresh]))
    | true =>
      cases hm : checkM K Q ys zs with
      | some t => exact (lft19_bad3 K Q va vn vc T u v ys zs t w h hr hp hu hv hm).mono (fin (by simp [permF, hc, hp, hm]) (by simp [permF, hc, hp, hm]))
      | none =>
        have hn : permF K Q T (T.length / (K : Int).toNat) ys zs = none := by simp [permF, hc, hp, hm]
        refine (lft19_ok K Q va vn vc T u v ys zs w h hr hp hu hv hm).mono ?_
        rintro e w' ⟨x, y, he, hb, ho, rfl⟩
        exact ⟨_, _, he, hb, by rw [lfL, if_pos hn]; exact ho.at, by rw [hn]; rfl⟩
end Go.Proofs.YtmddapkhipmlgaaDoor

namespace Go.Proofs.YtmddapkhipmlgaaDoor
open Go.RowKit
set_option maxRecDepth 100000

set_option maxHeartbeats 1000000 in
theorem permutAll_any (r : Nat → Addr) (kr Rr : Int) (va : Option Addr) (vn vc : Nat) (T : List Int) (v1 v2 : Value) (ys zs : List Int) (w : World) (hg : Glob r w) (hG : GlobE w) (hT : IntsAt w (.slice va vn vc) T) (h1 : IntsAt w v1 ys) (h2 : IntsAt w v2 zs)
    (hTl : T.length ≤ 17592186043904) (hyl : ys.length ≤ 17592186043904) (hzl : zs.length ≤ 17592186043904) :
    Calls Tryd.prog 9 #[.agg #[.int .i64 kr, .int .i64 Rr, .slice va vn vc], v1, v2] w (Ret1 (fun x _ => x = .bool true) w) := by
  have b0 := belowAlloc w (.cells #[.int .i64 kr, .int .i64 Rr, .slice va vn vc] 24)
  have q5 : Box3 (w.alloc (.cells #[.int .i64 kr, .int .i64 Rr, .slice va vn vc] 24)) w.heap.size (.int .i64 kr) (.int .i64 Rr) (.slice va vn vc) := by simp [Box3, go_sem]
  replace hg := Lib.hid (hg.below b0)
  replace hG := Lib.hid (hG.below b0)
  replace hT := Lib.hid (hT.below b0)
  replace h1 := Lib.hid (h1.below b0)
  replace h2 := Lib.hid (h2.below b0)
  go_enter Tryd.func9, Tryd.ntmps9
  go_wp2_with fail
  refine (awake19 r _ hg.out).mono ?_
  rintro e w1 ⟨_, rfl, b1, rfl⟩
  have q5' := q5.below b1
  obtain ⟨⟨z0, z1, z2⟩, -, -, -⟩ := q5'
  go_wp2_with fail
  refine (lentRule_any kr Rr va vn vc T _ (hT.out.below b1) (by omega)).mono ?_
  rintro e w2 ⟨x, rfl, b2, ma, mn, mc, rfl, hm⟩
  clear z0 z1 z2
  go_wp2_with fail
  have c2 := Below.step b2 (belowAlloc w2 (.cells #[.int .i64 kr, .int .i64 Rr, .slice ma mn mc] 24))
  have q11 : Box3 (w2.alloc (.cells #[.int .i64 kr, .int .i64 Rr, .slice ma mn mc] 24)) w2.heap.size (.int .i64 kr) (.int .i64 Rr) (.slice ma mn mc) := by simp [Box3, go_sem]
  have d2 := Below.step b1 c2
  refine (lent_any v1 ys _ (h1.out.below d2) (by omega)).mono ?_
  rintro e w3 ⟨x, rfl, b3, hx⟩
  have d3 := Below.step d2 b3
  go_wp2_with fail
  refine (lent_any v2 zs _ (h2.out.below d3) (by omega)).mono ?_
  rintro e w4 ⟨y, rfl, b4, hy⟩
  have d4 := Below.step d3 b4
  have e4 := Below.step b3 b4
  replace hm := Lib.hid (hm.below (belowAlloc _ (.cells #[.int .i64 kr, .int .i64 Rr, .slice ma mn mc] 24)))
  replace hx := Lib.hid hx
  replace hy := Lib.hid hy
  obtain ⟨⟨z0, z1, z2⟩, -, -, -⟩ := q11.below e4
  go_wp2_with fail
  refine (sides_rd r kr Rr ma mn mc T _ (hg.out.below d4) (hm.out.at.below e4)).mono ?_
  rintro e w5 ⟨_, _, e5, rfl, b5, rfl, rfl, he5⟩
  clear z0 z1 z2
  have d5 := Below.step d4 b5
  have e5' := Below.step e4 b5
  obtain ⟨⟨z0, z1, z2⟩, -, -, -⟩ := q5.below d5
  go_wp2_with fail
  refine (sides19_rd kr Rr va vn vc T _ (hT.out.below d5)).mono ?_
  rintro e w6 ⟨_, _, f6, rfl, b6, rfl, rfl, hf6⟩
  obtain ⟨fn, f1, f2, f3, f4, f5, f6', rfl⟩ := hf6.shape
  clear z0 z1 z2
  have c6 := Below.step b6 (belowAlloc w6 (.cells #[.int .i64 fn, .slice f1 f2 f3, .slice f4 f5 f6'] 55))
  have q15 : Box3 (w6.alloc (.cells #[.int .i64 fn, .slice f1 f2 f3, .slice f4 f5 f6'] 55)) w6.heap.size (.int .i64 fn) (.slice f1 f2 f3) (.slice f4 f5 f6') := by simp [Box3, go_sem]
  replace hf6 := Lib.hid (hf6.below (belowAlloc _ (.cells #[.int .i64 fn, .slice f1 f2 f3, .slice f4 f5 f6'] 55)))
  have d6 := Below.step d5 c6
  have e6 := Below.step e5' c6
  obtain ⟨⟨z0, z1, z2⟩, -, -, -⟩ := q11.below e6
  go_wp2_with fail
  refine (rgt_rd r kr Rr ma mn mc T x y ys zs _ (hg.out.below d6) (hm.out.at.below e6) (hx.out.at.below (Below.step b4 (Below.step b5 c6))) (hy.out.at.below (Below.step b5 c6))).mono ?_
  rintro e w7 ⟨p7, g7, rfl, b7, hp7, hg7⟩
  clear z0 z1 z2
  have d7 := Below.step d6 b7
  obtain ⟨⟨z0, z1, z2⟩, -, -, -⟩ := q5.below d7
  go_wp2_with fail
  refine (rgt19_rd kr Rr va vn vc T v1 v2 ys zs _ (hT.out.below d7) (h1.out.below d7) (h2.out.below d7)).mono ?_
  rintro e w8 ⟨q8, h8, rfl, b8, hq8, hh8⟩
  obtain ⟨hn, i1, i2, i3, i4, i5, i6, rfl⟩ := hh8.shape
  clear z0 z1 z2
  have c8 := Below.step b8 (belowAlloc w8 (.cells #[.int .i64 hn, .slice i1 i2 i3, .slice i4 i5 i6] 55))
  have q19 : Box3 (w8.alloc (.cells #[.int .i64 hn, .slice i1 i2 i3, .slice i4 i5 i6] 55)) w8.heap.size (.int .i64 hn) (.slice i1 i2 i3) (.slice i4 i5 i6) := by simp [Box3, go_sem]
  replace hh8 := Lib.hid (hh8.below (belowAlloc _ (.cells #[.int .i64 hn, .slice i1 i2 i3, .slice i4 i5 i6] 55)))
  replace hq8 := Lib.hid (hq8.below (belowAlloc _ (.cells #[.int .i64 hn, .slice i1 i2 i3, .slice i4 i5 i6] 55)))
  have g78 := Below.step b7 c8
  have e8 := Below.step e6 g78
  have d8 := Below.step d6 g78
  obtain ⟨⟨z0, z1, z2⟩, -, -, -⟩ := q11.below e8
  go_wp2_with fail
  refine (lft_rd r kr Rr ma mn mc T x y ys zs _ (hg.out.below d8) (hm.out.at.below e8) (hx.out.at.below (Below.step b4 (Below.step b5 (Below.step c6 g78)))) (hy.out.at.below (Below.step b5 (Below.step c6 g78)))).mono ?_
  rintro e w9 ⟨s9, i9, rfl, b9, hs9, hi9⟩
  clear z0 z1 z2
  have d9 := Below.step d8 b9
  obtain ⟨⟨z0, z1, z2⟩, -, -, -⟩ := q5.below d9
  go_wp2_with fail
  refine (lft19_rd kr Rr va vn vc T v1 v2 ys zs _ (hT.out.below d9) (h1.out.below d9) (h2.out.below d9)).mono ?_
  rintro e w10 ⟨t10, j10, rfl, b10, ht10, hj10⟩
  obtain ⟨jn, j1, j2, j3, j4, j5, j6, rfl⟩ := hj10.shape
  clear z0 z1 z2
  have c10 := Below.step b10 (belowAlloc w10 (.cells #[.int .i64 jn, .slice j1 j2 j3, .slice j4 j5 j6] 55))
  have q23 : Box3 (w10.alloc (.cells #[.int .i64 jn, .slice j1 j2 j3, .slice j4 j5 j6] 55)) w10.heap.size (.int .i64 jn) (.slice j1 j2 j3) (.slice j4 j5 j6) := by simp [Box3, go_sem]
  replace hj10 := Lib.hid (hj10.below (belowAlloc _ (.cells #[.int .i64 jn, .slice j1 j2 j3, .slice j4 j5 j6] 55)))
  replace ht10 := Lib.hid (ht10.below (belowAlloc _ (.cells #[.int .i64 jn, .slice j1 j2 j3, .slice j4 j5 j6] 55)))
  have g910 := Below.step b9 c10
  have d10 := Below.step d8 g910
  have e10 := Below.step e8 g910
  have g710 := Below.step g78 g910
  have bL : (sdL kr Rr T != sdL kr Rr T) = false := by simp
  have bR : (sdR kr Rr T != sdR kr Rr T) = false := by simp
  obtain ⟨⟨z0, z1, z2⟩, -, -, -⟩ := q15.below g710
  go_wp2_with fail
  refine (raw_is r (sdP kr Rr T) e5 _ _ (hg.out.below d10) (hG.out.below d10) (he5.below (Below.step c6 g710)) (hf6.out.below g710) (under_check_fine ..)).mono ?_
  rintro e w11 ⟨_, rfl, b11, rfl⟩
  clear z0 z1 z2
  have d11 := Below.step d10 b11
  go_wp2_with fail
  refine (ints_any p7 q8 (rgL kr Rr T ys zs) (rgL kr Rr T ys zs) _ (hp7.below (Below.step c8 (Below.step g910 b11))) (hq8.out.below (Below.step g910 b11))).mono ?_
  rintro e w12 h12
  obtain ⟨rfl, b12⟩ := h12.below
  clear h12
  rw [show decide (rgL kr Rr T ys zs = rgL kr Rr T ys zs) = true by simp]
  have g1112 := Below.step b11 b12
  have g912 := Below.step g910 g1112
  obtain ⟨⟨z0, z1, z2⟩, -, -, -⟩ := q19.below g912
  go_wp2_with fail
  refine (raw_is r (permF kr Rr T 1 ys zs) g7 _ _ (hg.out.below (Below.step d10 g1112)) (hG.out.below (Below.step d10 g1112)) (hg7.below (Below.step c8 g912)) (hh8.out.below g912) (permF_fine ..)).mono ?_
  rintro e w13 ⟨_, rfl, b13, rfl⟩
  clear z0 z1 z2
  have g1113 := Below.step g1112 b13
  go_wp2_with fail
  refine (ints_any s9 t10 (lfL kr Rr T ys zs) (lfL kr Rr T ys zs) _ (hs9.below (Below.step c10 g1113)) (ht10.out.below g1113)).mono ?_
  rintro e w14 h14
  obtain ⟨rfl, b14⟩ := h14.below
  clear h14
  rw [show decide (lfL kr Rr T ys zs = lfL kr Rr T ys zs) = true by simp]
  have g1114 := Below.step g1113 b14
  obtain ⟨⟨z0, z1, z2⟩, -, -, -⟩ := q23.below g1114
  go_wp2_with fail
  refine (raw_is r (permF kr Rr T (T.length / kr.toNat) ys zs) i9 _ _ (hg.out.below (Below.step d10 g1114)) (hG.out.below (Below.step d10 g1114)) (hi9.below (Below.step c10 g1114)) (hj10.out.below g1114) (permF_fine ..)).mono ?_
  rintro e w15 ⟨_, rfl, b15, rfl⟩
  clear z0 z1 z2
  have g1115 := Below.step g1114 b15
  have e15 := Below.step e10 g1115
  have d15 := Below.step d10 g1115
  obtain ⟨⟨x0, x1, x2⟩, -, -, -⟩ := q11.below e15
  obtain ⟨⟨y0, y1, y2⟩, -, -, -⟩ := q5.below d15
  go_wp2_with fail
  refine (keptRule_any _ kr Rr ma mn mc va vn vc T _ (hm.out.below e15) (hT.out.below d15) (by omega)).mono ?_
  rintro e w16 ⟨_, rfl, b16, rfl⟩
  clear x0 x1 x2 y0 y1 y2
  have g416 := Below.step b5 (Below.step c6 (Below.step g710 (Below.step g1115 b16)))
  go_wp2_with fail
  refine (kept_any _ x v1 ys _ (hx.out.below (Below.step b4 g416)) (h1.out.below (Below.step d15 b16)) (by omega)).mono ?_
  rintro e w17 h17
  obtain ⟨rfl, b17⟩ := h17.below
  clear h17
  go_wp2_with fail
  refine (kept_any _ y v2 zs _ (hy.out.below (Below.step g416 b17)) (h2.out.below (Below.step d15 (Below.step b16 b17))) (by omega)).mono ?_
  rintro e w18 h18
  obtain ⟨rfl, b18⟩ := h18.below
  clear h18
  go_wp2
  go_ret
  exact ⟨_, rfl, Below.step b0 (Below.step d15 (Below.step b16 (Below.step b17 b18))), rfl⟩

theorem permutAll_v (r : Nat → Addr) (kr Rr : Int) (u : Value) (T : List Int) (v1 v2 : Value) (ys zs : List Int) (w : World) (hg : Glob r w) (hG : GlobE w) (hT : IntsAt w u T) (h1 : IntsAt w v1 ys) (h2 : IntsAt w v2 zs)
    (hTl : T.length ≤ 17592186043904) (hyl : ys.length ≤ 17592186043904) (hzl : zs.length ≤ 17592186043904) :
    Calls Tryd.prog 9 #[.agg #[.int .i64 kr, .int .i64 Rr, u], v1, v2] w (Ret1 (fun x _ => x = .bool true) w) := by
  obtain ⟨a, n, c, rfl⟩ := hT.shape
  exact permutAll_any r kr Rr a n c T v1 v2 ys zs w hg hG hT h1 h2 hTl hyl hzl
end Go.Proofs.YtmddapkhipmlgaaDoor

namespace Go.Proofs.YtmddapkhipmlgaaDoor
open Go.ChangeShapes Go.WideShapes Go.ChangeAt Go.RowKit Go.Joins
set_option maxRecDepth 100000

theorem own : ownKnob Tryd.prog.godebug = none := by kernel_rfl
theorem laidOut : laidOutB Tryd.prog = true := by kernel_rfl
theorem cellsInt : Tryd.prog.cellsOf 3 = 1 := by kernel_rfl
theorem uInt : Tryd.prog.underlying 3 = some (.int .i64) := by kernel_rfl
theorem bytesInt : Tryd.prog.bytesOf 3 = 8 := by kernel_rfl

theorem i64_of_wf {n : Int} (h : (Lit.int .i64 n).wf = true) : I64 n := by
  have := bounds_i64 h
  unfold I64
  omega

/-- A []int that came in. -/
theorem open_intsV {H : Type} {enc : TypeId × Value → H} {W : World} {held : Bool} {fuel : Nat} {v : Value} {y : DataW H × List MemPlace}
    (h : DataW.trod enc Tryd.prog W 0 (fun _ => true) held fuel 22 [v] = some y) (hw : ∀ n ∈ y.1.weights Tryd.prog 22, n ≤ reachBytes) :
    ∃ xs, IntsAt W v xs ∧ xs.length ≤ 17592186043904 ∧ ∀ x ∈ xs, I64 x := by
  rcases open_ints uInts uInt cellsInt h with ⟨hcs, _⟩ | ⟨a, len, cap, zs, hcs, _, hl, hm, hz, hx, hcell, hwz⟩
  · simp at hcs
    subst hcs
    exact ⟨[], (OwnI.nil 0 W).at, by simp, by simp⟩
  · simp at hcs
    subst hcs
    simp only [if_true] at hz
    have hzl : (zs.take len).length = len := by simp; omega
    refine ⟨zs.take len, ⟨some a, cap, by rw [hzl], by rw [hzl]; exact hl, hm, (fun e => by cases e), fun i hi => ?_⟩, ?_, fun x hx => i64_of_wf (hwz x (List.mem_of_mem_take hx))⟩
    · have hi' : i < zs.length := by rw [hzl] at hi; omega
      show W.cell? (a.add i) = _
      rw [hcell i hi']
      simp [List.getD, hi']
    · rw [hx] at hw
      have := hw ((lits (H := H) .i64 (zs.take len)).length * 8 + (lits (H := H) .i64 (zs.drop len)).length * 8) (by
        simp only [DataW.weights, uInts, bytesInt, List.mem_cons]
        left; omega)
      simp only [lits, List.length_map, reachBytes] at this
      omega

theorem open_intsT {H : Type} {enc : TypeId × Value → H} {W : World} {held : Bool} {v : Value} {d : DataW H} {p : List MemPlace} {b0 : Nat}
    (hv : Value.okWide Tryd.prog W .any b0 22 v) (h : DataW.Trod enc Tryd.prog W 0 (fun _ => true) held 22 v d p) (hw : ∀ n ∈ d.weights Tryd.prog 22, n ≤ reachBytes) :
    ∃ xs, IntsAt W v xs ∧ xs.length ≤ 17592186043904 ∧ ∀ x ∈ xs, I64 x := by
  obtain ⟨a, l, c, rfl⟩ := okWide_slice uInts hv
  obtain ⟨fuel, hf⟩ := h
  exact open_intsV (y := (d, p)) (by simpa [Value.cells] using hf) hw

theorem weights_each3 {H : Type} {t0 t1 t2 : TypeId} {y0 y1 y2 : DataW H} {n : Nat} (h : n ∈ y2.weights Tryd.prog t2) : n ∈ DataW.weightsEach Tryd.prog [t0, t1, t2] [y0, y1, y2] := by
  simp only [DataW.weightsEach, List.mem_append]
  exact .inr (.inr (.inl h))

/-- A rule that came in. -/
theorem open_ruleV {H : Type} {enc : TypeId × Value → H} {W : World} {held : Bool} {v : Value} {d : DataW H} {p : List MemPlace} {b0 : Nat}
    (hv : Value.okWide Tryd.prog W .any b0 24 v) (h : DataW.Trod enc Tryd.prog W 0 (fun _ => true) held 24 v d p) (hw : ∀ n ∈ d.weights Tryd.prog 24, n ≤ reachBytes) :
    ∃ (k R : Int) (u : Value) (xs : List Int), v = .agg #[.int .i64 k, .int .i64 R, u] ∧ IntsAt W u xs ∧ xs.length ≤ 17592186043904 ∧ (∀ x ∈ xs, I64 x) ∧ I64 k ∧ I64 R := by
  obtain ⟨v0, v1, v2, y0, y1, y2, n, rfl, rfl, rfl, h0, h1, h2⟩ := open_agg3 Tryd.underlying24 (by kernel_rfl) (by kernel_rfl) hv h
  obtain ⟨a, e0, _, wa⟩ := DataW.trod_int uInt h0
  obtain ⟨b, e1, _, wb⟩ := DataW.trod_int uInt h1
  simp at e0 e1
  subst e0 e1
  obtain ⟨xs, hx, hl, hb⟩ := open_intsV h2 fun n hn => hw n (by
    simp only [DataW.weights, Tryd.underlying24]
    exact weights_each3 (t0 := 3) (t1 := 3) (t2 := 22) hn)
  exact ⟨a, b, v2, xs, rfl, hx, hl, hb, i64_of_wf wa, i64_of_wf wb⟩

/-! The package-level errors. -/
theorem star : "*" ++ "errors.errorString" = "*errors.errorString" := by decide
theorem rowES (u : TypeId) (h : Tryd.prog.typeName? 3 u = some "*errors.errorString") : u = 187 :=
  typeName_ptr_named (nm := "errors.errorString") (by rw [star]; kernel_rfl) (by kernel_rfl) (by decide) u (by rw [star]; exact h)
theorem pES : Tryd.prog.underlying 187 = some (.pointer 208) := by kernel_rfl
theorem cES : Tryd.prog.cellsOf 208 = 1 := by kernel_rfl
theorem cStr : Tryd.prog.cellsOf 9 = 1 := by kernel_rfl

def laid12 : List (String × DataW Unit) := [("eden/api.BadRule", Rows.laid_eden_api_BadRule), ("eden/api.BadWord", Rows.laid_eden_api_BadWord), ("eden/api.BadArg", Rows.laid_eden_api_BadArg), ("eden/api.TooBig", Rows.laid_eden_api_TooBig), ("eden/api.NoBudget", Rows.laid_eden_api_NoBudget), ("eden/api.BadText", Rows.laid_eden_api_BadText), ("eden/api.BadPatch", Rows.laid_eden_api_BadPatch), ("eden/api.BadCert", Rows.laid_eden_api_BadCert), ("eden/api.NoInverse", Rows.laid_eden_api_NoInverse), ("eden/api.BadLine", Rows.laid_eden_api_BadLine), ("eden/api.BadState", Rows.laid_eden_api_BadState), ("eden/api.Unknown", Rows.laid_eden_api_Unknown)]

theorem sentinel {n : String} {text : List UInt8} {r : List (String × DataW Unit)} {W : World} {g : Nat}
    (h : laidMet Tryd.prog ((n, .iface "*errors.errorString" (.ptr (.agg [.lit (.string text)]))) :: r) W)
    (hg : Tryd.prog.globalNamed n = some g) (ht : (Tryd.prog.globals[g]?).map (·.type) = some 27) :
    (∃ a : Addr, W.cell? ⟨g, 0, none⟩ = some (.iface 187 (.pointer (some a))) ∧ ∃ s, W.cell? a = some (.string s) ∧ s.data.toList = text) ∧ laidMet Tryd.prog r W := by
  refine ⟨?_, h.tail⟩
  obtain ⟨a, s, hv, hc, hs, _⟩ := laid_sentinel h hg ht Tryd.underlying27 rowES pES Tryd.underlying208 rfl rfl Tryd.underlying9 cES cStr
  exact ⟨a, by simpa using World.var?_cell hg hv 0, s, hc, hs⟩

def txt : Nat → List UInt8
  | 1 => [98, 97, 100, 32, 114, 117, 108, 101]
  | 2 => [98, 97, 100, 32, 119, 111, 114, 100]
  | 3 => [98, 97, 100, 32, 97, 114, 103, 117, 109, 101, 110, 116]
  | 4 => [116, 111, 111, 32, 98, 105, 103]
  | 5 => [110, 111, 32, 98, 117, 100, 103, 101, 116]
  | 6 => [98, 97, 100, 32, 116, 101, 120, 116]
  | 7 => [98, 97, 100, 32, 112, 97, 116, 99, 104]
  | 8 => [98, 97, 100, 32, 99, 101, 114, 116, 105, 102, 105, 99, 97, 116, 101]
  | 9 => [110, 111, 32, 105, 110, 118, 101, 114, 115, 101]
  | 10 => [98, 97, 100, 32, 108, 105, 110, 101]
  | 11 => [98, 97, 100, 32, 115, 116, 97, 116, 101]
  | 99 => [117, 110, 107, 110, 111, 119, 110]
  | _ => []
theorem txt_apart : ∀ m n : Fin 12, 1 ≤ m.val → 1 ≤ n.val → txt m.val = txt n.val → m = n := by decide

theorem glob_of_laid {W : World} (h : laidMet Tryd.prog laid12 W) : ∃ r, Glob r W := by
  obtain ⟨⟨a1, c1, s1, e1, t1⟩, h⟩ := sentinel (text := txt 1) h (g := 0) (by kernel_rfl) (by kernel_rfl)
  obtain ⟨⟨a2, c2, s2, e2, t2⟩, h⟩ := sentinel (text := txt 2) h (g := 1) (by kernel_rfl) (by kernel_rfl)
  obtain ⟨⟨a3, c3, s3, e3, t3⟩, h⟩ := sentinel (text := txt 3) h (g := 2) (by kernel_rfl) (by kernel_rfl)
  obtain ⟨⟨a4, c4, s4, e4, t4⟩, h⟩ := sentinel (text := txt 4) h (g := 3) (by kernel_rfl) (by kernel_rfl)
  obtain ⟨⟨a5, c5, s5, e5, t5⟩, h⟩ := sentinel (text := txt 5) h (g := 4) (by kernel_rfl) (by kernel_rfl)
  obtain ⟨⟨a6, c6, s6, e6, t6⟩, h⟩ := sentinel (text := txt 6) h (g := 5) (by kernel_rfl) (by kernel_rfl)
  obtain ⟨⟨a7, c7, s7, e7, t7⟩, h⟩ := sentinel (text := txt 7) h (g := 6) (by kernel_rfl) (by kernel_rfl)
  obtain ⟨⟨a8, c8, s8, e8, t8⟩, h⟩ := sentinel (text := txt 8) h (g := 7) (by kernel_rfl) (by kernel_rfl)
  obtain ⟨⟨a9, c9, s9, e9, t9⟩, h⟩ := sentinel (text := txt 9) h (g := 8) (by kernel_rfl) (by kernel_rfl)
  obtain ⟨⟨a10, c10, s10, e10, t10⟩, h⟩ := sentinel (text := txt 10) h (g := 9) (by kernel_rfl) (by kernel_rfl)
  obtain ⟨⟨a11, c11, s11, e11, t11⟩, h⟩ := sentinel (text := txt 11) h (g := 10) (by kernel_rfl) (by kernel_rfl)
  obtain ⟨⟨a99, c99, s99, e99, t99⟩, h⟩ := sentinel (text := txt 99) h (g := 11) (by kernel_rfl) (by kernel_rfl)
  clear h
  have key : ∀ n : Nat, (1 ≤ n ∧ n ≤ 11) ∨ n = 99 → ∃ s, W.cell? ((fun n : Nat => match n with | 1 => a1 | 2 => a2 | 3 => a3 | 4 => a4 | 5 => a5 | 6 => a6 | 7 => a7 | 8 => a8 | 9 => a9 | 10 => a10 | 11 => a11 | _ => a99) n) = some (.string s) ∧ s.data.toList = txt n := by
    intro n hn
    have : n = 1 ∨ n = 2 ∨ n = 3 ∨ n = 4 ∨ n = 5 ∨ n = 6 ∨ n = 7 ∨ n = 8 ∨ n = 9 ∨ n = 10 ∨ n = 11 ∨ n = 99 := by omega
    rcases this with rfl | rfl | rfl | rfl | rfl | rfl | rfl | rfl | rfl | rfl | rfl | rfl
    · exact ⟨s1, e1, t1⟩
    · exact ⟨s2, e2, t2⟩
    · exact ⟨s3, e3, t3⟩
    · exact ⟨s4, e4, t4⟩
    · exact ⟨s5, e5, t5⟩
    · exact ⟨s6, e6, t6⟩
    · exact ⟨s7, e7, t7⟩
    · exact ⟨s8, e8, t8⟩
    · exact ⟨s9, e9, t9⟩
    · exact ⟨s10, e10, t10⟩
    · exact ⟨s11, e11, t11⟩
    · exact ⟨s99, e99, t99⟩
  refine ⟨(fun n : Nat => match n with | 1 => a1 | 2 => a2 | 3 => a3 | 4 => a4 | 5 => a5 | 6 => a6 | 7 => a7 | 8 => a8 | 9 => a9 | 10 => a10 | 11 => a11 | _ => a99), c1, c2, c3, c4, c5, c6, c7, c8, c9, c10, c11, c99, (fun n hn => ?_), fun m n hm1 hm2 hn1 hn2 he => ?_⟩
  · obtain ⟨s, hs, _⟩ := key n hn
    exact ⟨s, hs⟩
  · obtain ⟨s, hs, ts⟩ := key m.toNat (by omega)
    obtain ⟨s', hs', ts'⟩ := key n.toNat (by omega)
    have hss : s = s' := by
      have := hs.symm.trans ((congrArg W.cell? he).trans hs')
      simpa using this
    subst hss
    have := txt_apart ⟨m.toNat, by omega⟩ ⟨n.toNat, by omega⟩ (by simp; omega) (by simp; omega) (ts.symm.trans ts')
    have := congrArg Fin.val this
    simp at this
    omega
end Go.Proofs.YtmddapkhipmlgaaDoor

namespace Go.Proofs.YtmddapkhipmlgaaDoor
open Go.RowKit
set_option maxRecDepth 100000

def laid13 : List (String × DataW Unit) := ("errors.errorType", Rows.laid_errors_errorType) :: laid12
theorem rtypeNo : (Tryd.prog.cutTypes.find? (·.1 == "internal/reflectlite.rtype")).map (·.2) = some 146 := by kernel_rfl
theorem errorTypeNo : Tryd.prog.globalNamed "errors.errorType" = some 12 := by kernel_rfl
theorem typesNo : Tryd.prog.types.size = 320 - 100 := by kernel_rfl
theorem oneError : ((List.range (320 - 100)).filter fun t => Tryd.prog.rowNamed t [101, 114, 114, 111, 114]) = [27] := by kernel_rfl
theorem handleErr : typeHandle Tryd.prog 27 = .pointer (some ⟨13, 27, none⟩) := by kernel_rfl

theorem glob_of_laidH {W : World} (h : laidMetH Tryd.prog laid13 W) : ∃ r, Glob r W ∧ GlobE W := by
  have h' : laidMet Tryd.prog laid12 W ∧ handlesMet Tryd.prog [("errors.errorType", Rows.laid_errors_errorType)] W := h
  obtain ⟨r, hg⟩ := glob_of_laid h'.1
  refine ⟨r, hg, ?_⟩
  obtain ⟨name, u, ty, e1, e2, e3, e4, e5⟩ := h'.2 _ (List.mem_cons_self ..)
  have en : name = [101, 114, 114, 111, 114] := (Option.some.inj e1).symm
  subst en
  obtain rfl := Option.some.inj (rtypeNo.symm.trans e2)
  have hm : ty ∈ (List.range (320 - 100)).filter fun t => Tryd.prog.rowNamed t [101, 114, 114, 111, 114] := List.mem_filter.2 ⟨List.mem_range.2 (by rw [← typesNo]; exact e3), e4⟩
  rw [oneError] at hm
  obtain rfl := List.mem_singleton.1 hm
  rw [handleErr] at e5
  simpa [GlobE] using World.var?_cell errorTypeNo e5 0
end Go.Proofs.YtmddapkhipmlgaaDoor

namespace Go.Proofs.YtmddapkhipmlgaaDoor
open Go.ChangeShapes Go.WideShapes Go.ChangeAt Go.RowKit Go.Joins
namespace PermutAllP

set_option maxRecDepth 100000 in
theorem door_met (os : Os) (args : Array Value) : laidMetH Tryd.prog Rows.permutAllRow.laid ((World.doorLaid Tryd.prog 400 os).forCall (fun _ _ => 0) ⟨#[], args, []⟩).memory :=
  laidMetH_of_parts3 (fuel := 8) (laidMet_of_run' 8 (by kernel_rfl) (by kernel_rfl)) (by kernel_rfl) (by kernel_rfl)

set_option maxRecDepth 100000 in
theorem lifted (os : Os) (started : os.Started) (H : Type) (enc : TypeId × Value → H) :
    ReturnsInHanded {} Tryd.checked os 9 .any (fun w args => (Rows.permutAllSpec.pre enc Tryd.prog Tryd.f9 [] false w args ∧ laidMetH Tryd.prog Rows.permutAllRow.laid w) ∧ sizedMet enc Tryd.prog Tryd.f9 (OpenSpec.ofChange Rows.permutAllSpec) false w args)
      (Rows.permutAllSpec.post enc Tryd.prog Tryd.f9 false true false false) := by
  refine returnsInHanded_of_change_and (C := Tryd.checked) (X := fun w _ => laidMetH Tryd.prog Rows.permutAllRow.laid w) (fun _ _ _ hh h => h.of_heap hh) own started (by kernel_rfl) Tryd.func9
    (ChangeSpec.witness_shaped (enc := enc) (C := Tryd.checked) (os := os) (X := fun w _ => laidMetH Tryd.prog Rows.permutAllRow.laid w) false (World.doorLaid Tryd.prog 400 os) #[.agg #[.int .i64 0, .int .i64 0, .slice none 0 0], .slice none 0 0, .slice none 0 0] 8 rfl (World.shaped_of_RefB (by kernel_rfl) (by kernel_rfl)) (by kernel_rfl) (by kernel_rfl) (by kernel_rfl) (door_met os _)) ?_
  intro W base args ds gs before hval0 hW _ hsz hL _
  have hval : ∀ (j : Nat) t v, Tryd.f9.params[j]? = some t → args[j]? = some v → Value.okWide Tryd.prog W .any base t v := hval0
  have hW' := hW
  obtain ⟨p, q, hA0, hV, rfl, hfz, hnd⟩ := hW
  have hA : DataW.TrodAll enc Tryd.prog W 0 (fun _ => true) true Tryd.f9.params.toList args.toList ds p := hA0
  rw [Tryd.params9] at hA hval hsz
  obtain ⟨v0, vs0, d0, ds0, p0, q0, hargs, rfl, rfl, g0, t0⟩ := trodAll_cons hA
  obtain ⟨v1, vs1, d1, ds1, p1, q1, rfl, rfl, rfl, g1, t1⟩ := trodAll_cons t0
  obtain ⟨v2, vs2, d2, ds2, p2, q2, rfl, rfl, rfl, g2, t2⟩ := trodAll_cons t1
  obtain ⟨rfl, rfl, rfl⟩ := trodAll_nil t2
  obtain rfl : args = #[v0, v1, v2] := by cases args; simp_all
  obtain ⟨rfl, rfl⟩ := trodVars_none hV
  have kk0 := g0
  have lt0 : ∀ x ∈ p0, x.block < W.heap.size := by obtain ⟨m, hm⟩ := kk0; exact DataW.trod_lt m _ _ _ hm
  obtain ⟨kr0, rr0, u0, x0, rfl, h0, l0, b0, bk0, br0⟩ := open_ruleV (hval 0 24 v0 rfl rfl) g0 (fun n hn => by
    have := List.all_eq_true.1 hsz n (DataW.weights_mem_each (j := 0) (t := 24) rfl rfl n hn)
    simpa using this)
  have kk1 := g1
  have lt1 : ∀ x ∈ p1, x.block < W.heap.size := by obtain ⟨m, hm⟩ := kk1; exact DataW.trod_lt m _ _ _ hm
  obtain ⟨x1, h1, l1, b1⟩ := open_intsT (hval 1 22 v1 rfl rfl) g1 (fun n hn => by
    have := List.all_eq_true.1 hsz n (DataW.weights_mem_each (j := 1) (t := 22) rfl rfl n hn)
    simpa using this)
  have kk2 := g2
  have lt2 : ∀ x ∈ p2, x.block < W.heap.size := by obtain ⟨m, hm⟩ := kk2; exact DataW.trod_lt m _ _ _ hm
  obtain ⟨x2, h2, l2, b2⟩ := open_intsT (hval 2 22 v2 rfl rfl) g2 (fun n hn => by
    have := List.all_eq_true.1 hsz n (DataW.weights_mem_each (j := 2) (t := 22) rfl rfl n hn)
    simpa using this)
  obtain ⟨r, hg, hG⟩ := glob_of_laidH (W := W) (by
    exact hL)
  clear hA0 hval0
  refine (permutAll_v r kr0 rr0 u0 x0 v1 v2 x1 x2 W hg hG h0 h1 h2 l0 l1 l2).mono fun e W' ⟨x, he, bel, hxx⟩ => ?_
  subst he; subst hxx
  exact ⟨_, rfl, _, _, _, [], _, [], hW', trodAll_mk1 (shut_bool Tryd.underlying4 _), (trodAll_cons_mk (Below.trod laidOut (by kernel_rfl) (of_decide_eq_true (by kernel_rfl)) kk0 bel lt0) (trodAll_cons_mk (Below.trod laidOut (by kernel_rfl) (of_decide_eq_true (by kernel_rfl)) kk1 bel lt1) (trodAll_cons_mk (Below.trod laidOut (by kernel_rfl) (of_decide_eq_true (by kernel_rfl)) kk2 bel lt2) trodAll_mk0))), rfl, bel.frame _, fun h => by cases h⟩

theorem over : Rows.PermutAllSaid :=
  OpenClaim.holds_of_wide 9 Tryd.f9 rfl rfl rfl rfl rfl rfl rfl ⟨rfl, rfl, rfl, rfl, rfl⟩ rfl rfl rfl rfl rfl (by kernel_rfl) Tryd.func9 (by kernel_rfl)
    (of_decide_eq_true (by kernel_rfl)) (by unfold Func.isWrapper; first | (rw [if_pos (by decide +kernel)]; kernel_rfl) | (rw [if_neg (by decide +kernel)]; exact ⟨rfl, rfl⟩))
    (fun os started H enc _ => lifted os started H enc)

/-- The tied card. -/
theorem card_holds : Rows.PermutAllCardSaid :=
  Claim7.holds_tied_plain_at .later [] [.handle, .sentinel, .sentinel, .sentinel, .sentinel, .sentinel, .sentinel, .sentinel, .sentinel, .sentinel, .sentinel, .sentinel, .sentinel] true _ true
    over (fun _ h => by cases h) (by kernel_rfl) (fun _ h => by cases h) permutAll_row_tie rfl ⟨rfl, rfl⟩ (by kernel_rfl) rfl
    (fun f fn hf hfn => by
      obtain rfl : f = 9 := Option.some.inj ((show Tryd.prog.funcNamed Rows.permutAllRow.func = some 9 by kernel_rfl).symm.trans hf) |>.symm
      obtain rfl : fn = Tryd.f9 := (Option.some.inj (Tryd.func9.symm.trans hfn)).symm
      exact ⟨by kernel_rfl, fun j t ht => by
        rw [Tryd.params9] at ht
        have hm : t ∈ [24, 22, 22] := by simpa using Array.mem_of_getElem? ht
        have hall : ([24, 22, 22].all fun u => !Tryd.prog.wantsStandIn u) = true := by kernel_rfl
        exact (show Tryd.prog.wantsStandIn t = false by simpa using List.all_eq_true.1 hall t hm)⟩)
    (by kernel_rfl)
end PermutAllP
#print axioms PermutAllP.card_holds
end Go.Proofs.YtmddapkhipmlgaaDoor
