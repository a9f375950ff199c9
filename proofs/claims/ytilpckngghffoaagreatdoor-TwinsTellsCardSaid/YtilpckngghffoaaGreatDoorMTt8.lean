/-
  Proved: the law edenlaw15.TwinsTells as its tied card: it returns true and never panics, for any rule. No conditions beyond the card's own.
  Walk: edenref15.Check.
  Walk: edenlaw13.awake.
  Walk: edenlaw15.awake; twins.Check at a rule that is none.
  Walks: edenraw.LentRule, KeptRule.
  Walk: edenlaw15.TwinsChecks returns true.
  Walk: edenraw.Lists at equal lists.
  Walk: edenlaw13.PairsGraphs returns true.
  Walk: edenlaw15.TwinsTells returns true.
  Opening what a call is handed: []int, api.Rule, the package-level errors.
  From a card's list of laid variables that holds the handle of the type error: the package errors and errors.errorType.
-/
import Derived.Test.YtilpckngghffoaaGreatDoorMTt7
import Derived.Deep.RegionHeld3
import Derived.Deep.DeepCutAuto
import Derived.Test.YtilpckngghffoaaGreatDoorRows
import Derived.ProofKit
import Derived.OpenShut
import Derived.ShutString
import Derived.ChangeOld
import Derived.LaidMore
import Derived.Stop.Joined
import Derived.Stop.LaidErr
import Derived.Lib.SmallJoins
import Derived.LaidHandle
import Derived.Test.YtilpckngghffoaaGreatDoorCards
import Derived.Test.YtilpckngghffoaaGreatDoorTie
import Derived.SevenTiedAt
namespace Go.Proofs.YtilpckngghffoaaGreatDoor
open Go.RowKit
set_option maxRecDepth 100000

set_option maxHeartbeats 2000000 in
theorem ref15c_bad (k R : Int) (va : Option Addr) (vn vc : Nat) (T : List Int) (u v : Value) (t : Int × List (ByteArray × Int)) (w : World) (h : IntsAt w (.slice va vn vc) T) (hc : smallP k R T = some t) :
    Calls Tryz.prog 14 #[.agg #[.int .i64 k, .int .i64 R, .slice va vn vc], u, v] w (Ret1 (fun x w' => EOwn w.heap.size w' (under sTwins 0 (some t)) x) w) := by
  have b0 := Below.step (belowAlloc w (.cells #[.int .i64 k, .int .i64 R, .slice va vn vc] 24)) (belowAlloc _ (.cells #[.int .i64 0, .slice none 0 0, .slice none 0 0] 33))
  have q4 : Box3 ((w.alloc (.cells #[.int .i64 k, .int .i64 R, .slice va vn vc] 24)).alloc (.cells #[.int .i64 0, .slice none 0 0, .slice none 0 0] 33)) (w.heap.size + 1) (.int .i64 0) (.slice none 0 0) (.slice none 0 0) := by simp [Box3, go_sem]
  have s0 : ((w.alloc (.cells #[.int .i64 k, .int .i64 R, .slice va vn vc] 24)).alloc (.cells #[.int .i64 0, .slice none 0 0, .slice none 0 0] 33)).heap.size = w.heap.size + 2 := by simp
  replace h := Lib.hid (h.below b0)
  replace hc := Lib.hid hc
  replace s0 := Lib.hid s0
  go_enter Tryz.func14, Tryz.ntmps14
  go_wp2_with fail
  refine (ref08_fault _ k R va vn vc T _ h.out).mono ?_
  rintro e w1 ⟨x, rfl, b1, he⟩
  rw [hc.out] at he
  obtain ⟨n, l⟩ := t
  have hn := smallP_num hc.out
  have he' := he
  obtain ⟨a1, n1, c1, a2, n2, c2, rfl, _, _⟩ := he'
  obtain ⟨be, ⟨⟨y0, y1, y2⟩, -, -, -⟩⟩ := err_box8 w1 (.int .i64 n) (.slice a1 n1 c1) (.slice a2 n2 c2)
  have c1e := Below.step b1 be
  have hs1 := b1.size
  rw [s0.out] at hs1
  have hn0 : (n != 0) = true := by rw [bne_iff_ne]; omega
  have heb := he.below be
  obtain ⟨W2, hW2⟩ : ∃ W2 : World, w1.alloc (.cells #[.int .i64 n, .slice a1 n1 c1, .slice a2 n2 c2] 33) = W2 := ⟨_, rfl⟩
  rw [hW2] at be c1e heb y0 y1 y2
  replace hW2 := Lib.hid hW2
  replace he := Lib.hid he
  replace heb := Lib.hid heb
  go_upto_region 2 with fail
  rw [hW2.out]
  go_wp2_with fail
  refine (err_bad _ _ _ _ _ _ _ W2).mono ?_
  rintro e w3 ⟨_, rfl, b3, rfl⟩
  rw [hn0]
  have hey := heb.out.below b3
  have c3 := Below.step c1e b3
  obtain ⟨⟨u0, u1, u2⟩, f0, f1, f2⟩ := q4.below c3
  replace y0 := (b3.cell (World.block_lt_of_cell? _ _ y0)).trans y0
  replace y1 := (b3.cell (World.block_lt_of_cell? _ _ y1)).trans y1
  replace y2 := (b3.cell (World.block_lt_of_cell? _ _ y2)).trans y2
  replace hey := Lib.hid hey
  go_wp2
  refine bodyPost_ret (v := .agg #[.int .i64 n, .slice a1 n1 c1, .slice a2 n2 c2]) (by simp [results, Tryz.results14, go_sem, u0, u1, u2]) rfl ⟨_, rfl, below_set3 (Below.step b0 c3) (by omega) _ _ _, ?_⟩
  have := s0.out
  exact (hey.out.set3 (by omega) _ _ _).mono (by omega)

set_option maxHeartbeats 8000000 in
theorem ref15c_ok (K R : Nat) (va : Option Addr) (vn vc : Nat) (T : List Int) (u : Value) (a : List Int) (v : Value) (b : List Int) (w : World) (h : IntsAt w (.slice va vn vc) T) (hr : RuleOk K R T) (hl : T.length ≤ 256) (hu : IntsAt w u a) (hv : IntsAt w v b) :
    Calls Tryz.prog 14 #[.agg #[.int .i64 K, .int .i64 R, .slice va vn vc], u, v] w (Ret1 (fun x w' => EOwn w.heap.size w' (twinsP sTwins K R (imgP K R T) a b) x) w) := by
  have bA := Below.step (belowAlloc w (.cells #[.int .i64 K, .int .i64 R, .slice va vn vc] 24)) (belowAlloc _ (.cells #[.int .i64 0, .slice none 0 0, .slice none 0 0] 33))
  have qA : Box3 ((w.alloc (.cells #[.int .i64 K, .int .i64 R, .slice va vn vc] 24)).alloc (.cells #[.int .i64 0, .slice none 0 0, .slice none 0 0] 33)) w.heap.size (.int .i64 K) (.int .i64 R) (.slice va vn vc) := by simp [Box3, go_sem]
  have q4A : Box3 ((w.alloc (.cells #[.int .i64 K, .int .i64 R, .slice va vn vc] 24)).alloc (.cells #[.int .i64 0, .slice none 0 0, .slice none 0 0] 33)) (w.heap.size + 1) (.int .i64 0) (.slice none 0 0) (.slice none 0 0) := by simp [Box3, go_sem]
  have sA0 : ((w.alloc (.cells #[.int .i64 K, .int .i64 R, .slice va vn vc] 24)).alloc (.cells #[.int .i64 0, .slice none 0 0, .slice none 0 0] 33)).heap.size = w.heap.size + 2 := by simp
  have lA := hu.len
  have lB := hv.len
  have mA := hu.len_le
  have mB := hv.len_le
  have hR3 := hr.r3
  obtain ⟨ua, un, uc, rfl⟩ := hu.shape
  obtain ⟨wa, wn, wc, rfl⟩ := hv.shape
  have hsm : smallP K R T = none := by rw [smallP_ok hr, if_neg (by omega)]
  obtain ⟨WA, hWA⟩ : ∃ W : World, ((w.alloc (.cells #[.int .i64 K, .int .i64 R, .slice va vn vc] 24)).alloc (.cells #[.int .i64 0, .slice none 0 0, .slice none 0 0] 33)) = W := ⟨_, rfl⟩
  replace h := h.below bA
  replace hu := hu.below bA
  replace hv := hv.below bA
  rw [hWA] at h hu hv bA qA q4A sA0
  obtain ⟨e0, he0⟩ : ∃ e0, twinsP sTwins K R (imgP K R T) a b = e0 := ⟨_, rfl⟩
  rw [he0]
  unfold twinsP at he0
  replace h := Lib.hid h
  replace hu := Lib.hid hu
  replace hv := Lib.hid hv
  replace hr := Lib.hid hr
  replace hsm := Lib.hid hsm
  replace hl := Lib.hid hl
  replace he0 := Lib.hid he0
  replace hWA := Lib.hid hWA
  replace sA0 := Lib.hid sA0
  have qA0 := qA
  obtain ⟨⟨z0, z1, z2⟩, -, -, -⟩ := qA0
  go_enter Tryz.func14, Tryz.ntmps14
  go_upto_region 1 with fail
  rw [hWA.out]
  go_wp2_with fail
  refine (ref08_fault _ K R va vn vc T WA h.out).mono ?_
  rintro e w1 ⟨x, rfl, b1, he⟩
  rw [hsm.out] at he
  obtain rfl : x = .agg #[.int .i64 0, .slice none 0 0, .slice none 0 0] := he
  obtain ⟨be, ⟨⟨y0, y1, y2⟩, -, -, -⟩⟩ := err_box8 w1 (.int .i64 0) (.slice none 0 0) (.slice none 0 0)
  have c1e := Below.step b1 be
  obtain ⟨W2, hW2⟩ : ∃ W2 : World, w1.alloc (.cells #[.int .i64 0, .slice none 0 0, .slice none 0 0] 33) = W2 := ⟨_, rfl⟩
  rw [hW2] at be c1e y0 y1 y2
  replace hW2 := Lib.hid hW2
  clear z0 z1 z2
  go_upto_region 2 with fail
  rw [hW2.out]
  go_wp2_with fail
  refine (err_bad _ _ _ _ _ _ _ W2).mono ?_
  rintro e W0 ⟨_, rfl, b3, rfl⟩
  rw [show ((0 : Int) != 0) = false from rfl]
  have cA := Below.step c1e b3
  have b0 := Below.step bA cA
  have q := qA.below cA
  have q4 := q4A.below cA
  have s0 := cA.size
  rw [sA0.out] at s0
  replace h := Lib.hid (h.out.below cA)
  replace hu := Lib.hid (hu.out.below cA)
  replace hv := Lib.hid (hv.out.below cA)
  clear y0 y1 y2 qA q4A
  have q0 := q
  obtain ⟨⟨z0, z1, z2⟩, -, -, -⟩ := q0
  by_cases hA : 16384 < a.length
  · have d1 : decide ((16384 : Int) < (a.length : Int)) = true := decide_eq_true (by omega)
    have he := he0.out
    rw [if_pos (.inl hA)] at he
    replace he := Lib.hid he
    go_wp2_with fail
    refine (raw_new _ 1 4 W0).mono ?_
    rintro e w9 ⟨y, rfl, b9, hy⟩
    obtain ⟨q9, a9, n9, c9, a8, n8, c8, rfl⟩ := hy.shape
    obtain ⟨⟨v0, v1, v2⟩, g0, g1, g2⟩ := q4.below (Below.step (Below.refl W0.heap.size W0) b9)
    have sW := ((Below.refl W0.heap.size W0)).size
    replace hy := Lib.hid hy
    clear z0 z1 z2
    go_wp2
    refine bodyPost_ret (v := .agg #[.int .i64 q9, .slice a9 n9 c9, .slice a8 n8 c8]) (by simp [results, Tryz.results14, go_sem, v0, v1, v2]) rfl ⟨_, rfl, below_set3 (Below.step b0 b9) (by omega) _ _ _, ?_⟩
    rw [← he.out]
    exact (hy.out.set3 (by omega) _ _ _).mono (by omega)
  by_cases hB : 16384 < b.length
  · have d1 : decide ((16384 : Int) < (a.length : Int)) = false := decide_eq_false (by omega)
    have d2 : decide ((16384 : Int) < (b.length : Int)) = true := decide_eq_true (by omega)
    have he := he0.out
    rw [if_pos (.inr hB)] at he
    replace he := Lib.hid he
    go_wp2_with fail
    refine (raw_new _ 1 4 W0).mono ?_
    rintro e w9 ⟨y, rfl, b9, hy⟩
    obtain ⟨q9, a9, n9, c9, a8, n8, c8, rfl⟩ := hy.shape
    obtain ⟨⟨v0, v1, v2⟩, g0, g1, g2⟩ := q4.below (Below.step (Below.refl W0.heap.size W0) b9)
    have sW := ((Below.refl W0.heap.size W0)).size
    replace hy := Lib.hid hy
    clear z0 z1 z2
    go_wp2
    refine bodyPost_ret (v := .agg #[.int .i64 q9, .slice a9 n9 c9, .slice a8 n8 c8]) (by simp [results, Tryz.results14, go_sem, v0, v1, v2]) rfl ⟨_, rfl, below_set3 (Below.step b0 b9) (by omega) _ _ _, ?_⟩
    rw [← he.out]
    exact (hy.out.set3 (by omega) _ _ _).mono (by omega)
  have he1 := he0.out
  rw [if_neg (by omega)] at he1
  replace he1 := Lib.hid he1
  clear he0
  have d1 : decide ((16384 : Int) < (a.length : Int)) = false := decide_eq_false (by omega)
  have d2 : decide ((16384 : Int) < (b.length : Int)) = false := decide_eq_false (by omega)
  go_wp2_with fail
  refine (ref_bad K _ a W0 hu.out).mono ?_
  rintro e w2 ⟨rfl, rfl⟩
  by_cases hi : 0 ≤ idxOf (odd1 K) a
  · have he := he1.out
    rw [if_pos hi] at he
    replace he := Lib.hid he
    generalize idxOf (odd1 K) a = i at *
    have d3 : decide ((0 : Int) ≤ i) = true := decide_eq_true hi
    go_wp2_with fail
    refine (raw_new _ i 2 W0).mono ?_
    rintro e w9 ⟨y, rfl, b9, hy⟩
    obtain ⟨q9, a9, n9, c9, a8, n8, c8, rfl⟩ := hy.shape
    obtain ⟨⟨v0, v1, v2⟩, g0, g1, g2⟩ := q4.below (Below.step (Below.refl W0.heap.size W0) b9)
    have sW := ((Below.refl W0.heap.size W0)).size
    replace hy := Lib.hid hy
    clear z0 z1 z2
    go_wp2
    refine bodyPost_ret (v := .agg #[.int .i64 q9, .slice a9 n9 c9, .slice a8 n8 c8]) (by simp [results, Tryz.results14, go_sem, v0, v1, v2]) rfl ⟨_, rfl, below_set3 (Below.step b0 b9) (by omega) _ _ _, ?_⟩
    rw [← he.out]
    exact (hy.out.set3 (by omega) _ _ _).mono (by omega)
  have he2 := he1.out
  rw [if_neg hi] at he2
  have sA := idxOf_syms.1 hi
  have eA := sA.odd
  rw [eA]
  replace sA := Lib.hid sA
  replace eA := Lib.hid eA
  replace he2 := Lib.hid he2
  clear he1 hi
  go_wp2_with fail
  refine (ref_bad K _ b W0 hv.out).mono ?_
  rintro e w2 ⟨rfl, rfl⟩
  by_cases hi : 0 ≤ idxOf (odd1 K) b
  · have he := he2.out
    rw [if_pos hi] at he
    replace he := Lib.hid he
    have hib : idxOf (odd1 K) b < b.length := by
      rcases idxOf_cases (odd1 K) b with ⟨k1, _⟩ | ⟨k, k1, k2, _⟩ <;> omega
    generalize idxOf (odd1 K) b = i at *
    have d3 : decide ((0 : Int) ≤ i) = true := decide_eq_true hi
    go_wp2_with fail
    refine (raw_new _ ((a.length : Int) + i) 2 W0).mono ?_
    rintro e w9 ⟨y, rfl, b9, hy⟩
    obtain ⟨q9, a9, n9, c9, a8, n8, c8, rfl⟩ := hy.shape
    obtain ⟨⟨v0, v1, v2⟩, g0, g1, g2⟩ := q4.below (Below.step (Below.refl W0.heap.size W0) b9)
    have sW := ((Below.refl W0.heap.size W0)).size
    replace hy := Lib.hid hy
    clear z0 z1 z2
    go_wp2
    refine bodyPost_ret (v := .agg #[.int .i64 q9, .slice a9 n9 c9, .slice a8 n8 c8]) (by simp [results, Tryz.results14, go_sem, v0, v1, v2]) rfl ⟨_, rfl, below_set3 (Below.step b0 b9) (by omega) _ _ _, ?_⟩
    rw [← he.out]
    exact (hy.out.set3 (by omega) _ _ _).mono (by omega)
  have he3 := he2.out
  rw [if_neg hi] at he3
  have sB := idxOf_syms.1 hi
  have eB := sB.odd
  rw [eB]
  replace sB := Lib.hid sB
  replace eB := Lib.hid eB
  replace he3 := Lib.hid he3
  clear he2 hi
  by_cases hlen : a.length = b.length
  case neg =>
    have d3 : ((a.length : Int) != (b.length : Int)) = true := by simp; omega
    have he := he3.out
    rw [if_pos (.inl hlen)] at he
    replace he := Lib.hid he
    clear hlen
    go_wp2_with fail
    refine (raw_new _ 1 3 W0).mono ?_
    rintro e w9 ⟨y, rfl, b9, hy⟩
    obtain ⟨q9, a9, n9, c9, a8, n8, c8, rfl⟩ := hy.shape
    obtain ⟨⟨v0, v1, v2⟩, g0, g1, g2⟩ := q4.below (Below.step (Below.refl W0.heap.size W0) b9)
    have sW := ((Below.refl W0.heap.size W0)).size
    replace hy := Lib.hid hy
    clear z0 z1 z2
    go_wp2
    refine bodyPost_ret (v := .agg #[.int .i64 q9, .slice a9 n9 c9, .slice a8 n8 c8]) (by simp [results, Tryz.results14, go_sem, v0, v1, v2]) rfl ⟨_, rfl, below_set3 (Below.step b0 b9) (by omega) _ _ _, ?_⟩
    rw [← he.out]
    exact (hy.out.set3 (by omega) _ _ _).mono (by omega)
  have d3 : ((a.length : Int) != (b.length : Int)) = false := by simp; omega
  replace hlen := Lib.hid hlen
  have heqc := ints_any (.slice ua un uc) (.slice wa wn wc) a b W0 hu.out hv.out
  replace heqc := Lib.hid heqc
  go_wp2_with fail
  refine heqc.out.mono ?_
  rintro e w4 ⟨n4, rfl, rfl⟩
  have c4 := below_drewN (Below.refl W0.heap.size W0) n4
  have b04 := below_drewN b0 n4
  clear z0 z1 z2
  obtain ⟨⟨z0, z1, z2⟩, -, -, -⟩ := q.below c4
  by_cases hab : a = b
  · have he := he3.out
    rw [if_pos (.inr hab)] at he
    have d4 : decide (a = b) = true := decide_eq_true hab
    rw [d4]
    replace he := Lib.hid he
    replace hab := Lib.hid hab
    clear d4 heqc
    go_wp2_with fail
    refine (raw_new _ 1 3 (W0.drewN n4)).mono ?_
    rintro e w9 ⟨y, rfl, b9, hy⟩
    obtain ⟨q9, a9, n9, c9, a8, n8, c8, rfl⟩ := hy.shape
    obtain ⟨⟨v0, v1, v2⟩, g0, g1, g2⟩ := q4.below (Below.step c4 b9)
    have sW := (c4).size
    replace hy := Lib.hid hy
    clear z0 z1 z2
    go_wp2
    refine bodyPost_ret (v := .agg #[.int .i64 q9, .slice a9 n9 c9, .slice a8 n8 c8]) (by simp [results, Tryz.results14, go_sem, v0, v1, v2]) rfl ⟨_, rfl, below_set3 (Below.step b04 b9) (by omega) _ _ _, ?_⟩
    rw [← he.out]
    exact (hy.out.set3 (by omega) _ _ _).mono (by omega)
  have he4 := he3.out
  rw [if_neg (fun q => q.elim (fun q => q hlen.out) hab)] at he4
  have d4 : decide (a = b) = false := decide_eq_false hab
  rw [d4]
  replace he4 := Lib.hid he4
  replace hab := Lib.hid hab
  clear d4 heqc he3
  obtain ⟨w5, hw5⟩ : ∃ W : World, W0.drewN n4 = W := ⟨_, rfl⟩
  rw [hw5] at c4 b04 z0 z1 z2 ⊢
  clear hw5
  obtain ⟨W5, hW5⟩ : ∃ W : World, w5.drew = W := ⟨_, rfl⟩
  have c5 : Below W0.heap.size W0 W5 := by rw [← hW5]; exact c4.drew
  have b05 : Below w.heap.size w W5 := by rw [← hW5]; exact b04.drew
  replace hW5 := Lib.hid hW5
  have hS : True := trivial
  by_cases hlow : a.length < 2 * R
  · have d5 : decide ((a.length : Int) < 2 * (R : Int)) = true := decide_eq_true (by omega)
    have he := he4.out
    rw [if_pos (.inl hlow)] at he
    replace he := Lib.hid he
    go_upto_region 15 with fail
    refine wp_region_plan (fun _ => True) 29 [(0, true), (1, true), (2, true), (3, true), (4, true), (5, true), (6, true), (7, true), (8, true), (9, true), (10, true), (11, false), (12, true), (13, true), (14, true), (15, true), (16, true), (17, true), (18, true), (19, true), (20, true), (21, true), (22, true), (23, true), (24, true), (25, true), (26, true), (27, false), (28, true)] (by kernel_rfl) (by kernel_rfl) ?_
    rw [hW5.out]
    refine headY (v := ?_) (some 57) rfl rfl (Or.inl ⟨by rfl, ?_⟩) hS ?_
    rotate_left
    · rintro W' _; go_simp; try with_reducible rfl
    simp only [Act.put, List.setIfInBounds_toArray, List.set_cons_zero, List.set_cons_succ]
    refine headY (v := ?_) (some 58) rfl rfl (Or.inl ⟨by rfl, ?_⟩) hS ?_
    rotate_left
    · rintro W' _; go_simp; try with_reducible rfl
    simp only [Act.put, List.setIfInBounds_toArray, List.set_cons_zero, List.set_cons_succ]
    refine headY (v := ?_) (some 59) rfl rfl (Or.inl ⟨by rfl, ?_⟩) hS ?_
    rotate_left
    · rintro W' _; go_simp; try with_reducible rfl
    simp only [Act.put, List.setIfInBounds_toArray, List.set_cons_zero, List.set_cons_succ]
    refine headY (v := ?_) (some 60) rfl rfl (Or.inl ⟨by rfl, ?_⟩) hS ?_
    rotate_left
    · rintro W' _; go_simp; try with_reducible rfl
    simp only [Act.put, List.setIfInBounds_toArray, List.set_cons_zero, List.set_cons_succ]
    refine headY (v := ?_) (some 61) rfl rfl (Or.inl ⟨by rfl, ?_⟩) hS ?_
    rotate_left
    · rintro W' _; go_simp; try with_reducible rfl
    simp only [Act.put, List.setIfInBounds_toArray, List.set_cons_zero, List.set_cons_succ]
    refine headY (v := undef) (some 62) rfl rfl (Or.inr ⟨by rfl, rfl⟩) hS ?_
    simp only [Act.put, List.setIfInBounds_toArray, List.set_cons_zero, List.set_cons_succ]
    refine headY (v := undef) (some 63) rfl rfl (Or.inr ⟨by rfl, rfl⟩) hS ?_
    simp only [Act.put, List.setIfInBounds_toArray, List.set_cons_zero, List.set_cons_succ]
    refine headY (v := undef) (some 64) rfl rfl (Or.inr ⟨by rfl, rfl⟩) hS ?_
    simp only [Act.put, List.setIfInBounds_toArray, List.set_cons_zero, List.set_cons_succ]
    refine headY (v := undef) (some 65) rfl rfl (Or.inr ⟨by rfl, rfl⟩) hS ?_
    simp only [Act.put, List.setIfInBounds_toArray, List.set_cons_zero, List.set_cons_succ]
    refine headY (v := undef) (some 66) rfl rfl (Or.inr ⟨by rfl, rfl⟩) hS ?_
    simp only [Act.put, List.setIfInBounds_toArray, List.set_cons_zero, List.set_cons_succ]
    refine headY (v := undef) (some 67) rfl rfl (Or.inr ⟨by rfl, rfl⟩) hS ?_
    simp only [Act.put, List.setIfInBounds_toArray, List.set_cons_zero, List.set_cons_succ]
    refine headC rfl (fun KK hK => ?_)
    go_simp
    refine hK _ _ hS ?_
    clear hK KK
    refine headY (v := undef) (some 69) rfl rfl (Or.inr ⟨by rfl, rfl⟩) hS ?_
    simp only [Act.put, List.setIfInBounds_toArray, List.set_cons_zero, List.set_cons_succ]
    refine headY (v := ?_) (some 70) rfl rfl (Or.inl ⟨by rfl, ?_⟩) hS ?_
    rotate_left
    · rintro W' _; go_simp; try with_reducible rfl
    simp only [Act.put, List.setIfInBounds_toArray, List.set_cons_zero, List.set_cons_succ]
    refine headY (v := ?_) (some 71) rfl rfl (Or.inl ⟨by rfl, ?_⟩) hS ?_
    rotate_left
    · rintro W' _; go_simp; try with_reducible rfl
    simp only [Act.put, List.setIfInBounds_toArray, List.set_cons_zero, List.set_cons_succ]
    refine headY (v := undef) (some 72) rfl rfl (Or.inr ⟨by rfl, rfl⟩) hS ?_
    simp only [Act.put, List.setIfInBounds_toArray, List.set_cons_zero, List.set_cons_succ]
    refine headY (v := undef) (some 73) rfl rfl (Or.inr ⟨by rfl, rfl⟩) hS ?_
    simp only [Act.put, List.setIfInBounds_toArray, List.set_cons_zero, List.set_cons_succ]
    refine headY (v := undef) (some 74) rfl rfl (Or.inr ⟨by rfl, rfl⟩) hS ?_
    simp only [Act.put, List.setIfInBounds_toArray, List.set_cons_zero, List.set_cons_succ]
    refine headY (v := undef) (some 75) rfl rfl (Or.inr ⟨by rfl, rfl⟩) hS ?_
    simp only [Act.put, List.setIfInBounds_toArray, List.set_cons_zero, List.set_cons_succ]
    refine headY (v := undef) (some 76) rfl rfl (Or.inr ⟨by rfl, rfl⟩) hS ?_
    simp only [Act.put, List.setIfInBounds_toArray, List.set_cons_zero, List.set_cons_succ]
    refine headY (v := undef) (some 77) rfl rfl (Or.inr ⟨by rfl, rfl⟩) hS ?_
    simp only [Act.put, List.setIfInBounds_toArray, List.set_cons_zero, List.set_cons_succ]
    refine headY (v := undef) (some 78) rfl rfl (Or.inr ⟨by rfl, rfl⟩) hS ?_
    simp only [Act.put, List.setIfInBounds_toArray, List.set_cons_zero, List.set_cons_succ]
    refine headY (v := undef) (some 79) rfl rfl (Or.inr ⟨by rfl, rfl⟩) hS ?_
    simp only [Act.put, List.setIfInBounds_toArray, List.set_cons_zero, List.set_cons_succ]
    refine headY (v := undef) (some 80) rfl rfl (Or.inr ⟨by rfl, rfl⟩) hS ?_
    simp only [Act.put, List.setIfInBounds_toArray, List.set_cons_zero, List.set_cons_succ]
    refine headY (v := undef) (some 81) rfl rfl (Or.inr ⟨by rfl, rfl⟩) hS ?_
    simp only [Act.put, List.setIfInBounds_toArray, List.set_cons_zero, List.set_cons_succ]
    refine headY (v := undef) (some 82) rfl rfl (Or.inr ⟨by rfl, rfl⟩) hS ?_
    simp only [Act.put, List.setIfInBounds_toArray, List.set_cons_zero, List.set_cons_succ]
    refine headY (v := undef) (some 83) rfl rfl (Or.inr ⟨by rfl, rfl⟩) hS ?_
    simp only [Act.put, List.setIfInBounds_toArray, List.set_cons_zero, List.set_cons_succ]
    refine headC rfl (fun KK hK => ?_)
    go_simp
    refine hK _ _ hS ?_
    clear hK KK
    refine headY (v := undef) (some 85) rfl rfl (Or.inr ⟨by rfl, rfl⟩) hS ?_
    simp only [Act.put, List.setIfInBounds_toArray, List.set_cons_zero, List.set_cons_succ]
    refine head0 ?_
    simp only [List.drop_succ_cons, List.drop_zero]
    clear z0 z1 z2
    obtain ⟨⟨z0, z1, z2⟩, -, -, -⟩ := q.below c5
    go_wp2
    refine NoPanic.normal ?_
    go_wp2_with fail
    refine (raw_new _ 2 3 W5).mono ?_
    rintro e w9 ⟨y, rfl, b9, hy⟩
    obtain ⟨q9, a9, n9, c9, a8, n8, c8, rfl⟩ := hy.shape
    obtain ⟨⟨v0, v1, v2⟩, g0, g1, g2⟩ := q4.below (Below.step c5 b9)
    have sW := (c5).size
    replace hy := Lib.hid hy
    clear z0 z1 z2
    go_wp2
    refine bodyPost_ret (v := .agg #[.int .i64 q9, .slice a9 n9 c9, .slice a8 n8 c8]) (by simp [results, Tryz.results14, go_sem, v0, v1, v2]) rfl ⟨_, rfl, below_set3 (Below.step b05 b9) (by omega) _ _ _, ?_⟩
    rw [← he.out]
    exact (hy.out.set3 (by omega) _ _ _).mono (by omega)
  have d5 : decide ((a.length : Int) < 2 * (R : Int)) = false := decide_eq_false (by omega)
  obtain ⟨fa, hfa, hFA⟩ := (hu.out.below c5).front (2 * R) (by omega)
  obtain ⟨fb, hfb, hFB⟩ := (hv.out.below c5).front (2 * R) (by have := hlen.out; omega)
  have hsa : ∀ w', (Instr.slice 22 (.slice ua un uc) none (some (.int .i64 (2 * (R : Int)))) none).run Tryz.prog w' = .ok fa w' := by
    intro w'; have := hfa w'; rwa [show (((2 * R : Nat) : Nat) : Int) = 2 * (R : Int) by omega] at this
  have hsb : ∀ w', (Instr.slice 22 (.slice wa wn wc) none (some (.int .i64 (2 * (R : Int)))) none).run Tryz.prog w' = .ok fb w' := by
    intro w'; have := hfb w'; rwa [show (((2 * R : Nat) : Nat) : Int) = 2 * (R : Int) by omega] at this
  obtain ⟨ga, hga, hGA⟩ := (hu.out.below c5).post (a.length - 2 * R) (by omega)
  obtain ⟨gb, hgb, hGB⟩ := (hv.out.below c5).post (b.length - 2 * R) (by omega)
  have hta : ∀ w', (Instr.slice 22 (.slice ua un uc) (some (.int .i64 ((a.length : Int) - 2 * (R : Int)))) none none).run Tryz.prog w' = .ok ga w' := by
    intro w'; have := hga w'; rwa [show (((a.length - 2 * R : Nat) : Nat) : Int) = (a.length : Int) - 2 * (R : Int) by omega] at this
  have htb : ∀ w', (Instr.slice 22 (.slice wa wn wc) (some (.int .i64 ((b.length : Int) - 2 * (R : Int)))) none none).run Tryz.prog w' = .ok gb w' := by
    intro w'; have := hgb w'; rwa [show (((b.length - 2 * R : Nat) : Nat) : Int) = (b.length : Int) - 2 * (R : Int) by have := hlen.out; omega] at this
  obtain ⟨fa1, fa2, fa3, rfl⟩ := hFA.shape
  obtain ⟨fb1, fb2, fb3, rfl⟩ := hFB.shape
  obtain ⟨ga1, ga2, ga3, rfl⟩ := hGA.shape
  obtain ⟨gb1, gb2, gb3, rfl⟩ := hGB.shape
  clear hfa hfb hga hgb
  have hwa : IntKind.i64.wrap ((a.length : Int) - 2 * (R : Int)) = (a.length : Int) - 2 * (R : Int) := wrapK (by omega) (by omega)
  have hwb : IntKind.i64.wrap ((b.length : Int) - 2 * (R : Int)) = (b.length : Int) - 2 * (R : Int) := wrapK (by omega) (by omega)
  have hq1 := ints_any _ _ _ _ W5 hFA hFB
  replace hq1 := Lib.hid hq1
  replace hFA := Lib.hid hFA
  replace hFB := Lib.hid hFB
  replace hGA := Lib.hid hGA
  replace hGB := Lib.hid hGB
  go_upto_region 15 with fail
  refine wp_region_plan (fun _ => True) 29 [(0, true), (1, true), (2, true), (3, true), (4, true), (5, true), (6, true), (7, true), (8, true), (9, true), (10, true), (11, false), (12, true), (13, true), (14, true), (15, true), (16, true), (17, true), (18, true), (19, true), (20, true), (21, true), (22, true), (23, true), (24, true), (25, true), (26, true), (27, false), (28, true)] (by kernel_rfl) (by kernel_rfl) ?_
  rw [hW5.out]
  refine headY (v := ?_) (some 57) rfl rfl (Or.inl ⟨by rfl, ?_⟩) hS ?_
  rotate_left
  · rintro W' _; go_simp; try with_reducible rfl
  simp only [Act.put, List.setIfInBounds_toArray, List.set_cons_zero, List.set_cons_succ]
  refine headY (v := ?_) (some 58) rfl rfl (Or.inl ⟨by rfl, ?_⟩) hS ?_
  rotate_left
  · rintro W' _; go_simp; try with_reducible rfl
  simp only [Act.put, List.setIfInBounds_toArray, List.set_cons_zero, List.set_cons_succ]
  refine headY (v := ?_) (some 59) rfl rfl (Or.inl ⟨by rfl, ?_⟩) hS ?_
  rotate_left
  · rintro W' _; go_simp; try with_reducible rfl
  simp only [Act.put, List.setIfInBounds_toArray, List.set_cons_zero, List.set_cons_succ]
  refine headY (v := ?_) (some 60) rfl rfl (Or.inl ⟨by rfl, ?_⟩) hS ?_
  rotate_left
  · rintro W' _; go_simp; try with_reducible rfl
  simp only [Act.put, List.setIfInBounds_toArray, List.set_cons_zero, List.set_cons_succ]
  refine headY (v := ?_) (some 61) rfl rfl (Or.inl ⟨by rfl, ?_⟩) hS ?_
  rotate_left
  · rintro W' _; go_simp; try with_reducible rfl
  simp only [Act.put, List.setIfInBounds_toArray, List.set_cons_zero, List.set_cons_succ]
  refine headY (v := ?_) (some 62) rfl rfl (Or.inl ⟨by rfl, ?_⟩) hS ?_
  rotate_left
  · rintro W' _; go_simp; try with_reducible rfl
  simp only [Act.put, List.setIfInBounds_toArray, List.set_cons_zero, List.set_cons_succ]
  refine headY (v := ?_) (some 63) rfl rfl (Or.inl ⟨by rfl, ?_⟩) hS ?_
  rotate_left
  · rintro W' _; go_simp; try with_reducible rfl
  simp only [Act.put, List.setIfInBounds_toArray, List.set_cons_zero, List.set_cons_succ]
  refine headY (v := ?_) (some 64) rfl rfl (Or.inl ⟨by rfl, ?_⟩) hS ?_
  rotate_left
  · rintro W' _; go_simp; try with_reducible rfl
  simp only [Act.put, List.setIfInBounds_toArray, List.set_cons_zero, List.set_cons_succ]
  refine headY (v := ?_) (some 65) rfl rfl (Or.inl ⟨by rfl, ?_⟩) hS ?_
  rotate_left
  · rintro W' _; go_simp; try with_reducible rfl
  simp only [Act.put, List.setIfInBounds_toArray, List.set_cons_zero, List.set_cons_succ]
  refine headY (v := ?_) (some 66) rfl rfl (Or.inl ⟨by rfl, ?_⟩) hS ?_
  rotate_left
  · rintro W' _; go_simp; try with_reducible rfl
  simp only [Act.put, List.setIfInBounds_toArray, List.set_cons_zero, List.set_cons_succ]
  refine headY (v := ?_) (some 67) rfl rfl (Or.inl ⟨by rfl, ?_⟩) hS ?_
  rotate_left
  · rintro W' _; go_simp; try with_reducible rfl
  simp only [Act.put, List.setIfInBounds_toArray, List.set_cons_zero, List.set_cons_succ]
  refine headC rfl (fun KK hK => ?_)
  go_simp
  refine hq1.out.mono ?_
  rintro e w6 ⟨n6, rfl, rfl⟩
  refine hK _ _ hS ?_
  clear hK KK hq1
  have c6 := below_drewN c5 n6
  have b06 := below_drewN b05 n6
  obtain ⟨W6, hW6⟩ : ∃ W : World, W5.drewN n6 = W := ⟨_, rfl⟩
  have hGA6 : IntsAt W6 (.slice ga1 ga2 ga3) (a.drop (a.length - 2 * R)) := by rw [← hW6]; exact hGA.out.drewN n6
  have hGB6 : IntsAt W6 (.slice gb1 gb2 gb3) (b.drop (b.length - 2 * R)) := by rw [← hW6]; exact hGB.out.drewN n6
  rw [hW6] at c6 b06 ⊢
  clear hW6
  by_cases hfr : a.take (2 * R) = b.take (2 * R)
  case neg =>
    have he := he4.out
    rw [if_pos (.inr (.inl hfr))] at he
    replace he := Lib.hid he
    rw [decide_eq_false hfr]
    clear hfr hGA6 hGB6
    refine headY (v := ?_) (some 69) rfl rfl (Or.inl ⟨by rfl, ?_⟩) hS ?_
    rotate_left
    · rintro W' _; go_simp; try with_reducible rfl
    simp only [Act.put, List.setIfInBounds_toArray, List.set_cons_zero, List.set_cons_succ]
    refine headY (v := ?_) (some 70) rfl rfl (Or.inl ⟨by rfl, ?_⟩) hS ?_
    rotate_left
    · rintro W' _; go_simp; try with_reducible rfl
    simp only [Act.put, List.setIfInBounds_toArray, List.set_cons_zero, List.set_cons_succ]
    refine headY (v := ?_) (some 71) rfl rfl (Or.inl ⟨by rfl, ?_⟩) hS ?_
    rotate_left
    · rintro W' _; go_simp; try with_reducible rfl
    simp only [Act.put, List.setIfInBounds_toArray, List.set_cons_zero, List.set_cons_succ]
    refine headY (v := undef) (some 72) rfl rfl (Or.inr ⟨by rfl, rfl⟩) hS ?_
    simp only [Act.put, List.setIfInBounds_toArray, List.set_cons_zero, List.set_cons_succ]
    refine headY (v := undef) (some 73) rfl rfl (Or.inr ⟨by rfl, rfl⟩) hS ?_
    simp only [Act.put, List.setIfInBounds_toArray, List.set_cons_zero, List.set_cons_succ]
    refine headY (v := undef) (some 74) rfl rfl (Or.inr ⟨by rfl, rfl⟩) hS ?_
    simp only [Act.put, List.setIfInBounds_toArray, List.set_cons_zero, List.set_cons_succ]
    refine headY (v := undef) (some 75) rfl rfl (Or.inr ⟨by rfl, rfl⟩) hS ?_
    simp only [Act.put, List.setIfInBounds_toArray, List.set_cons_zero, List.set_cons_succ]
    refine headY (v := undef) (some 76) rfl rfl (Or.inr ⟨by rfl, rfl⟩) hS ?_
    simp only [Act.put, List.setIfInBounds_toArray, List.set_cons_zero, List.set_cons_succ]
    refine headY (v := undef) (some 77) rfl rfl (Or.inr ⟨by rfl, rfl⟩) hS ?_
    simp only [Act.put, List.setIfInBounds_toArray, List.set_cons_zero, List.set_cons_succ]
    refine headY (v := undef) (some 78) rfl rfl (Or.inr ⟨by rfl, rfl⟩) hS ?_
    simp only [Act.put, List.setIfInBounds_toArray, List.set_cons_zero, List.set_cons_succ]
    refine headY (v := undef) (some 79) rfl rfl (Or.inr ⟨by rfl, rfl⟩) hS ?_
    simp only [Act.put, List.setIfInBounds_toArray, List.set_cons_zero, List.set_cons_succ]
    refine headY (v := undef) (some 80) rfl rfl (Or.inr ⟨by rfl, rfl⟩) hS ?_
    simp only [Act.put, List.setIfInBounds_toArray, List.set_cons_zero, List.set_cons_succ]
    refine headY (v := undef) (some 81) rfl rfl (Or.inr ⟨by rfl, rfl⟩) hS ?_
    simp only [Act.put, List.setIfInBounds_toArray, List.set_cons_zero, List.set_cons_succ]
    refine headY (v := undef) (some 82) rfl rfl (Or.inr ⟨by rfl, rfl⟩) hS ?_
    simp only [Act.put, List.setIfInBounds_toArray, List.set_cons_zero, List.set_cons_succ]
    refine headY (v := undef) (some 83) rfl rfl (Or.inr ⟨by rfl, rfl⟩) hS ?_
    simp only [Act.put, List.setIfInBounds_toArray, List.set_cons_zero, List.set_cons_succ]
    refine headC rfl (fun KK hK => ?_)
    go_simp
    refine hK _ _ hS ?_
    clear hK KK
    refine headY (v := undef) (some 85) rfl rfl (Or.inr ⟨by rfl, rfl⟩) hS ?_
    simp only [Act.put, List.setIfInBounds_toArray, List.set_cons_zero, List.set_cons_succ]
    refine head0 ?_
    simp only [List.drop_succ_cons, List.drop_zero]
    clear z0 z1 z2
    obtain ⟨⟨z0, z1, z2⟩, -, -, -⟩ := q.below c6
    go_wp2
    refine NoPanic.normal ?_
    go_wp2_with fail
    refine (raw_new _ 2 3 W6).mono ?_
    rintro e w9 ⟨y, rfl, b9, hy⟩
    obtain ⟨q9, a9, n9, c9, a8, n8, c8, rfl⟩ := hy.shape
    obtain ⟨⟨v0, v1, v2⟩, g0, g1, g2⟩ := q4.below (Below.step c6 b9)
    have sW := (c6).size
    replace hy := Lib.hid hy
    clear z0 z1 z2
    go_wp2
    refine bodyPost_ret (v := .agg #[.int .i64 q9, .slice a9 n9 c9, .slice a8 n8 c8]) (by simp [results, Tryz.results14, go_sem, v0, v1, v2]) rfl ⟨_, rfl, below_set3 (Below.step b06 b9) (by omega) _ _ _, ?_⟩
    rw [← he.out]
    exact (hy.out.set3 (by omega) _ _ _).mono (by omega)
  rw [decide_eq_true hfr]
  have hq2 := ints_any _ _ _ _ W6 hGA6 hGB6
  replace hfr := Lib.hid hfr
  replace hq2 := Lib.hid hq2
  clear hGA6 hGB6
  refine headY (v := ?_) (some 69) rfl rfl (Or.inl ⟨by rfl, ?_⟩) hS ?_
  rotate_left
  · rintro W' _; go_simp; try with_reducible rfl
  simp only [Act.put, List.setIfInBounds_toArray, List.set_cons_zero, List.set_cons_succ]
  refine headY (v := ?_) (some 70) rfl rfl (Or.inl ⟨by rfl, ?_⟩) hS ?_
  rotate_left
  · rintro W' _; go_simp; try with_reducible rfl
  simp only [Act.put, List.setIfInBounds_toArray, List.set_cons_zero, List.set_cons_succ]
  refine headY (v := ?_) (some 71) rfl rfl (Or.inl ⟨by rfl, ?_⟩) hS ?_
  rotate_left
  · rintro W' _; go_simp; try with_reducible rfl
  simp only [Act.put, List.setIfInBounds_toArray, List.set_cons_zero, List.set_cons_succ]
  refine headY (v := ?_) (some 72) rfl rfl (Or.inl ⟨by rfl, ?_⟩) hS ?_
  rotate_left
  · rintro W' _; go_simp; try with_reducible rfl
  simp only [Act.put, List.setIfInBounds_toArray, List.set_cons_zero, List.set_cons_succ]
  refine headY (v := ?_) (some 73) rfl rfl (Or.inl ⟨by rfl, ?_⟩) hS ?_
  rotate_left
  · rintro W' _; go_simp; try with_reducible rfl
  simp only [Act.put, List.setIfInBounds_toArray, List.set_cons_zero, List.set_cons_succ]
  refine headY (v := ?_) (some 74) rfl rfl (Or.inl ⟨by rfl, ?_⟩) hS ?_
  rotate_left
  · rintro W' _; go_simp; try with_reducible rfl
  simp only [Act.put, List.setIfInBounds_toArray, List.set_cons_zero, List.set_cons_succ]
  refine headY (v := ?_) (some 75) rfl rfl (Or.inl ⟨by rfl, ?_⟩) hS ?_
  rotate_left
  · rintro W' _; go_simp; try with_reducible rfl
  simp only [Act.put, List.setIfInBounds_toArray, List.set_cons_zero, List.set_cons_succ]
  refine headY (v := ?_) (some 76) rfl rfl (Or.inl ⟨by rfl, ?_⟩) hS ?_
  rotate_left
  · rintro W' _; go_simp; try with_reducible rfl
  simp only [Act.put, List.setIfInBounds_toArray, List.set_cons_zero, List.set_cons_succ]
  refine headY (v := ?_) (some 77) rfl rfl (Or.inl ⟨by rfl, ?_⟩) hS ?_
  rotate_left
  · rintro W' _; go_simp; try with_reducible rfl
  simp only [Act.put, List.setIfInBounds_toArray, List.set_cons_zero, List.set_cons_succ]
  refine headY (v := ?_) (some 78) rfl rfl (Or.inl ⟨by rfl, ?_⟩) hS ?_
  rotate_left
  · rintro W' _; go_simp; try with_reducible rfl
  simp only [Act.put, List.setIfInBounds_toArray, List.set_cons_zero, List.set_cons_succ]
  refine headY (v := ?_) (some 79) rfl rfl (Or.inl ⟨by rfl, ?_⟩) hS ?_
  rotate_left
  · rintro W' _; go_simp; try with_reducible rfl
  simp only [Act.put, List.setIfInBounds_toArray, List.set_cons_zero, List.set_cons_succ]
  refine headY (v := ?_) (some 80) rfl rfl (Or.inl ⟨by rfl, ?_⟩) hS ?_
  rotate_left
  · rintro W' _; go_simp; try with_reducible rfl
  simp only [Act.put, List.setIfInBounds_toArray, List.set_cons_zero, List.set_cons_succ]
  refine headY (v := ?_) (some 81) rfl rfl (Or.inl ⟨by rfl, ?_⟩) hS ?_
  rotate_left
  · rintro W' _; go_simp; try with_reducible rfl
  simp only [Act.put, List.setIfInBounds_toArray, List.set_cons_zero, List.set_cons_succ]
  refine headY (v := ?_) (some 82) rfl rfl (Or.inl ⟨by rfl, ?_⟩) hS ?_
  rotate_left
  · rintro W' _; go_simp; try with_reducible rfl
  simp only [Act.put, List.setIfInBounds_toArray, List.set_cons_zero, List.set_cons_succ]
  refine headY (v := ?_) (some 83) rfl rfl (Or.inl ⟨by rfl, ?_⟩) hS ?_
  rotate_left
  · rintro W' _; go_simp; try with_reducible rfl
  simp only [Act.put, List.setIfInBounds_toArray, List.set_cons_zero, List.set_cons_succ]
  refine headC rfl (fun KK hK => ?_)
  go_simp
  refine hq2.out.mono ?_
  rintro e w7 ⟨n7, rfl, rfl⟩
  refine hK _ _ hS ?_
  clear hK KK hq2
  have c7 := below_drewN c6 n7
  have b07 := below_drewN b06 n7
  obtain ⟨W7, hW7⟩ : ∃ W : World, W6.drewN n7 = W := ⟨_, rfl⟩
  rw [hW7] at c7 b07 ⊢
  clear hW7
  by_cases hbk : a.drop (a.length - 2 * R) = b.drop (b.length - 2 * R)
  case neg =>
    have he := he4.out
    rw [if_pos (.inr (.inr hbk))] at he
    replace he := Lib.hid he
    rw [decide_eq_false hbk]
    clear hbk
    refine headY (v := ?_) (some 85) rfl rfl (Or.inl ⟨by rfl, ?_⟩) hS ?_
    rotate_left
    · rintro W' _; go_simp; try with_reducible rfl
    simp only [Act.put, List.setIfInBounds_toArray, List.set_cons_zero, List.set_cons_succ]
    refine head0 ?_
    simp only [List.drop_succ_cons, List.drop_zero]
    clear z0 z1 z2
    obtain ⟨⟨z0, z1, z2⟩, -, -, -⟩ := q.below c7
    go_wp2
    refine NoPanic.normal ?_
    go_wp2_with fail
    refine (raw_new _ 2 3 W7).mono ?_
    rintro e w9 ⟨y, rfl, b9, hy⟩
    obtain ⟨q9, a9, n9, c9, a8, n8, c8, rfl⟩ := hy.shape
    obtain ⟨⟨v0, v1, v2⟩, g0, g1, g2⟩ := q4.below (Below.step c7 b9)
    have sW := (c7).size
    replace hy := Lib.hid hy
    clear z0 z1 z2
    go_wp2
    refine bodyPost_ret (v := .agg #[.int .i64 q9, .slice a9 n9 c9, .slice a8 n8 c8]) (by simp [results, Tryz.results14, go_sem, v0, v1, v2]) rfl ⟨_, rfl, below_set3 (Below.step b07 b9) (by omega) _ _ _, ?_⟩
    rw [← he.out]
    exact (hy.out.set3 (by omega) _ _ _).mono (by omega)
  rw [decide_eq_true hbk]
  have he5 := he4.out
  rw [if_neg (fun q => q.elim hlow (fun q => q.elim (fun q => q hfr.out) (fun q => q hbk)))] at he5
  replace he5 := Lib.hid he5
  replace hbk := Lib.hid hbk
  clear he4
  refine headY (v := ?_) (some 85) rfl rfl (Or.inl ⟨by rfl, ?_⟩) hS ?_
  rotate_left
  · rintro W' _; go_simp; try with_reducible rfl
  simp only [Act.put, List.setIfInBounds_toArray, List.set_cons_zero, List.set_cons_succ]
  refine head0 ?_
  simp only [List.drop_succ_cons, List.drop_zero]
  clear z0 z1 z2
  obtain ⟨⟨z0, z1, z2⟩, -, -, -⟩ := q.below c7
  obtain ⟨W8, hW8⟩ : ∃ W : World, W7.drew = W := ⟨_, rfl⟩
  have c8 : Below W0.heap.size W0 W8 := by rw [← hW8]; exact c7.drew
  have b08 : Below w.heap.size w W8 := by rw [← hW8]; exact b07.drew
  replace hW8 := Lib.hid hW8
  go_wp2
  refine NoPanic.normal ?_
  go_upto_region 17 with fail
  have hS8 : W8.cell? ⟨w.heap.size, 0, none⟩ = some (.int .i64 K) ∧ W8.cell? ⟨w.heap.size, 1, none⟩ = some (.int .i64 R) ∧ W8.cell? ⟨w.heap.size, 2, none⟩ = some (.slice va vn vc) := by
    obtain ⟨⟨y0, y1, y2⟩, -, -, -⟩ := q.below c8
    exact ⟨y0, y1, y2⟩
  refine wp_region_plan (fun w' => w'.cell? ⟨w.heap.size, 0, none⟩ = some (.int .i64 K) ∧ w'.cell? ⟨w.heap.size, 1, none⟩ = some (.int .i64 R) ∧ w'.cell? ⟨w.heap.size, 2, none⟩ = some (.slice va vn vc)) 7 [(0, true), (1, true), (3, true), (4, true), (2, false), (5, false), (6, false)] (by kernel_rfl) (by kernel_rfl) ?_
  rw [hW8.out]
  clear z0 z1 z2
  refine headY (v := ?_) (some 88) rfl rfl (Or.inl ⟨by rfl, ?_⟩) hS8 ?_
  rotate_left
  · rintro W' ⟨s0, s1, s2⟩; go_simp; try with_reducible rfl
  simp only [Act.put, List.setIfInBounds_toArray, List.set_cons_zero, List.set_cons_succ]
  refine headY (v := ?_) (some 89) rfl rfl (Or.inl ⟨by rfl, ?_⟩) hS8 ?_
  rotate_left
  · rintro W' ⟨s0, s1, s2⟩; go_simp; try with_reducible rfl
  simp only [Act.put, List.setIfInBounds_toArray, List.set_cons_zero, List.set_cons_succ]
  refine headY (v := ?_) (some 91) rfl rfl (Or.inl ⟨by rfl, ?_⟩) hS8 ?_
  rotate_left
  · rintro W' ⟨s0, s1, s2⟩; go_simp; try with_reducible rfl
  simp only [Act.put, List.setIfInBounds_toArray, List.set_cons_zero, List.set_cons_succ]
  refine headY (v := ?_) (some 92) rfl rfl (Or.inl ⟨by rfl, ?_⟩) hS8 ?_
  rotate_left
  · rintro W' ⟨s0, s1, s2⟩; go_simp; try with_reducible rfl
  simp only [Act.put, List.setIfInBounds_toArray, List.set_cons_zero, List.set_cons_succ]
  refine headC rfl (fun KK hK => ?_)
  go_simp
  refine (ref_image K R va vn vc T _ a W8 (h.out.below c8) hr.out (hu.out.below c8) sA.out (by omega)).mono ?_
  rintro e w9 ⟨x1, rfl, b9, ho1⟩
  have c9 := Below.step c8 b9
  have hS9 : w9.cell? ⟨w.heap.size, 0, none⟩ = some (.int .i64 K) ∧ w9.cell? ⟨w.heap.size, 1, none⟩ = some (.int .i64 R) ∧ w9.cell? ⟨w.heap.size, 2, none⟩ = some (.slice va vn vc) := by
    obtain ⟨⟨y0, y1, y2⟩, -, -, -⟩ := q.below c9
    exact ⟨y0, y1, y2⟩
  obtain ⟨x1a, x1b, x1c, rfl⟩ := ho1.at.shape
  replace ho1 := Lib.hid ho1
  refine hK _ _ hS9 ?_
  clear hK KK hS8
  refine headC rfl (fun KK hK => ?_)
  go_simp
  refine (ref_image K R va vn vc T _ b w9 (h.out.below c9) hr.out (hv.out.below c9) sB.out (by omega)).mono ?_
  rintro e w10 ⟨x2, rfl, b10, ho2⟩
  have c10 := Below.step c9 b10
  have b010 := Below.step (Below.step b08 b9) b10
  have hS10 : w10.cell? ⟨w.heap.size, 0, none⟩ = some (.int .i64 K) ∧ w10.cell? ⟨w.heap.size, 1, none⟩ = some (.int .i64 R) ∧ w10.cell? ⟨w.heap.size, 2, none⟩ = some (.slice va vn vc) := by
    obtain ⟨⟨y0, y1, y2⟩, -, -, -⟩ := q.below c10
    exact ⟨y0, y1, y2⟩
  obtain ⟨x2a, x2b, x2c, rfl⟩ := ho2.at.shape
  have hq3 := ints_any _ _ _ _ w10 (ho1.out.at.below b10) ho2.at
  replace hq3 := Lib.hid hq3
  replace ho2 := Lib.hid ho2
  refine hK _ _ hS10 ?_
  clear hK KK hS9
  refine headC rfl (fun KK hK => ?_)
  go_simp
  refine hq3.out.mono ?_
  rintro e w11 ⟨n11, rfl, rfl⟩
  have c11 := below_drewN c10 n11
  have b011 := below_drewN b010 n11
  refine hK _ _ hS10 ?_
  clear hK KK hq3
  obtain ⟨W11, hW11⟩ : ∃ W : World, w10.drewN n11 = W := ⟨_, rfl⟩
  have hS11 : W11.cell? ⟨w.heap.size, 0, none⟩ = some (.int .i64 K) ∧ W11.cell? ⟨w.heap.size, 1, none⟩ = some (.int .i64 R) ∧ W11.cell? ⟨w.heap.size, 2, none⟩ = some (.slice va vn vc) := by rw [← hW11]; exact hS10
  rw [hW11] at c11 b011 ⊢
  clear hS10 hW11
  refine head0 ?_
  simp only [List.drop_succ_cons, List.drop_zero]
  obtain ⟨z0, z1, z2⟩ := hS11
  by_cases him : imgP K R T a = imgP K R T b
  · have he := he5.out
    rw [if_neg (fun q => q him)] at he
    replace he := Lib.hid he
    rw [decide_eq_true him]
    replace him := Lib.hid him
    obtain ⟨⟨v0, v1, v2⟩, g0, g1, g2⟩ := q4.below c11
    go_wp2
    refine NoPanic.normal ?_
    go_wp2
    refine bodyPost_ret (v := .agg #[.int .i64 0, .slice none 0 0, .slice none 0 0]) (by simp [results, Tryz.results14, go_sem, v0, v1, v2]) rfl ⟨_, rfl, below_set3 b011 (by omega) _ _ _, ?_⟩
    rw [← he.out]
    rfl
  · have he := he5.out
    rw [if_pos him] at he
    replace he := Lib.hid he
    rw [decide_eq_false him]
    clear him
    go_wp2
    refine NoPanic.normal ?_
    go_wp2_with fail
    refine (raw_new _ 3 3 W11).mono ?_
    rintro e w9 ⟨y, rfl, b9, hy⟩
    obtain ⟨q9, a9, n9, c9, a8, n8, c8, rfl⟩ := hy.shape
    obtain ⟨⟨v0, v1, v2⟩, g0, g1, g2⟩ := q4.below (Below.step c11 b9)
    have sW := (c11).size
    replace hy := Lib.hid hy
    clear z0 z1 z2
    go_wp2
    refine bodyPost_ret (v := .agg #[.int .i64 q9, .slice a9 n9 c9, .slice a8 n8 c8]) (by simp [results, Tryz.results14, go_sem, v0, v1, v2]) rfl ⟨_, rfl, below_set3 (Below.step b011 b9) (by omega) _ _ _, ?_⟩
    rw [← he.out]
    exact (hy.out.set3 (by omega) _ _ _).mono (by omega)
end Go.Proofs.YtilpckngghffoaaGreatDoor

namespace Go.Proofs.YtilpckngghffoaaGreatDoor
open Go.RowKit
set_option maxRecDepth 100000

def zT : List Int := List.replicate 8 0
theorem zT_ok : RuleOk 2 1 zT := ⟨by decide, by decide, by decide, by decide, fun x hx => by rw [List.eq_of_mem_replicate hx]; decide⟩
end Go.Proofs.YtilpckngghffoaaGreatDoor

namespace Go.Proofs.YtilpckngghffoaaGreatDoor
open Go.RowKit
set_option maxRecDepth 100000

theorem tcheck_bad (r : Nat → Addr) (k R : Int) (va : Option Addr) (vn vc : Nat) (T : List Int) (u v : Value) (t : Int × List (ByteArray × Int)) (w : World) (hg : Glob r w) (h : IntsAt w (.slice va vn vc) T) (hc : smallP k R T = some t) :
    Calls Tryz.prog 16 #[.agg #[.int .i64 k, .int .i64 R, .slice va vn vc], u, v] w (Ret1 (fun x w' => ErrIs r w' (under sTwins 0 (some t)) x) w) := by
  have b0 := belowAlloc w (.cells #[.int .i64 k, .int .i64 R, .slice va vn vc] 24)
  replace hg := Lib.hid (hg.below b0)
  replace h := Lib.hid (h.below b0)
  replace hc := Lib.hid hc
  go_enter Tryz.func16, Tryz.ntmps16
  go_wp2_with fail
  refine (small_any r k R va vn vc T _ hg.out h.out).mono ?_
  rintro e w1 ⟨x, rfl, b1, hx⟩
  rw [hc.out] at hx
  obtain ⟨T2, a2, rfl⟩ := hx.some_shape
  replace hx := Lib.hid hx
  go_wp2_with fail
  refine (under_any r sTwins 0 _ _ w1 hx.out).mono ?_
  rintro e w2 ⟨y, rfl, b2, hy⟩
  obtain ⟨T3, a3, rfl⟩ : ∃ T a, y = .iface T (.pointer (some a)) := by
    unfold under at hy
    exact ErrIs.some_shape hy
  replace hy := Lib.hid hy
  go_wp2
  go_ret
  exact ⟨_, rfl, Below.step b0 (Below.step b1 b2), hy.out⟩

theorem zT_twins : IsTwins 2 1 zT [0, 0, 0, 0, 0] [0, 0, 1, 0, 0] :=
  ⟨fun x hx => by simp at hx; omega, fun x hx => by simp at hx; omega, rfl, by decide, by decide, by decide, by decide, by decide⟩
theorem zT_finite (r : Nat → Addr) (ta : Option Addr) (tn tc : Nat) (w : World) (hg : Glob r w) (h : IntsAt w (.slice ta tn tc) zT) :
    Calls Tryz.prog 10 #[.agg #[.int .i64 2, .int .i64 1, .slice ta tn tc]] w (Ret4 (fun y a b e w' => y = .bool false ∧ e = .nilIface ∧ ∃ p q, IntsAt w' a p ∧ IntsAt w' b q ∧ p.length = 5 ∧ q.length = 5) w) := by
  refine (finite_ok r 2 1 ta tn tc zT w hg h zT_ok (by decide)).mono ?_
  rintro e w' ⟨y, a, b, z, rfl, bl, rfl, hp⟩
  refine ⟨_, _, _, _, rfl, bl, ?_⟩
  rcases hp with ⟨_, _, _, hno⟩ | ⟨rfl, p, q, _, htw, htl, _, hoa, hob, _⟩
  · exact absurd zT_twins (hno _ _)
  · have h1 := htw.long
    have h2 := htl.2 _ _ zT_twins
    have h3 := htw.len
    simp at h2
    exact ⟨rfl, rfl, p, q, hoa.at, hob.at, by omega, by omega⟩
/-- The sum of both neighbours. -/
def xT : List Int := [0, 1, 0, 1, 1, 0, 1, 0]
theorem xT_ok : RuleOk 2 1 xT := ⟨by decide, by decide, by decide, by decide, fun x hx => by simp [xT] at hx; omega⟩
theorem xT_diag : ∀ p, p < 16 → Diag 4 p → ∀ t ∈ pairL 2 4 xT p, Diag 4 t := by decide +kernel
theorem xT_none (a b : List Int) : ¬ IsTwins 2 1 xT a b := by
  refine no_twins (by decide) (by decide) (fun u hu => ?_) a b
  have h3 := hu.len
  have h0 := hu.low 0 (by omega)
  have ha := hu.arr 0 (by omega)
  exact hu.inn 1 (by omega) (by omega) (xT_diag _ h0 hu.fst _ ha)
theorem xT_finite (r : Nat → Addr) (ta : Option Addr) (tn tc : Nat) (w : World) (hg : Glob r w) (h : IntsAt w (.slice ta tn tc) xT) :
    Calls Tryz.prog 10 #[.agg #[.int .i64 2, .int .i64 1, .slice ta tn tc]] w (Ret4 (fun y a b e _ => y = .bool true ∧ e = .nilIface ∧ a = .slice none 0 0 ∧ b = .slice none 0 0) w) := by
  refine (finite_ok r 2 1 ta tn tc xT w hg h xT_ok (by decide)).mono ?_
  rintro e w' ⟨y, a, b, z, rfl, bl, rfl, hp⟩
  refine ⟨_, _, _, _, rfl, bl, ?_⟩
  rcases hp with ⟨rfl, rfl, rfl, _⟩ | ⟨_, p, q, _, htw, _⟩
  · exact ⟨rfl, rfl, rfl, rfl⟩
  · exact absurd htw (xT_none _ _)

set_option maxHeartbeats 1000000 in
theorem awake15 (r : Nat → Addr) (w : World) (hg : Glob r w) : Calls Tryz.prog 8 #[] w (Ret1 (fun x _ => x = .bool true) w) := by
  obtain ⟨tv, w1, mk, ho, b1⟩ := run_makeI (8 : Int) 8 w rfl (by omega)
  have hT : IntsAt w1 tv zT := ho.at
  obtain ⟨ta, tn, tc, rfl⟩ := ho.at.shape
  obtain ⟨t9, ht9⟩ : ∃ t, smallP 9 0 [] = some t := ⟨_, rfl⟩
  replace hg := Lib.hid hg
  replace ho := Lib.hid ho
  replace hT := Lib.hid hT
  replace ht9 := Lib.hid ht9
  go_enter Tryz.func8, Tryz.ntmps8
  go_wp2_with fail
  refine (zT_finite r ta tn tc w1 (hg.out.below b1) hT.out).mono ?_
  rintro e w2 ⟨y, a, b, z, rfl, b2, rfl, rfl, p, q, hpa, hqb, hpl, hql⟩
  have b02 := Below.step b1 b2
  have lp := hpa.len
  have lq := hqb.len
  rw [hpl] at lp
  rw [hql] at lq
  obtain ⟨a1, a2, a3, rfl⟩ := hpa.shape
  obtain ⟨c1, c2, c3, rfl⟩ := hqb.shape
  have bl := belowAlloc w2 (.cells #[.int .i64 0, .int .i64 1, .int .i64 0, .int .i64 1, .int .i64 1, .int .i64 0, .int .i64 1, .int .i64 0] 3)
  have hlit := lit_ints w2 [0, 1, 0, 1, 1, 0, 1, 0] #[.int .i64 0, .int .i64 1, .int .i64 0, .int .i64 1, .int .i64 1, .int .i64 0, .int .i64 1, .int .i64 0] rfl (by decide)
  have b03 := Below.step b02 bl
  replace hlit := Lib.hid hlit
  clear mk hpa hqb hpl hql
  go_wp2_with fail
  refine (xT_finite r _ _ _ _ (hg.out.below b03) hlit.out).mono ?_
  rintro e w4 ⟨y, a, b, z, rfl, b4, rfl, rfl, rfl, rfl⟩
  have b04 := Below.step b03 b4
  go_wp2_with fail
  refine (tcheck_bad r 9 0 none 0 0 [] _ _ t9 w4 (hg.out.below b04) (OwnI.nil 0 _).at ht9.out).mono ?_
  rintro e w5 ⟨x, rfl, b5, hx⟩
  obtain ⟨T3, a3', rfl⟩ : ∃ T a, x = .iface T (.pointer (some a)) := by
    unfold under at hx
    exact ErrIs.some_shape hx
  replace hx := Lib.hid hx
  go_wp2
  go_ret
  exact ⟨_, rfl, Below.step b04 b5, rfl⟩
end Go.Proofs.YtilpckngghffoaaGreatDoor

namespace Go.Proofs.YtilpckngghffoaaGreatDoor
open Go.RowKit
set_option maxRecDepth 100000

theorem LentI.setBelow {B : Nat} {w : World} {m : Value} {xs : List Int} (h : LentI B w m xs) {a : Addr} (ha : a.block < B) (u : Value) : LentI B (w.setCell a u) m xs := by
  obtain ⟨v, e, ho⟩ := h
  exact ⟨v, e, ho.setBelowBase ha u⟩
theorem LentI.mono {B B' : Nat} {w : World} {m : Value} {xs : List Int} (h : LentI B w m xs) (hB : B' ≤ B) : LentI B' w m xs := by
  obtain ⟨v, e, ho⟩ := h
  exact ⟨v, e, ho.mono hB⟩

theorem lentRule_any (k R : Int) (va : Option Addr) (vn vc : Nat) (T : List Int) (w : World) (h : IntsAt w (.slice va vn vc) T) (hl : T.length ≤ 17592186044414) :
    Calls Tryz.prog 9 #[.agg #[.int .i64 k, .int .i64 R, .slice va vn vc]] w (Ret1 (fun x w' => ∃ a n c, x = .agg #[.int .i64 k, .int .i64 R, .slice a n c] ∧ LentI w.heap.size w' (.slice a n c) T) w) := by
  have b0 := Below.step (belowAlloc w (.cells #[.int .i64 k, .int .i64 R, .slice va vn vc] 24)) (belowAlloc _ (.cells #[.int .i64 0, .int .i64 0, .slice none 0 0] 24))
  have q6 : Box3 ((w.alloc (.cells #[.int .i64 k, .int .i64 R, .slice va vn vc] 24)).alloc (.cells #[.int .i64 0, .int .i64 0, .slice none 0 0] 24)) w.heap.size (.int .i64 k) (.int .i64 R) (.slice va vn vc) := by simp [Box3, go_sem]
  have q7 : Box3 ((w.alloc (.cells #[.int .i64 k, .int .i64 R, .slice va vn vc] 24)).alloc (.cells #[.int .i64 0, .int .i64 0, .slice none 0 0] 24)) (w.heap.size + 1) (.int .i64 0) (.int .i64 0) (.slice none 0 0) := by simp [Box3, go_sem]
  replace h := Lib.hid (h.below b0)
  go_enter Tryz.func9, Tryz.ntmps9
  go_wp2
  have hWs : w.heap.size + 2 ≤ ((w.alloc (.cells #[.int .i64 k, .int .i64 R, .slice va vn vc] 24)).alloc (.cells #[.int .i64 0, .int .i64 0, .slice none 0 0] 24)).heap.size := by simp
  obtain ⟨W, hW⟩ : ∃ W : World, W = ((w.alloc (.cells #[.int .i64 k, .int .i64 R, .slice va vn vc] 24)).alloc (.cells #[.int .i64 0, .int .i64 0, .slice none 0 0] 24)) := ⟨_, rfl⟩
  rw [← hW] at b0 q6 q7 h hWs ⊢
  clear hW
  have q6' := q6
  obtain ⟨⟨z0, z1, z2⟩, -, -, -⟩ := q6'
  go_region_held3 (fun w' => w'.cell? ⟨w.heap.size, 0, none⟩ = some (.int .i64 k) ∧ w'.cell? ⟨w.heap.size, 1, none⟩ = some (.int .i64 R) ∧ w'.cell? ⟨w.heap.size, 2, none⟩ = some (.slice va vn vc)) (first | exact ⟨z0, z1, z2⟩ | exact ⟨s0, s1, s2⟩ | (simp [s0, s1, s2, World.cell?_setCell_far]; done))
    (first | (go_at_call 24; refine (lent_any (.slice va vn vc) T _ ?_ hl).mono ?_
              · exact h.out.drew
              rintro e w1 ⟨x, rfl, b1, hx⟩
              have b1' : Below W.heap.size W w1 := (Below.refl W.heap.size W).drew.trans b1
              obtain ⟨a, n, c, rfl⟩ := hx.at.shape
              have s0 := cell_keep b1' z0
              have s1 := cell_keep b1' z1
              have s2 := cell_keep b1' z2
              have q7n := q7.below b1'
              obtain ⟨⟨y0, y1, y2⟩, g0, g1, g2⟩ := q7n))
  have hE := Lib.hid (((hx.setBelow (a := ⟨w.heap.size + 1, 0, none⟩) (show w.heap.size + 1 < W.heap.size by omega) (.int .i64 k)).setBelow (a := ⟨w.heap.size + 1, 1, none⟩) (show w.heap.size + 1 < W.heap.size by omega) (.int .i64 R)).setBelow (a := ⟨w.heap.size + 1, 2, none⟩) (show w.heap.size + 1 < W.heap.size by omega) (.slice a n c))
  have hBf := Lib.hid (below_set3 (Below.stepL b0 b1') (Nat.le_succ w.heap.size) (.int .i64 k) (.int .i64 R) (.slice a n c))
  clear hx b1 b1'
  go_wp2
  exact bodyPost_ret (v := .agg #[.int .i64 k, .int .i64 R, .slice a n c]) (by simp [results, Tryz.results9, go_sem, y0, y1, y2]) rfl ⟨_, rfl, hBf.out, a, n, c, rfl, hE.out.mono (show w.heap.size ≤ W.heap.size by omega)⟩

/-- edenraw.KeptRule at a lent rule. -/
theorem keptRule_any (B : Nat) (k R : Int) (a : Option Addr) (n c : Nat) (va : Option Addr) (vn vc : Nat) (T : List Int) (w : World) (h : LentI B w (.slice a n c) T) (h' : IntsAt w (.slice va vn vc) T) (hl : T.length ≤ 17592186044414) :
    Calls Tryz.prog 13 #[.agg #[.int .i64 k, .int .i64 R, .slice a n c], .agg #[.int .i64 k, .int .i64 R, .slice va vn vc]] w (Ret1 (fun x _ => x = .bool true) w) := by
  have b0 := Below.step (belowAlloc w (.cells #[.int .i64 k, .int .i64 R, .slice a n c] 24)) (belowAlloc _ (.cells #[.int .i64 k, .int .i64 R, .slice va vn vc] 24))
  replace h := Lib.hid (h.below b0)
  replace h' := Lib.hid (h'.below b0)
  have e1 : (k == k) = true := by simp
  have e2 : (R == R) = true := by simp
  go_enter Tryz.func13, Tryz.ntmps13
  go_wp2_with fail
  refine (kept_any B _ _ T _ h.out h'.out hl).mono ?_
  rintro e w1 h1
  obtain ⟨rfl, b1⟩ := h1.below
  have hB := Lib.hid (Below.step b0 b1)
  clear h1
  go_wp2
  go_ret
  exact ⟨_, rfl, hB.out, rfl⟩
end Go.Proofs.YtilpckngghffoaaGreatDoor

namespace Go.Proofs.YtilpckngghffoaaGreatDoor
open Go.RowKit
set_option maxRecDepth 100000

/-- What both answer. -/
def tckP (k R : Int) (T a b : List Int) : PErr :=
  match smallP k R T with
  | some t => under sTwins 0 (some t)
  | none => twinsP sTwins k R.toNat (imgP k.toNat R.toNat T) a b
theorem tcheck_any (r : Nat → Addr) (k R : Int) (va : Option Addr) (vn vc : Nat) (T : List Int) (u : Value) (a : List Int) (v : Value) (b : List Int) (w : World) (hg : Glob r w) (h : IntsAt w (.slice va vn vc) T) (hu : IntsAt w u a) (hv : IntsAt w v b) :
    Calls Tryz.prog 16 #[.agg #[.int .i64 k, .int .i64 R, .slice va vn vc], u, v] w (Ret1 (fun x w' => ErrIs r w' (tckP k R T a b) x) w) := by
  unfold tckP
  cases hc : smallP k R T with
  | some t => exact tcheck_bad r k R va vn vc T u v t w hg h hc
  | none =>
    obtain ⟨hck, hl⟩ := smallP_none hc
    obtain ⟨K, Q, rfl, rfl, hr⟩ := checkP_none hck
    exact tcheck_ok r K Q va vn vc T u a v b w hg h hr hl hu hv
theorem ref15c_any (k R : Int) (va : Option Addr) (vn vc : Nat) (T : List Int) (u : Value) (a : List Int) (v : Value) (b : List Int) (w : World) (h : IntsAt w (.slice va vn vc) T) (hu : IntsAt w u a) (hv : IntsAt w v b) :
    Calls Tryz.prog 14 #[.agg #[.int .i64 k, .int .i64 R, .slice va vn vc], u, v] w (Ret1 (fun x w' => EOwn w.heap.size w' (tckP k R T a b) x) w) := by
  unfold tckP
  cases hc : smallP k R T with
  | some t => exact ref15c_bad k R va vn vc T u v t w h hc
  | none =>
    obtain ⟨hck, hl⟩ := smallP_none hc
    obtain ⟨K, Q, rfl, rfl, hr⟩ := checkP_none hck
    exact ref15c_ok K Q va vn vc T u a v b w h hr hl hu hv

end Go.Proofs.YtilpckngghffoaaGreatDoor

namespace Go.Proofs.YtilpckngghffoaaGreatDoor
open Go.RowKit
set_option maxRecDepth 100000

end Go.Proofs.YtilpckngghffoaaGreatDoor

namespace Go.Proofs.YtilpckngghffoaaGreatDoor
open Go.RowKit
set_option maxRecDepth 100000

/-- What an error's numbers look like in memory. -/
theorem eat_shape {w : World} {t : PErr} {v : Value} (h : EAt w t v) : ∃ (n : Int) (sa : Option Addr) (sn sc : Nat) (ja : Option Addr) (jn jc : Nat), v = .agg #[.int .i64 n, .slice sa sn sc, .slice ja jn jc] := by
  cases t with
  | none => exact ⟨0, none, 0, 0, none, 0, 0, h⟩
  | some q =>
    obtain ⟨n, l⟩ := q
    obtain ⟨a1, n1, c1, a2, n2, c2, rfl, _, _⟩ := h
    exact ⟨_, _, _, _, _, _, _, rfl⟩

end Go.Proofs.YtilpckngghffoaaGreatDoor

namespace Go.Proofs.YtilpckngghffoaaGreatDoor
open Go.RowKit
set_option maxRecDepth 100000

theorem under2_fine {k R : Int} {T : List Int} {t : Int × List (ByteArray × Int)} (hc : smallP k R T = some t) : (under sTwins 0 (under sPairs 0 (some t))).Fine := by
  obtain ⟨n, l⟩ := t
  have := smallP_num hc
  refine ⟨this.1, this.2.1, ?_⟩
  show ((sTwins, (0 : Int)) :: (sPairs, (0 : Int)) :: l).length ≤ 1000
  simp only [List.length_cons]
  omega

set_option maxHeartbeats 8000000 in
theorem tt_bad (r : Nat → Addr) (k R : Int) (va : Option Addr) (vn vc : Nat) (T : List Int) (t : Int × List (ByteArray × Int)) (w : World) (hg : Glob r w) (hG : GlobE w) (h : IntsAt w (.slice va vn vc) T) (lT : T.length ≤ 17592186043904) (hc : smallP k R T = some t) :
    Calls Tryz.prog 3 #[.agg #[.int .i64 k, .int .i64 R, .slice va vn vc]] w (Ret1 (fun x _ => x = .bool true) w) := by
  have b0 := belowAlloc w (.cells #[.int .i64 k, .int .i64 R, .slice va vn vc] 24)
  have q : Box3 (w.alloc (.cells #[.int .i64 k, .int .i64 R, .slice va vn vc] 24)) w.heap.size (.int .i64 k) (.int .i64 R) (.slice va vn vc) := by simp [Box3, go_sem]
  obtain ⟨w0, hw0⟩ : ∃ W : World, w.alloc (.cells #[.int .i64 k, .int .i64 R, .slice va vn vc] 24) = W := ⟨_, rfl⟩
  rw [hw0] at b0 q
  replace hg := Lib.hid (hg.below b0)
  replace hG := Lib.hid (hG.below b0)
  replace h := Lib.hid (h.below b0)
  replace hw0 := Lib.hid hw0
  go_enter Tryz.func3, Tryz.ntmps3
  go_upto_region 1 with fail
  rw [hw0.out]
  go_wp2_with fail
  refine (awake15 r _ hg.out).mono ?_
  rintro e w1 ⟨_, rfl, b1, rfl⟩
  obtain ⟨⟨z0, z1, z2⟩, -, -, -⟩ := q.below b1
  go_wp2_with fail
  refine (lentRule_any k R va vn vc T w1 (h.out.below b1) (by omega)).mono ?_
  rintro e w2 ⟨_, rfl, b2, ma, mn, mc, rfl, hm⟩
  have b2a := Below.step b2 (belowAlloc w2 (.cells #[.int .i64 k, .int .i64 R, .slice ma mn mc] 24))
  have qm : Box3 (w2.alloc (.cells #[.int .i64 k, .int .i64 R, .slice ma mn mc] 24)) w2.heap.size (.int .i64 k) (.int .i64 R) (.slice ma mn mc) := by simp [Box3, go_sem]
  replace hm := hm.below (belowAlloc w2 (.cells #[.int .i64 k, .int .i64 R, .slice ma mn mc] 24))
  have c3 := Below.step b1 b2a
  generalize hgm : w2.heap.size = gm at *
  obtain ⟨w3, hw3⟩ : ∃ W : World, w2.alloc (.cells #[.int .i64 k, .int .i64 R, .slice ma mn mc] 24) = W := ⟨_, rfl⟩
  rw [hw3] at b2a qm hm c3
  replace hw3 := Lib.hid hw3
  replace hgm := Lib.hid hgm
  replace hm := Lib.hid hm
  clear z0 z1 z2
  have qm0 := qm
  obtain ⟨⟨m0, m1, m2⟩, -, -, -⟩ := qm0
  go_upto_region 4 with fail
  rw [hw3.out, hgm.out]
  go_wp2_with fail
  refine (finite_bad r k R ma mn mc T t w3 (hg.out.below c3) hm.out.at hc).mono ?_
  rintro e w4 ⟨_, _, _, ex, rfl, b4, rfl, rfl, rfl, hex⟩
  obtain ⟨ET, ea, rfl⟩ := ErrIs.some_shape (t := (t.1, (sTwins, 0) :: (sPairs, 0) :: t.2)) hex
  replace hex := Lib.hid hex
  have c4 := Below.step c3 b4
  clear m0 m1 m2
  obtain ⟨⟨z0, z1, z2⟩, -, -, -⟩ := q.below c4
  go_wp2_with fail
  refine (ref15f_bad k R va vn vc T t w4 (h.out.below c4) hc).mono ?_
  rintro e w5 ⟨_, _, ey, rfl, b5, rfl, rfl, hey⟩
  replace hey := hey.at
  obtain ⟨n7, s7a, s7n, s7c, j7a, j7n, j7c, rfl⟩ := eat_shape hey
  obtain ⟨be, q7⟩ := err_box8 w5 (.int .i64 n7) (.slice s7a s7n s7c) (.slice j7a j7n j7c)
  replace hey := hey.below be
  have b5a := Below.step b5 be
  generalize hg7 : w5.heap.size = g7 at *
  obtain ⟨w6, hw6⟩ : ∃ W : World, w5.alloc (.cells #[.int .i64 n7, .slice s7a s7n s7c, .slice j7a j7n j7c] 33) = W := ⟨_, rfl⟩
  rw [hw6] at be q7 hey b5a
  have c6 := Below.step c4 b5a
  have d6 := Below.step b4 b5a
  replace hw6 := Lib.hid hw6
  replace hg7 := Lib.hid hg7
  replace hey := Lib.hid hey
  clear z0 z1 z2 be
  obtain ⟨⟨m0, m1, m2⟩, -, -, -⟩ := qm.below d6
  obtain ⟨⟨z0, z1, z2⟩, -, -, -⟩ := q.below c6
  have q70 := q7
  obtain ⟨⟨x0, x1, x2⟩, -, -, -⟩ := q70
  have hex6 := Lib.hid (hex.out.below b5a)
  go_upto_region 6 with fail
  rw [hw6.out, hg7.out]
  go_wp2_with fail
  refine (raw_is r (under sTwins 0 (under sPairs 0 (some t))) (.iface ET (.pointer (some ea))) _ w6 (hg.out.below c6) (hG.out.below c6) hex6.out hey.out (under2_fine hc)).mono ?_
  rintro e w7 ⟨_, rfl, b7, rfl⟩
  have c7 := Below.step c6 b7
  have d7 := Below.step d6 b7
  clear m0 m1 m2 z0 z1 z2 x0 x1 x2
  obtain ⟨⟨m0, m1, m2⟩, -, -, -⟩ := qm.below d7
  obtain ⟨⟨z0, z1, z2⟩, -, -, -⟩ := q.below c7
  go_wp2_with fail
  refine (keptRule_any _ k R ma mn mc va vn vc T w7 (hm.out.below d7) (h.out.below c7) (by omega)).mono ?_
  rintro e w8 ⟨_, rfl, b8, rfl⟩
  have c8 := Below.step c7 b8
  clear m0 m1 m2 z0 z1 z2
  obtain ⟨⟨z0, z1, z2⟩, -, -, -⟩ := q.below c8
  have bE := Below.step b0 c8
  go_wp2
  go_ret
  exact ⟨_, rfl, bE, rfl⟩

set_option maxHeartbeats 8000000 in
theorem tt_ok (r : Nat → Addr) (K R : Nat) (va : Option Addr) (vn vc : Nat) (T : List Int) (w : World) (hg : Glob r w) (hG : GlobE w) (h : IntsAt w (.slice va vn vc) T) (lT : T.length ≤ 17592186043904) (hr : RuleOk K R T) (hl : T.length ≤ 256) :
    Calls Tryz.prog 3 #[.agg #[.int .i64 K, .int .i64 R, .slice va vn vc]] w (Ret1 (fun x _ => x = .bool true) w) := by
  have b0 := belowAlloc w (.cells #[.int .i64 K, .int .i64 R, .slice va vn vc] 24)
  have q : Box3 (w.alloc (.cells #[.int .i64 K, .int .i64 R, .slice va vn vc] 24)) w.heap.size (.int .i64 K) (.int .i64 R) (.slice va vn vc) := by simp [Box3, go_sem]
  obtain ⟨w0, hw0⟩ : ∃ W : World, w.alloc (.cells #[.int .i64 K, .int .i64 R, .slice va vn vc] 24) = W := ⟨_, rfl⟩
  rw [hw0] at b0 q
  replace hg := Lib.hid (hg.below b0)
  replace hG := Lib.hid (hG.below b0)
  replace h := Lib.hid (h.below b0)
  replace hw0 := Lib.hid hw0
  go_enter Tryz.func3, Tryz.ntmps3
  go_upto_region 1 with fail
  rw [hw0.out]
  go_wp2_with fail
  refine (awake15 r _ hg.out).mono ?_
  rintro e w1 ⟨_, rfl, b1, rfl⟩
  obtain ⟨⟨z0, z1, z2⟩, -, -, -⟩ := q.below b1
  go_wp2_with fail
  refine (lentRule_any K R va vn vc T w1 (h.out.below b1) (by omega)).mono ?_
  rintro e w2 ⟨_, rfl, b2, ma, mn, mc, rfl, hm⟩
  have b2a := Below.step b2 (belowAlloc w2 (.cells #[.int .i64 K, .int .i64 R, .slice ma mn mc] 24))
  have qm : Box3 (w2.alloc (.cells #[.int .i64 K, .int .i64 R, .slice ma mn mc] 24)) w2.heap.size (.int .i64 K) (.int .i64 R) (.slice ma mn mc) := by simp [Box3, go_sem]
  replace hm := hm.below (belowAlloc w2 (.cells #[.int .i64 K, .int .i64 R, .slice ma mn mc] 24))
  have c3 := Below.step b1 b2a
  generalize hgm : w2.heap.size = gm at *
  obtain ⟨w3, hw3⟩ : ∃ W : World, w2.alloc (.cells #[.int .i64 K, .int .i64 R, .slice ma mn mc] 24) = W := ⟨_, rfl⟩
  rw [hw3] at b2a qm hm c3
  replace hw3 := Lib.hid hw3
  replace hgm := Lib.hid hgm
  replace hm := Lib.hid hm
  clear z0 z1 z2
  have qm0 := qm
  obtain ⟨⟨m0, m1, m2⟩, -, -, -⟩ := qm0
  go_upto_region 4 with fail
  rw [hw3.out, hgm.out]
  go_wp2_with fail
  refine (finite_ok r K R ma mn mc T w3 (hg.out.below c3) hm.out.at hr hl).mono ?_
  rintro e w4 ⟨yv, av, bv, ev, rfl, b4, rfl, hp⟩
  have c4 := Below.step c3 b4
  clear m0 m1 m2
  obtain ⟨⟨z0, z1, z2⟩, -, -, -⟩ := q.below c4
  have hTP : ∀ x y, IsTwins K R T x y → x.length ≤ 7000 → tckP K R T x y = none := fun x y h1 h2 => by
    have hsm : smallP K R T = none := by rw [smallP_ok hr, if_neg (by omega)]
    unfold tckP
    rw [hsm]
    exact h1.p (by omega)
  replace hTP := Lib.hid hTP
  replace hr := Lib.hid hr
  rcases hp with ⟨rfl, rfl, rfl, hno⟩ | ⟨rfl, x, y, -, htw, htl, -, hoa, hob, -⟩
  · replace hno := Lib.hid hno
    go_wp2_with fail
    refine (ref15f_ok K R va vn vc T w4 (h.out.below c4) hr.out hl).mono ?_
    rintro e w5 ⟨xv, nv, ey, rfl, b5, rfl, hp⟩
    have hey : EAt w5 none (.agg #[.int .i64 0, .slice none 0 0, .slice none 0 0]) := rfl
    obtain ⟨be, q7⟩ := err_box8 w5 (.int .i64 0) (.slice none 0 0) (.slice none 0 0)
    replace hey := hey.below be
    have b5a := Below.step b5 be
    generalize hg7 : w5.heap.size = g7 at *
    obtain ⟨w6, hw6⟩ : ∃ W : World, w5.alloc (.cells #[.int .i64 0, .slice none 0 0, .slice none 0 0] 33) = W := ⟨_, rfl⟩
    rw [hw6] at be q7 hey b5a
    have c6 := Below.step c4 b5a
    have d6 := Below.step b4 b5a
    replace hw6 := Lib.hid hw6
    replace hg7 := Lib.hid hg7
    replace hey := Lib.hid hey
    clear z0 z1 z2 be
    obtain ⟨⟨m0, m1, m2⟩, -, -, -⟩ := qm.below d6
    obtain ⟨⟨z0, z1, z2⟩, -, -, -⟩ := q.below c6
    have q70 := q7
    obtain ⟨⟨x0, x1, x2⟩, -, -, -⟩ := q70
    have hex6 : ErrIs r w6 none .nilIface := rfl
    replace hex6 := Lib.hid hex6
    have hp2 : xv = .bool true ∧ nv = .int .i64 0 := by
      rcases hp with ⟨h1, h2, _⟩ | ⟨n, _, _, ⟨⟨a, b, h3, _⟩, _⟩, _⟩
      · exact ⟨h1, h2⟩
      · exact absurd h3 (hno.out a b)
    obtain ⟨rfl, rfl⟩ := hp2
    clear hp
    go_upto_region 6 with fail
    rw [hw6.out, hg7.out]
    go_wp2_with fail
    refine (raw_is r none .nilIface _ w6 (hg.out.below c6) (hG.out.below c6) hex6.out hey.out trivial).mono ?_
    rintro e w7 ⟨_, rfl, b7, rfl⟩
    have c7 := Below.step c6 b7
    have d7 := Below.step d6 b7
    clear m0 m1 m2 z0 z1 z2 x0 x1 x2
    obtain ⟨⟨m0, m1, m2⟩, -, -, -⟩ := qm.below d7
    obtain ⟨⟨z0, z1, z2⟩, -, -, -⟩ := q.below c7
    go_wp2_with fail
    refine (keptRule_any _ K R ma mn mc va vn vc T w7 (hm.out.below d7) (h.out.below c7) (by omega)).mono ?_
    rintro e w8 ⟨_, rfl, b8, rfl⟩
    have c8 := Below.step c7 b8
    clear m0 m1 m2 z0 z1 z2
    obtain ⟨⟨z0, z1, z2⟩, -, -, -⟩ := q.below c8
    have bE := Below.step b0 c8
    go_wp2
    go_ret
    exact ⟨_, rfl, bE, rfl⟩
  · obtain ⟨a1, a2, a3, rfl⟩ := hoa.at.shape
    obtain ⟨b1', b2', b3', rfl⟩ := hob.at.shape
    have lA := hoa.at.len
    have lB := hob.at.len
    rw [← htw.len] at lB
    have hlA := hoa.at.len_le
    replace hoa := Lib.hid hoa
    replace hob := Lib.hid hob
    replace htw := Lib.hid htw
    replace htl := Lib.hid htl
    go_wp2_with fail
    refine (ref15f_ok K R va vn vc T w4 (h.out.below c4) hr.out hl).mono ?_
    rintro e w5 ⟨xv, nv, ey, rfl, b5, rfl, hp⟩
    have hey : EAt w5 none (.agg #[.int .i64 0, .slice none 0 0, .slice none 0 0]) := rfl
    obtain ⟨be, q7⟩ := err_box8 w5 (.int .i64 0) (.slice none 0 0) (.slice none 0 0)
    replace hey := hey.below be
    have b5a := Below.step b5 be
    generalize hg7 : w5.heap.size = g7 at *
    obtain ⟨w6, hw6⟩ : ∃ W : World, w5.alloc (.cells #[.int .i64 0, .slice none 0 0, .slice none 0 0] 33) = W := ⟨_, rfl⟩
    rw [hw6] at be q7 hey b5a
    have c6 := Below.step c4 b5a
    have d6 := Below.step b4 b5a
    replace hw6 := Lib.hid hw6
    replace hg7 := Lib.hid hg7
    replace hey := Lib.hid hey
    clear z0 z1 z2 be
    obtain ⟨⟨m0, m1, m2⟩, -, -, -⟩ := qm.below d6
    obtain ⟨⟨z0, z1, z2⟩, -, -, -⟩ := q.below c6
    have q70 := q7
    obtain ⟨⟨x0, x1, x2⟩, -, -, -⟩ := q70
    have hex6 : ErrIs r w6 none .nilIface := rfl
    replace hex6 := Lib.hid hex6
    have hp2 : xv = .bool false ∧ nv = .int .i64 x.length ∧ x.length ≤ 7000 := by
      rcases hp with ⟨_, _, h3⟩ | ⟨n, h1, h2, h3, h4⟩
      · exact absurd htw.out (h3 x y)
      · obtain rfl := h3.unique htl.out
        exact ⟨h1, h2, h4⟩
    obtain ⟨rfl, rfl, hx7⟩ := hp2
    clear hp
    go_upto_region 6 with fail
    rw [hw6.out, hg7.out]
    go_wp2_with fail
    refine (raw_is r none .nilIface _ w6 (hg.out.below c6) (hG.out.below c6) hex6.out hey.out trivial).mono ?_
    rintro e w7 ⟨_, rfl, b7, rfl⟩
    have c7 := Below.step c6 b7
    have d7 := Below.step d6 b7
    clear m0 m1 m2 z0 z1 z2 x0 x1 x2
    obtain ⟨⟨m0, m1, m2⟩, -, -, -⟩ := qm.below d7
    obtain ⟨⟨z0, z1, z2⟩, -, -, -⟩ := q.below c7
    go_wp2_with fail
    refine (keptRule_any _ K R ma mn mc va vn vc T w7 (hm.out.below d7) (h.out.below c7) (by omega)).mono ?_
    rintro e w8 ⟨_, rfl, b8, rfl⟩
    have c8 := Below.step c7 b8
    clear m0 m1 m2 z0 z1 z2
    obtain ⟨⟨z0, z1, z2⟩, -, -, -⟩ := q.below c8
    have b48 : Below w4.heap.size w4 w8 := Below.step (Below.step b5a b7) b8
    have hoa8 := hoa.out.at.below b48
    have hob8 := hob.out.at.below b48
    have hP := hTP.out x y htw.out hx7
    replace hoa8 := Lib.hid hoa8
    replace hob8 := Lib.hid hob8
    replace hP := Lib.hid hP
    go_wp2_with fail
    refine (ref15c_any K R va vn vc T _ x _ y w8 (h.out.below c8) hoa8.out hob8.out).mono ?_
    rintro e w9 ⟨ze, rfl, b9, hze⟩
    rw [hP.out] at hze
    obtain rfl : ze = .agg #[.int .i64 0, .slice none 0 0, .slice none 0 0] := hze
    have c9 := Below.step c8 b9
    clear z0 z1 z2
    obtain ⟨⟨z0, z1, z2⟩, -, -, -⟩ := q.below c9
    go_wp2_with fail
    refine (err_bad _ _ _ _ _ _ _ w9).mono ?_
    rintro e w10 ⟨_, rfl, b10, rfl⟩
    rw [show ((0 : Int) != 0) = false from rfl]
    have c10 := Below.step c9 b10
    clear z0 z1 z2
    obtain ⟨⟨z0, z1, z2⟩, -, -, -⟩ := q.below c10
    go_wp2_with fail
    refine (tcheck_any r K R va vn vc T _ x _ y w10 (hg.out.below c10) (h.out.below c10) ((hoa8.out.below b9).below b10) ((hob8.out.below b9).below b10)).mono ?_
    rintro e w11 ⟨ze, rfl, b11, hze⟩
    rw [hP.out] at hze
    obtain rfl : ze = .nilIface := hze
    have bE := Below.step b0 (Below.step c10 b11)
    go_wp2
    go_ret
    exact ⟨_, rfl, bE, rfl⟩

theorem twinsTells_any (r : Nat → Addr) (k R : Int) (tv : Value) (T : List Int) (w : World) (hg : Glob r w) (hG : GlobE w) (h : IntsAt w tv T) (lT : T.length ≤ 17592186043904) :
    Calls Tryz.prog 3 #[.agg #[.int .i64 k, .int .i64 R, tv]] w (Ret1 (fun x _ => x = .bool true) w) := by
  obtain ⟨va, vn, vc, rfl⟩ := h.shape
  cases hc : smallP k R T with
  | some t => exact tt_bad r k R va vn vc T t w hg hG h lT hc
  | none =>
    obtain ⟨hck, hl⟩ := smallP_none hc
    obtain ⟨K, Q, rfl, rfl, hr⟩ := checkP_none hck
    exact tt_ok r K Q va vn vc T w hg hG h lT hr hl
end Go.Proofs.YtilpckngghffoaaGreatDoor

namespace Go.Proofs.YtilpckngghffoaaGreatDoor
open Go.ChangeShapes Go.WideShapes Go.ChangeAt Go.RowKit Go.Joins
set_option maxRecDepth 100000

theorem own : ownKnob Tryz.prog.godebug = none := by kernel_rfl
theorem laidOut : laidOutB Tryz.prog = true := by kernel_rfl
theorem cellsInt : Tryz.prog.cellsOf 3 = 1 := by kernel_rfl
theorem uInt : Tryz.prog.underlying 3 = some (.int .i64) := by kernel_rfl
theorem bytesInt : Tryz.prog.bytesOf 3 = 8 := by kernel_rfl

theorem i64_of_wf {n : Int} (h : (Lit.int .i64 n).wf = true) : I64 n := by
  have := bounds_i64 h
  unfold I64
  omega

/-- A []int that came in. -/
theorem open_intsV {H : Type} {enc : TypeId × Value → H} {W : World} {held : Bool} {fuel : Nat} {v : Value} {y : DataW H × List MemPlace}
    (h : DataW.trod enc Tryz.prog W 0 (fun _ => true) held fuel 22 [v] = some y) (hw : ∀ n ∈ y.1.weights Tryz.prog 22, n ≤ reachBytes) :
    ∃ xs, IntsAt W v xs ∧ xs.length ≤ 17592186043904 ∧ ∀ x ∈ xs, I64 x := by
  rcases open_ints uInts uInt cellsInt h with ⟨hcs, _⟩ | ⟨a, len, cap, zs, hcs, _, hl, hm, hz, hx, hcell, hwz⟩
  · simp at hcs
    subst hcs
    exact ⟨[], (OwnI.nil 0 W).at, by simp, by simp⟩
  · simp at hcs
    subst hcs
    simp only [if_true] at hz
    have hzl : (zs.take len).length = len := by simp; omega
    refine ⟨zs.take len, ⟨some a, cap, by rw [hzl], by rw [hzl]; exact hl, hm, (fun e => by cases e), fun i hi => ?_⟩, ?_, fun x hx => i64_of_wf (hwz x (List.mem_of_mem_take hx))⟩
    · have hi' : i < zs.length := by rw [hzl] at hi; omega
      show W.cell? (a.add i) = _
      rw [hcell i hi']
      simp [List.getD, hi']
    · rw [hx] at hw
      have := hw ((lits (H := H) .i64 (zs.take len)).length * 8 + (lits (H := H) .i64 (zs.drop len)).length * 8) (by
        simp only [DataW.weights, uInts, bytesInt, List.mem_cons]
        left; omega)
      simp only [lits, List.length_map, reachBytes] at this
      omega

theorem weights_each3 {H : Type} {t0 t1 t2 : TypeId} {y0 y1 y2 : DataW H} {n : Nat} (h : n ∈ y2.weights Tryz.prog t2) : n ∈ DataW.weightsEach Tryz.prog [t0, t1, t2] [y0, y1, y2] := by
  simp only [DataW.weightsEach, List.mem_append]
  exact .inr (.inr (.inl h))

/-- A rule that came in. -/
theorem open_ruleV {H : Type} {enc : TypeId × Value → H} {W : World} {held : Bool} {v : Value} {d : DataW H} {p : List MemPlace} {b0 : Nat}
    (hv : Value.okWide Tryz.prog W .any b0 24 v) (h : DataW.Trod enc Tryz.prog W 0 (fun _ => true) held 24 v d p) (hw : ∀ n ∈ d.weights Tryz.prog 24, n ≤ reachBytes) :
    ∃ (k R : Int) (u : Value) (xs : List Int), v = .agg #[.int .i64 k, .int .i64 R, u] ∧ IntsAt W u xs ∧ xs.length ≤ 17592186043904 ∧ (∀ x ∈ xs, I64 x) ∧ I64 k ∧ I64 R := by
  obtain ⟨v0, v1, v2, y0, y1, y2, n, rfl, rfl, rfl, h0, h1, h2⟩ := open_agg3 Tryz.underlying24 (by kernel_rfl) (by kernel_rfl) hv h
  obtain ⟨a, e0, _, wa⟩ := DataW.trod_int uInt h0
  obtain ⟨b, e1, _, wb⟩ := DataW.trod_int uInt h1
  simp at e0 e1
  subst e0 e1
  obtain ⟨xs, hx, hl, hb⟩ := open_intsV h2 fun n hn => hw n (by
    simp only [DataW.weights, Tryz.underlying24]
    exact weights_each3 (t0 := 3) (t1 := 3) (t2 := 22) hn)
  exact ⟨a, b, v2, xs, rfl, hx, hl, hb, i64_of_wf wa, i64_of_wf wb⟩

/-! The package-level errors. -/
theorem star : "*" ++ "errors.errorString" = "*errors.errorString" := by decide
theorem rowES (u : TypeId) (h : Tryz.prog.typeName? 3 u = some "*errors.errorString") : u = 238 :=
  typeName_ptr_named (nm := "errors.errorString") (by rw [star]; kernel_rfl) (by kernel_rfl) (by decide) u (by rw [star]; exact h)
theorem pES : Tryz.prog.underlying 238 = some (.pointer 259) := by kernel_rfl
theorem cES : Tryz.prog.cellsOf 259 = 1 := by kernel_rfl
theorem cStr : Tryz.prog.cellsOf 9 = 1 := by kernel_rfl

def laid12 : List (String × DataW Unit) := [("eden/api.BadRule", Rows.laid_eden_api_BadRule), ("eden/api.BadWord", Rows.laid_eden_api_BadWord), ("eden/api.BadArg", Rows.laid_eden_api_BadArg), ("eden/api.TooBig", Rows.laid_eden_api_TooBig), ("eden/api.NoBudget", Rows.laid_eden_api_NoBudget), ("eden/api.BadText", Rows.laid_eden_api_BadText), ("eden/api.BadPatch", Rows.laid_eden_api_BadPatch), ("eden/api.BadCert", Rows.laid_eden_api_BadCert), ("eden/api.NoInverse", Rows.laid_eden_api_NoInverse), ("eden/api.BadLine", Rows.laid_eden_api_BadLine), ("eden/api.BadState", Rows.laid_eden_api_BadState), ("eden/api.Unknown", Rows.laid_eden_api_Unknown)]

theorem sentinel {n : String} {text : List UInt8} {r : List (String × DataW Unit)} {W : World} {g : Nat}
    (h : laidMet Tryz.prog ((n, .iface "*errors.errorString" (.ptr (.agg [.lit (.string text)]))) :: r) W)
    (hg : Tryz.prog.globalNamed n = some g) (ht : (Tryz.prog.globals[g]?).map (·.type) = some 28) :
    (∃ a : Addr, W.cell? ⟨g, 0, none⟩ = some (.iface 238 (.pointer (some a))) ∧ ∃ s, W.cell? a = some (.string s) ∧ s.data.toList = text) ∧ laidMet Tryz.prog r W := by
  refine ⟨?_, h.tail⟩
  obtain ⟨a, s, hv, hc, hs, _⟩ := laid_sentinel h hg ht Tryz.underlying28 rowES pES Tryz.underlying259 rfl rfl Tryz.underlying9 cES cStr
  exact ⟨a, by simpa using World.var?_cell hg hv 0, s, hc, hs⟩

def txt : Nat → List UInt8
  | 1 => [98, 97, 100, 32, 114, 117, 108, 101]
  | 2 => [98, 97, 100, 32, 119, 111, 114, 100]
  | 3 => [98, 97, 100, 32, 97, 114, 103, 117, 109, 101, 110, 116]
  | 4 => [116, 111, 111, 32, 98, 105, 103]
  | 5 => [110, 111, 32, 98, 117, 100, 103, 101, 116]
  | 6 => [98, 97, 100, 32, 116, 101, 120, 116]
  | 7 => [98, 97, 100, 32, 112, 97, 116, 99, 104]
  | 8 => [98, 97, 100, 32, 99, 101, 114, 116, 105, 102, 105, 99, 97, 116, 101]
  | 9 => [110, 111, 32, 105, 110, 118, 101, 114, 115, 101]
  | 10 => [98, 97, 100, 32, 108, 105, 110, 101]
  | 11 => [98, 97, 100, 32, 115, 116, 97, 116, 101]
  | 99 => [117, 110, 107, 110, 111, 119, 110]
  | _ => []
theorem txt_apart : ∀ m n : Fin 12, 1 ≤ m.val → 1 ≤ n.val → txt m.val = txt n.val → m = n := by decide

theorem glob_of_laid {W : World} (h : laidMet Tryz.prog laid12 W) : ∃ r, Glob r W := by
  obtain ⟨⟨a1, c1, s1, e1, t1⟩, h⟩ := sentinel (text := txt 1) h (g := 0) (by kernel_rfl) (by kernel_rfl)
  obtain ⟨⟨a2, c2, s2, e2, t2⟩, h⟩ := sentinel (text := txt 2) h (g := 1) (by kernel_rfl) (by kernel_rfl)
  obtain ⟨⟨a3, c3, s3, e3, t3⟩, h⟩ := sentinel (text := txt 3) h (g := 2) (by kernel_rfl) (by kernel_rfl)
  obtain ⟨⟨a4, c4, s4, e4, t4⟩, h⟩ := sentinel (text := txt 4) h (g := 3) (by kernel_rfl) (by kernel_rfl)
  obtain ⟨⟨a5, c5, s5, e5, t5⟩, h⟩ := sentinel (text := txt 5) h (g := 4) (by kernel_rfl) (by kernel_rfl)
  obtain ⟨⟨a6, c6, s6, e6, t6⟩, h⟩ := sentinel (text := txt 6) h (g := 5) (by kernel_rfl) (by kernel_rfl)
  obtain ⟨⟨a7, c7, s7, e7, t7⟩, h⟩ := sentinel (text := txt 7) h (g := 6) (by kernel_rfl) (by kernel_rfl)
  obtain ⟨⟨a8, c8, s8, e8, t8⟩, h⟩ := sentinel (text := txt 8) h (g := 7) (by kernel_rfl) (by kernel_rfl)
  obtain ⟨⟨a9, c9, s9, e9, t9⟩, h⟩ := sentinel (text := txt 9) h (g := 8) (by kernel_rfl) (by kernel_rfl)
  obtain ⟨⟨a10, c10, s10, e10, t10⟩, h⟩ := sentinel (text := txt 10) h (g := 9) (by kernel_rfl) (by kernel_rfl)
  obtain ⟨⟨a11, c11, s11, e11, t11⟩, h⟩ := sentinel (text := txt 11) h (g := 10) (by kernel_rfl) (by kernel_rfl)
  obtain ⟨⟨a99, c99, s99, e99, t99⟩, h⟩ := sentinel (text := txt 99) h (g := 11) (by kernel_rfl) (by kernel_rfl)
  clear h
  have key : ∀ n : Nat, (1 ≤ n ∧ n ≤ 11) ∨ n = 99 → ∃ s, W.cell? ((fun n : Nat => match n with | 1 => a1 | 2 => a2 | 3 => a3 | 4 => a4 | 5 => a5 | 6 => a6 | 7 => a7 | 8 => a8 | 9 => a9 | 10 => a10 | 11 => a11 | _ => a99) n) = some (.string s) ∧ s.data.toList = txt n := by
    intro n hn
    have : n = 1 ∨ n = 2 ∨ n = 3 ∨ n = 4 ∨ n = 5 ∨ n = 6 ∨ n = 7 ∨ n = 8 ∨ n = 9 ∨ n = 10 ∨ n = 11 ∨ n = 99 := by omega
    rcases this with rfl | rfl | rfl | rfl | rfl | rfl | rfl | rfl | rfl | rfl | rfl | rfl
    · exact ⟨s1, e1, t1⟩
    · exact ⟨s2, e2, t2⟩
    · exact ⟨s3, e3, t3⟩
    · exact ⟨s4, e4, t4⟩
    · exact ⟨s5, e5, t5⟩
    · exact ⟨s6, e6, t6⟩
    · exact ⟨s7, e7, t7⟩
    · exact ⟨s8, e8, t8⟩
    · exact ⟨s9, e9, t9⟩
    · exact ⟨s10, e10, t10⟩
    · exact ⟨s11, e11, t11⟩
    · exact ⟨s99, e99, t99⟩
  refine ⟨(fun n : Nat => match n with | 1 => a1 | 2 => a2 | 3 => a3 | 4 => a4 | 5 => a5 | 6 => a6 | 7 => a7 | 8 => a8 | 9 => a9 | 10 => a10 | 11 => a11 | _ => a99), c1, c2, c3, c4, c5, c6, c7, c8, c9, c10, c11, c99, (fun n hn => ?_), fun m n hm1 hm2 hn1 hn2 he => ?_⟩
  · obtain ⟨s, hs, _⟩ := key n hn
    exact ⟨s, hs⟩
  · obtain ⟨s, hs, ts⟩ := key m.toNat (by omega)
    obtain ⟨s', hs', ts'⟩ := key n.toNat (by omega)
    have hss : s = s' := by
      have := hs.symm.trans ((congrArg W.cell? he).trans hs')
      simpa using this
    subst hss
    have := txt_apart ⟨m.toNat, by omega⟩ ⟨n.toNat, by omega⟩ (by simp; omega) (by simp; omega) (ts.symm.trans ts')
    have := congrArg Fin.val this
    simp at this
    omega
end Go.Proofs.YtilpckngghffoaaGreatDoor

namespace Go.Proofs.YtilpckngghffoaaGreatDoor
open Go.RowKit
set_option maxRecDepth 100000

def laid13 : List (String × DataW Unit) := ("errors.errorType", Rows.laid_errors_errorType) :: laid12
theorem rtypeNo : (Tryz.prog.cutTypes.find? (·.1 == "internal/reflectlite.rtype")).map (·.2) = some 169 := by kernel_rfl
theorem errorTypeNo : Tryz.prog.globalNamed "errors.errorType" = some 12 := by kernel_rfl
theorem typesNo : Tryz.prog.types.size = 371 - 100 := by kernel_rfl
theorem oneError : ((List.range (371 - 100)).filter fun t => Tryz.prog.rowNamed t [101, 114, 114, 111, 114]) = [28] := by kernel_rfl
theorem handleErr : typeHandle Tryz.prog 28 = .pointer (some ⟨13, 28, none⟩) := by kernel_rfl

theorem glob_of_laidH {W : World} (h : laidMetH Tryz.prog laid13 W) : ∃ r, Glob r W ∧ GlobE W := by
  have h' : laidMet Tryz.prog laid12 W ∧ handlesMet Tryz.prog [("errors.errorType", Rows.laid_errors_errorType)] W := h
  obtain ⟨r, hg⟩ := glob_of_laid h'.1
  refine ⟨r, hg, ?_⟩
  obtain ⟨name, u, ty, e1, e2, e3, e4, e5⟩ := h'.2 _ (List.mem_cons_self ..)
  have en : name = [101, 114, 114, 111, 114] := (Option.some.inj e1).symm
  subst en
  obtain rfl := Option.some.inj (rtypeNo.symm.trans e2)
  have hm : ty ∈ (List.range (371 - 100)).filter fun t => Tryz.prog.rowNamed t [101, 114, 114, 111, 114] := List.mem_filter.2 ⟨List.mem_range.2 (by rw [← typesNo]; exact e3), e4⟩
  rw [oneError] at hm
  obtain rfl := List.mem_singleton.1 hm
  rw [handleErr] at e5
  simpa [GlobE] using World.var?_cell errorTypeNo e5 0
end Go.Proofs.YtilpckngghffoaaGreatDoor

namespace Go.Proofs.YtilpckngghffoaaGreatDoor
open Go.ChangeShapes Go.WideShapes Go.ChangeAt Go.RowKit Go.Joins
namespace TwinsTellsP

set_option maxRecDepth 100000 in
theorem door_met (os : Os) (args : Array Value) : laidMetH Tryz.prog Rows.twinsTellsRow.laid ((World.doorLaid Tryz.prog 400 os).forCall (fun _ _ => 0) ⟨#[], args, []⟩).memory :=
  laidMetH_of_parts3 (fuel := 8) (laidMet_of_run' 8 (by kernel_rfl) (by kernel_rfl)) (by kernel_rfl) (by kernel_rfl)

set_option maxRecDepth 100000 in
theorem lifted (os : Os) (started : os.Started) (H : Type) (enc : TypeId × Value → H) :
    ReturnsInHanded {} Tryz.checked os 3 .any (fun w args => (Rows.twinsTellsSpec.pre enc Tryz.prog Tryz.f3 [] false w args ∧ laidMetH Tryz.prog Rows.twinsTellsRow.laid w) ∧ sizedMet enc Tryz.prog Tryz.f3 (OpenSpec.ofChange Rows.twinsTellsSpec) false w args)
      (Rows.twinsTellsSpec.post enc Tryz.prog Tryz.f3 false true false false) := by
  refine returnsInHanded_of_change_and (C := Tryz.checked) (X := fun w _ => laidMetH Tryz.prog Rows.twinsTellsRow.laid w) (fun _ _ _ hh h => h.of_heap hh) own started (by kernel_rfl) Tryz.func3
    (ChangeSpec.witness_shaped (enc := enc) (C := Tryz.checked) (os := os) (X := fun w _ => laidMetH Tryz.prog Rows.twinsTellsRow.laid w) false (World.doorLaid Tryz.prog 400 os) #[.agg #[.int .i64 0, .int .i64 0, .slice none 0 0]] 8 rfl (World.shaped_of_RefB (by kernel_rfl) (by kernel_rfl)) (by kernel_rfl) (by kernel_rfl) (by kernel_rfl) (door_met os _)) ?_
  intro W base args ds gs before hval0 hW _ hsz hL _
  have hval : ∀ (j : Nat) t v, Tryz.f3.params[j]? = some t → args[j]? = some v → Value.okWide Tryz.prog W .any base t v := hval0
  have hW' := hW
  obtain ⟨p, q, hA0, hV, rfl, hfz, hnd⟩ := hW
  have hA : DataW.TrodAll enc Tryz.prog W 0 (fun _ => true) true Tryz.f3.params.toList args.toList ds p := hA0
  rw [Tryz.params3] at hA hval hsz
  obtain ⟨v0, vs0, d0, ds0, p0, q0, hargs, rfl, rfl, g0, t0⟩ := trodAll_cons hA
  obtain ⟨rfl, rfl, rfl⟩ := trodAll_nil t0
  obtain rfl : args = #[v0] := by cases args; simp_all
  obtain ⟨rfl, rfl⟩ := trodVars_none hV
  have kk0 := g0
  have lt0 : ∀ x ∈ p0, x.block < W.heap.size := by obtain ⟨m, hm⟩ := kk0; exact DataW.trod_lt m _ _ _ hm
  obtain ⟨kr0, rr0, u0, x0, rfl, h0, l0, b0, bk0, br0⟩ := open_ruleV (hval 0 24 v0 rfl rfl) g0 (fun n hn => by
    have := List.all_eq_true.1 hsz n (DataW.weights_mem_each (j := 0) (t := 24) rfl rfl n hn)
    simpa using this)
  obtain ⟨r, hg, hG⟩ := glob_of_laidH (W := W) (by
    exact hL)
  clear hA0 hval0
  refine (twinsTells_any r kr0 rr0 u0 x0 W hg hG h0 l0).mono fun e W' ⟨x, he, bel, hxx⟩ => ?_
  subst he; subst hxx
  exact ⟨_, rfl, _, _, _, [], _, [], hW', trodAll_mk1 (shut_bool Tryz.underlying4 _), (trodAll_cons_mk (Below.trod laidOut (by kernel_rfl) (of_decide_eq_true (by kernel_rfl)) kk0 bel lt0) trodAll_mk0), rfl, bel.frame _, fun h => by cases h⟩

theorem over : Rows.TwinsTellsSaid :=
  OpenClaim.holds_of_wide 3 Tryz.f3 rfl rfl rfl rfl rfl rfl rfl ⟨rfl, rfl, rfl, rfl, rfl⟩ rfl rfl rfl rfl rfl (by kernel_rfl) Tryz.func3 (by kernel_rfl)
    (of_decide_eq_true (by kernel_rfl)) (by unfold Func.isWrapper; first | (rw [if_pos (by decide +kernel)]; kernel_rfl) | (rw [if_neg (by decide +kernel)]; exact ⟨rfl, rfl⟩))
    (fun os started H enc _ => lifted os started H enc)

/-- The tied card. -/
theorem card_holds : Rows.TwinsTellsCardSaid :=
  Claim7.holds_tied_plain_at .later [] [.handle, .sentinel, .sentinel, .sentinel, .sentinel, .sentinel, .sentinel, .sentinel, .sentinel, .sentinel, .sentinel, .sentinel, .sentinel] true _ _
    over (fun _ h => by cases h) (by kernel_rfl) (fun _ h => by cases h) twinsTells_row_tie rfl ⟨rfl, rfl⟩ (by kernel_rfl) rfl
    (fun f fn hf hfn => by
      obtain rfl : f = 3 := Option.some.inj ((show Tryz.prog.funcNamed Rows.twinsTellsRow.func = some 3 by kernel_rfl).symm.trans hf) |>.symm
      obtain rfl : fn = Tryz.f3 := (Option.some.inj (Tryz.func3.symm.trans hfn)).symm
      exact ⟨by kernel_rfl, fun j t ht => by
        rw [Tryz.params3] at ht
        have hm : t ∈ [24] := by simpa using Array.mem_of_getElem? ht
        have hall : ([24].all fun u => !Tryz.prog.wantsStandIn u) = true := by kernel_rfl
        exact (show Tryz.prog.wantsStandIn t = false by simpa using List.all_eq_true.1 hall t hm)⟩)
    (by kernel_rfl)
end TwinsTellsP
#print axioms TwinsTellsP.card_holds
end Go.Proofs.YtilpckngghffoaaGreatDoor
