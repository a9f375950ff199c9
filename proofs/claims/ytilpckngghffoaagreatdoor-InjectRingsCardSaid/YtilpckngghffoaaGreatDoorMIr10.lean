/-
  Proved: the law edenlaw14.InjectRings as its tied card: it returns true and never panics, for any rule and any number. No conditions beyond the card's own.
  Walk: edenref14.Rings.
  Walk: edenraw.Lists at equal lists.
  Walk: edenlaw13.awake.
  Walk: edenlaw13.PairsGraphs returns true.
  Walk: edenlaw14.awake.
  Walk: edenlaw14.InjectRings returns true.
  Opening what a call is handed: []int, api.Rule, the package-level errors.
  From a card's list of laid variables that holds the handle of the type error: the package errors and errors.errorType.
-/
import Derived.Test.YtilpckngghffoaaGreatDoorMIr9
import Derived.Deep.DeepCutAuto
import Derived.Test.YtilpckngghffoaaGreatDoorRows
import Derived.ProofKit
import Derived.OpenShut
import Derived.ShutString
import Derived.ChangeOld
import Derived.LaidMore
import Derived.Stop.Joined
import Derived.Stop.LaidErr
import Derived.Lib.SmallJoins
import Derived.LaidHandle
import Derived.Test.YtilpckngghffoaaGreatDoorCards
import Derived.Test.YtilpckngghffoaaGreatDoorTie
import Derived.SevenTiedAt
namespace Go.Proofs.YtilpckngghffoaaGreatDoor
open Go.RowKit
set_option maxRecDepth 100000

/-- What edenref14.Rings leaves at a small rule and a length. -/
def RRPost (B K R : Nat) (T : List Int) (n : Nat) (yes x y e : Value) (w' : World) : Prop :=
  (1 < K ∧ 4096 < pw K n ∧ yes = .bool false ∧ x = .slice none 0 0 ∧ y = .slice none 0 0 ∧ EOwn B w' (fresh sInject 1 4) e) ∨
  ((K = 1 ∨ pw K n ≤ 4096) ∧ e = .agg #[.int .i64 0, .slice none 0 0, .slice none 0 0] ∧ yes = .bool true ∧ x = .slice none 0 0 ∧ y = .slice none 0 0 ∧ (K = 1 ∨ NoRepeat (imgN K R T n) (pw K n))) ∨
  (1 < K ∧ pw K n ≤ 4096 ∧ e = .agg #[.int .i64 0, .slice none 0 0, .slice none 0 0] ∧ yes = .bool false ∧ ∃ a b, FirstIs (imgN K R T n) (pw K n) a b ∧ IntsAt w' x (digs K n a) ∧ IntsAt w' y (digs K n b))
theorem num_inj {K : Nat} {x y : List Int} (hK : 1 ≤ K) (hx : Syms K x) (hy : Syms K y) (hl : x.length = y.length) (h : numW K x = numW K y) : x = y := by
  have h1 := digs_numW hK x hx
  have h2 := digs_numW hK y hy
  rw [← h1, ← h2, h, hl]

set_option maxHeartbeats 2000000 in
theorem ref14_rings_bad (k R n : Int) (va : Option Addr) (vn vc : Nat) (T : List Int) (t : Int × List (ByteArray × Int)) (w : World) (h : IntsAt w (.slice va vn vc) T) (hc : smallP k R T = some t) :
    Calls Tryz.prog 33 #[.agg #[.int .i64 k, .int .i64 R, .slice va vn vc], .int .i64 n] w (Ret4 (fun x y z u w' => x = .bool false ∧ y = .slice none 0 0 ∧ z = .slice none 0 0 ∧ EOwn w.heap.size w' (under sInject 0 (some t)) u) w) := by
  have bA := Below.step (belowAlloc w (.cells #[.int .i64 k, .int .i64 R, .slice va vn vc] 24)) (belowAlloc _ (.cells #[.int .i64 0, .slice none 0 0, .slice none 0 0] 33))
  have qA : Box3 ((w.alloc (.cells #[.int .i64 k, .int .i64 R, .slice va vn vc] 24)).alloc (.cells #[.int .i64 0, .slice none 0 0, .slice none 0 0] 33)) w.heap.size (.int .i64 k) (.int .i64 R) (.slice va vn vc) := by simp [Box3, go_sem]
  have q4 : Box3 ((w.alloc (.cells #[.int .i64 k, .int .i64 R, .slice va vn vc] 24)).alloc (.cells #[.int .i64 0, .slice none 0 0, .slice none 0 0] 33)) (w.heap.size + 1) (.int .i64 0) (.slice none 0 0) (.slice none 0 0) := by simp [Box3, go_sem]
  have s0 : ((w.alloc (.cells #[.int .i64 k, .int .i64 R, .slice va vn vc] 24)).alloc (.cells #[.int .i64 0, .slice none 0 0, .slice none 0 0] 33)).heap.size = w.heap.size + 2 := by simp
  obtain ⟨WA, hWA⟩ : ∃ W : World, ((w.alloc (.cells #[.int .i64 k, .int .i64 R, .slice va vn vc] 24)).alloc (.cells #[.int .i64 0, .slice none 0 0, .slice none 0 0] 33)) = W := ⟨_, rfl⟩
  replace h := h.below bA
  rw [hWA] at h bA qA q4 s0
  replace h := Lib.hid h
  replace s0 := Lib.hid s0
  replace hWA := Lib.hid hWA
  have qA0 := qA
  obtain ⟨⟨z0, z1, z2⟩, -, -, -⟩ := qA0
  replace hc := Lib.hid hc
  go_enter Tryz.func33, Tryz.ntmps33
  go_upto_region 1 with fail
  rw [hWA.out]
  go_wp2_with fail
  refine (ref08_fault _ k R va vn vc T WA h.out).mono ?_
  rintro e w1 ⟨x, rfl, b1, he⟩
  rw [hc.out] at he
  obtain ⟨n', l⟩ := t
  have hn := smallP_num hc.out
  have he' := he
  obtain ⟨a1, n1, c1, a2, n2, c2, rfl, _, _⟩ := he'
  obtain ⟨be, ⟨⟨y0, y1, y2⟩, -, -, -⟩⟩ := err_box8 w1 (.int .i64 n') (.slice a1 n1 c1) (.slice a2 n2 c2)
  have c1e := Below.step b1 be
  have hs1 := b1.size
  rw [s0.out] at hs1
  have hn0 : (n' != 0) = true := by rw [bne_iff_ne]; omega
  have heb := he.below be
  obtain ⟨W2, hW2⟩ : ∃ W2 : World, w1.alloc (.cells #[.int .i64 n', .slice a1 n1 c1, .slice a2 n2 c2] 33) = W2 := ⟨_, rfl⟩
  rw [hW2] at be c1e heb y0 y1 y2
  replace hW2 := Lib.hid hW2
  replace he := Lib.hid he
  replace heb := Lib.hid heb
  clear z0 z1 z2
  go_upto_region 2 with fail
  rw [hW2.out]
  go_wp2_with fail
  refine (err_bad _ _ _ _ _ _ _ W2).mono ?_
  rintro e w3 ⟨_, rfl, b3, rfl⟩
  rw [hn0]
  have hey := heb.out.below b3
  have c3 := Below.step c1e b3
  obtain ⟨W, hW⟩ : ∃ W : World, w3.drew = W := ⟨_, rfl⟩
  have c4 : Below WA.heap.size WA W := by rw [← hW]; exact c3.drew
  have heW : EOwn WA.heap.size W (under sInject 0 (some (n', l))) (.agg #[.int .i64 n', .slice a1 n1 c1, .slice a2 n2 c2]) := by rw [← hW]; exact hey.drew
  have hS : W.cell? ⟨w1.heap.size, 0, none⟩ = some (.int .i64 n') ∧ W.cell? ⟨w1.heap.size, 1, none⟩ = some (.slice a1 n1 c1) ∧ W.cell? ⟨w1.heap.size, 2, none⟩ = some (.slice a2 n2 c2) := by
    rw [← hW]
    exact ⟨(b3.cell (World.block_lt_of_cell? _ _ y0)).trans y0, (b3.cell (World.block_lt_of_cell? _ _ y1)).trans y1, (b3.cell (World.block_lt_of_cell? _ _ y2)).trans y2⟩
  obtain ⟨⟨u0, u1, u2⟩, f0, f1, f2⟩ := q4.below c4
  have sW := c4.size
  rw [s0.out] at sW
  have he9 := (heW.set3 (b := w.heap.size + 1) (by have := s0.out; omega) (.int .i64 n') (.slice a1 n1 c1) (.slice a2 n2 c2)).mono (B' := w.heap.size) (by have := s0.out; omega)
  replace hW := Lib.hid hW
  replace hey := Lib.hid hey
  replace heW := Lib.hid heW
  replace he9 := Lib.hid he9
  clear y0 y1 y2
  go_upto_region 3 with fail
  refine wp_region_plan (fun w' => w'.cell? ⟨w1.heap.size, 0, none⟩ = some (.int .i64 n') ∧ w'.cell? ⟨w1.heap.size, 1, none⟩ = some (.slice a1 n1 c1) ∧ w'.cell? ⟨w1.heap.size, 2, none⟩ = some (.slice a2 n2 c2)) 4 [(0, true), (1, true), (2, true), (3, true)] (by kernel_rfl) (by kernel_rfl) ?_
  rw [hW.out]
  refine headY (v := ?_) (some 18) rfl rfl (Or.inl ⟨by rfl, ?_⟩) hS ?_
  rotate_left
  · rintro W' ⟨s0, s1, s2⟩; go_simp; try with_reducible rfl
  simp only [Act.put, List.setIfInBounds_toArray, List.set_cons_zero, List.set_cons_succ]
  refine headY (v := ?_) (some 4) rfl rfl (Or.inl ⟨by rfl, ?_⟩) hS ?_
  rotate_left
  · rintro W' ⟨s0, s1, s2⟩; go_simp; try with_reducible rfl
  simp only [Act.put, List.setIfInBounds_toArray, List.set_cons_zero, List.set_cons_succ]
  refine headY (v := ?_) (some 5) rfl rfl (Or.inl ⟨by rfl, ?_⟩) hS ?_
  rotate_left
  · rintro W' ⟨s0, s1, s2⟩; go_simp; try with_reducible rfl
  simp only [Act.put, List.setIfInBounds_toArray, List.set_cons_zero, List.set_cons_succ]
  refine headY (v := ?_) (some 6) rfl rfl (Or.inl ⟨by rfl, ?_⟩) hS ?_
  rotate_left
  · rintro W' ⟨s0, s1, s2⟩; go_simp; try with_reducible rfl
  simp only [Act.put, List.setIfInBounds_toArray, List.set_cons_zero, List.set_cons_succ]
  refine head0 ?_
  simp only [List.drop_succ_cons, List.drop_zero]
  clear hS
  go_wp2
  refine NoPanic.normal ?_
  go_wp2
  (try simp only [Exit.inBlock, Exit.then])
  exact bodyPost_ret (v := .tuple #[.bool false, .slice none 0 0, .slice none 0 0, .agg #[.int .i64 n', .slice a1 n1 c1, .slice a2 n2 c2]]) (by simp [results, Tryz.results33, go_sem, u0, u1, u2]) rfl ⟨_, _, _, _, rfl, below_set3 (Below.step bA c4) (by omega) _ _ _, rfl, rfl, rfl, he9.out⟩

set_option maxHeartbeats 2000000 in
theorem ref14_rings_low (k R n : Int) (va : Option Addr) (vn vc : Nat) (T : List Int) (w : World) (h : IntsAt w (.slice va vn vc) T) (hc : smallP k R T = none) (hn : n < 1) :
    Calls Tryz.prog 33 #[.agg #[.int .i64 k, .int .i64 R, .slice va vn vc], .int .i64 n] w (Ret4 (fun x y z u w' => x = .bool false ∧ y = .slice none 0 0 ∧ z = .slice none 0 0 ∧ EOwn w.heap.size w' (fresh sInject 1 3) u) w) := by
  have bA := Below.step (belowAlloc w (.cells #[.int .i64 k, .int .i64 R, .slice va vn vc] 24)) (belowAlloc _ (.cells #[.int .i64 0, .slice none 0 0, .slice none 0 0] 33))
  have qA : Box3 ((w.alloc (.cells #[.int .i64 k, .int .i64 R, .slice va vn vc] 24)).alloc (.cells #[.int .i64 0, .slice none 0 0, .slice none 0 0] 33)) w.heap.size (.int .i64 k) (.int .i64 R) (.slice va vn vc) := by simp [Box3, go_sem]
  have q4 : Box3 ((w.alloc (.cells #[.int .i64 k, .int .i64 R, .slice va vn vc] 24)).alloc (.cells #[.int .i64 0, .slice none 0 0, .slice none 0 0] 33)) (w.heap.size + 1) (.int .i64 0) (.slice none 0 0) (.slice none 0 0) := by simp [Box3, go_sem]
  have s0 : ((w.alloc (.cells #[.int .i64 k, .int .i64 R, .slice va vn vc] 24)).alloc (.cells #[.int .i64 0, .slice none 0 0, .slice none 0 0] 33)).heap.size = w.heap.size + 2 := by simp
  obtain ⟨WA, hWA⟩ : ∃ W : World, ((w.alloc (.cells #[.int .i64 k, .int .i64 R, .slice va vn vc] 24)).alloc (.cells #[.int .i64 0, .slice none 0 0, .slice none 0 0] 33)) = W := ⟨_, rfl⟩
  replace h := h.below bA
  rw [hWA] at h bA qA q4 s0
  replace h := Lib.hid h
  replace s0 := Lib.hid s0
  replace hWA := Lib.hid hWA
  have d1 : decide (n < 1) = true := decide_eq_true hn
  have hsm := Lib.hid hc
  clear hc
  have qA0 := qA
  obtain ⟨⟨z0, z1, z2⟩, -, -, -⟩ := qA0
  go_enter Tryz.func33, Tryz.ntmps33
  go_upto_region 1 with fail
  rw [hWA.out]
  go_wp2_with fail
  refine (ref08_fault _ k R va vn vc T WA h.out).mono ?_
  rintro e w1 ⟨_, rfl, b1, he⟩
  rw [hsm.out] at he
  obtain rfl := he
  obtain ⟨be, ⟨⟨y0, y1, y2⟩, -, -, -⟩⟩ := err_box8 w1 (.int .i64 0) (.slice none 0 0) (.slice none 0 0)
  have c1e := Below.step b1 be
  obtain ⟨W2, hW2'⟩ : ∃ W2 : World, w1.alloc (.cells #[.int .i64 0, .slice none 0 0, .slice none 0 0] 33) = W2 := ⟨_, rfl⟩
  rw [hW2'] at be c1e y0 y1 y2
  replace hW2' := Lib.hid hW2'
  clear z0 z1 z2
  go_upto_region 2 with fail
  rw [hW2'.out]
  go_wp2_with fail
  refine (err_bad _ _ _ _ _ _ _ W2).mono ?_
  rintro e W0 ⟨_, rfl, b3, rfl⟩
  rw [show ((0 : Int) != 0) = false from rfl]
  have cA := Below.step c1e b3
  have b0 := Below.step bA cA
  have q := qA.below cA
  have q4' := q4.below cA
  have sB := cA.size
  rw [s0.out] at sB
  replace h := Lib.hid (h.out.below cA)
  clear y0 y1 y2 qA q4
  have q0 := q
  obtain ⟨⟨z0, z1, z2⟩, -, -, -⟩ := q0
  go_wp2_with fail
  refine (raw_new _ 1 3 W0).mono ?_
  rintro e w9 ⟨z, rfl, b9, hy⟩
  obtain ⟨q9, a9, n9, c9, a8, n8, c8, rfl⟩ := hy.shape
  obtain ⟨⟨v0, v1, v2⟩, g0, g1, g2⟩ := q4'.below (Below.step (Below.refl W0.heap.size W0) b9)
  have sW := (Below.refl W0.heap.size W0).size
  have hy9 := (hy.set3 (b := w.heap.size + 1) (by omega) (.int .i64 q9) (.slice a9 n9 c9) (.slice a8 n8 c8)).mono (B' := w.heap.size) (by omega)
  replace hy := Lib.hid hy
  replace hy9 := Lib.hid hy9
  clear z0 z1 z2
  go_wp2
  (try simp only [Exit.inBlock, Exit.then])
  exact bodyPost_ret (v := .tuple #[.bool false, .slice none 0 0, .slice none 0 0, .agg #[.int .i64 q9, .slice a9 n9 c9, .slice a8 n8 c8]]) (by simp [results, Tryz.results33, go_sem, v0, v1, v2]) rfl ⟨_, _, _, _, rfl, below_set3 (Below.step (b0) b9) (by omega) _ _ _, rfl, rfl, rfl, hy9.out⟩

set_option maxHeartbeats 8000000 in
theorem ref14_rings_ok (K R N : Nat) (va : Option Addr) (vn vc : Nat) (T : List Int) (w : World) (h : IntsAt w (.slice va vn vc) T) (hr : RuleOk K R T) (hl : T.length ≤ 256) (hN : 1 ≤ N) (hNb : N ≤ 9223372036854775807) :
    Calls Tryz.prog 33 #[.agg #[.int .i64 K, .int .i64 R, .slice va vn vc], .int .i64 N] w (Ret4 (RRPost w.heap.size K R T N) w) := by
  have hk1 := hr.k1
  have hk4 := hr.k4
  have hR3 := hr.r3
  have hsm : smallP K R T = none := by rw [smallP_ok hr, if_neg (by omega)]
  have bA := Below.step (belowAlloc w (.cells #[.int .i64 K, .int .i64 R, .slice va vn vc] 24)) (belowAlloc _ (.cells #[.int .i64 0, .slice none 0 0, .slice none 0 0] 33))
  have qA : Box3 ((w.alloc (.cells #[.int .i64 K, .int .i64 R, .slice va vn vc] 24)).alloc (.cells #[.int .i64 0, .slice none 0 0, .slice none 0 0] 33)) w.heap.size (.int .i64 K) (.int .i64 R) (.slice va vn vc) := by simp [Box3, go_sem]
  have q4 : Box3 ((w.alloc (.cells #[.int .i64 K, .int .i64 R, .slice va vn vc] 24)).alloc (.cells #[.int .i64 0, .slice none 0 0, .slice none 0 0] 33)) (w.heap.size + 1) (.int .i64 0) (.slice none 0 0) (.slice none 0 0) := by simp [Box3, go_sem]
  have s0 : ((w.alloc (.cells #[.int .i64 K, .int .i64 R, .slice va vn vc] 24)).alloc (.cells #[.int .i64 0, .slice none 0 0, .slice none 0 0] 33)).heap.size = w.heap.size + 2 := by simp
  obtain ⟨WA, hWA⟩ : ∃ W : World, ((w.alloc (.cells #[.int .i64 K, .int .i64 R, .slice va vn vc] 24)).alloc (.cells #[.int .i64 0, .slice none 0 0, .slice none 0 0] 33)) = W := ⟨_, rfl⟩
  replace h := h.below bA
  rw [hWA] at h bA qA q4 s0
  replace h := Lib.hid h
  replace s0 := Lib.hid s0
  replace hWA := Lib.hid hWA
  have d1 : decide ((N : Int) < 1) = false := decide_eq_false (by omega)
  unfold RRPost
  replace hsm := Lib.hid hsm
  replace hr := Lib.hid hr
  have qA0 := qA
  obtain ⟨⟨z0, z1, z2⟩, -, -, -⟩ := qA0
  go_enter Tryz.func33, Tryz.ntmps33
  go_upto_region 1 with fail
  rw [hWA.out]
  go_wp2_with fail
  refine (ref08_fault _ K R va vn vc T WA h.out).mono ?_
  rintro e w1 ⟨_, rfl, b1, he⟩
  rw [hsm.out] at he
  obtain rfl := he
  obtain ⟨be, ⟨⟨y0, y1, y2⟩, -, -, -⟩⟩ := err_box8 w1 (.int .i64 0) (.slice none 0 0) (.slice none 0 0)
  have c1e := Below.step b1 be
  obtain ⟨W2, hW2'⟩ : ∃ W2 : World, w1.alloc (.cells #[.int .i64 0, .slice none 0 0, .slice none 0 0] 33) = W2 := ⟨_, rfl⟩
  rw [hW2'] at be c1e y0 y1 y2
  replace hW2' := Lib.hid hW2'
  clear z0 z1 z2
  go_upto_region 2 with fail
  rw [hW2'.out]
  go_wp2_with fail
  refine (err_bad _ _ _ _ _ _ _ W2).mono ?_
  rintro e W0 ⟨_, rfl, b3, rfl⟩
  rw [show ((0 : Int) != 0) = false from rfl]
  have cA := Below.step c1e b3
  have b0 := Below.step bA cA
  have q := qA.below cA
  have q4' := q4.below cA
  have sB := cA.size
  rw [s0.out] at sB
  replace h := Lib.hid (h.out.below cA)
  clear y0 y1 y2 qA q4
  have q0 := q
  obtain ⟨⟨z0, z1, z2⟩, -, -, -⟩ := q0
  by_cases hK1 : K = 1
  · have d2 : decide ((1 : Int) < (K : Int)) = false := decide_eq_false (by omega)
    have d3 : ((K : Int) == 1) = true := by rw [beq_iff_eq]; omega
    obtain ⟨m, hm⟩ : ∃ m : Nat, min (N : Int) 12 = (m : Int) := ⟨min N 12, by omega⟩
    have hm12 : m ≤ 12 := by omega
    have hp1 : pw K m = 1 := by rw [hK1]; exact Nat.one_pow m
    have d4 : decide ((4096 : Int) < 1) = false := by decide
    have hK1' := Lib.hid hK1
    clear hK1
    go_wp2_with fail
    (try rw [hm])
    refine (ref_power12 K m W0 hk1 hk4 hm12).mono ?_
    rintro e w2 ⟨rfl, rfl⟩
    rw [hp1]
    obtain ⟨⟨v0, v1, v2⟩, g0, g1, g2⟩ := q4'
    go_wp2
    (try simp only [Exit.inBlock, Exit.then])
    exact bodyPost_ret (v := .tuple #[.bool true, .slice none 0 0, .slice none 0 0, .agg #[.int .i64 0, .slice none 0 0, .slice none 0 0]]) (by simp [results, Tryz.results33, go_sem, v0, v1, v2]) rfl ⟨_, _, _, _, rfl, below_set3 b0 (by omega) _ _ _, .inr (.inl ⟨.inl hK1'.out, rfl, rfl, rfl, rfl, .inl hK1'.out⟩)⟩
  have hK2 : 2 ≤ K := by omega
  have d2 : decide ((1 : Int) < (K : Int)) = true := decide_eq_true (by omega)
  have d3 : ((K : Int) == 1) = false := by rw [beq_eq_false_iff_ne]; omega
  by_cases hN12 : 12 < N
  · have d5 : decide ((12 : Int) < (N : Int)) = true := decide_eq_true (by omega)
    have hbig : 4096 < pw K N := by
      apply Classical.byContradiction
      intro q
      have := pw_two hK2 (show pw K N ≤ 4096 by omega)
      omega
    replace hbig := Lib.hid hbig
    have hK2' := Lib.hid hK2
    go_wp2_with fail
    refine (raw_new _ 1 4 W0).mono ?_
    rintro e w9 ⟨z, rfl, b9, hy⟩
    obtain ⟨q9, a9, n9, c9, a8, n8, c8, rfl⟩ := hy.shape
    obtain ⟨⟨v0, v1, v2⟩, g0, g1, g2⟩ := q4'.below (Below.step (Below.refl W0.heap.size W0) b9)
    have sW := (Below.refl W0.heap.size W0).size
    have hy9 := (hy.set3 (b := w.heap.size + 1) (by omega) (.int .i64 q9) (.slice a9 n9 c9) (.slice a8 n8 c8)).mono (B' := w.heap.size) (by omega)
    replace hy := Lib.hid hy
    replace hy9 := Lib.hid hy9
    clear z0 z1 z2
    go_wp2
    (try simp only [Exit.inBlock, Exit.then])
    exact bodyPost_ret (v := .tuple #[.bool false, .slice none 0 0, .slice none 0 0, .agg #[.int .i64 q9, .slice a9 n9 c9, .slice a8 n8 c8]]) (by simp [results, Tryz.results33, go_sem, v0, v1, v2]) rfl ⟨_, _, _, _, rfl, below_set3 (Below.step (b0) b9) (by omega) _ _ _, .inl ⟨hK2'.out, hbig.out, rfl, rfl, rfl, hy9.out⟩⟩
  have d5 : decide ((12 : Int) < (N : Int)) = false := decide_eq_false (by omega)
  have hm : min (N : Int) 12 = (N : Int) := by omega
  obtain ⟨M, hM⟩ : ∃ M, pw K N = M := ⟨_, rfl⟩
  have call0 := ref_power12 K N W0 hk1 hk4 (by omega)
  have hMb : M ≤ 16777216 := by rw [← hM]; exact pw_big hk4 (by omega)
  rw [hM] at call0
  replace call0 := Lib.hid call0
  replace hM := Lib.hid hM
  by_cases hbig : 4096 < M
  · have d6 : decide ((4096 : Int) < (M : Int)) = true := decide_eq_true (by omega)
    have hbig2 : 4096 < pw K N := by rw [hM.out]; exact hbig
    replace hbig2 := Lib.hid hbig2
    have hK2' := Lib.hid hK2
    go_wp2_with fail
    (try rw [hm])
    refine call0.out.mono ?_
    rintro e w2 ⟨rfl, rfl⟩
    go_wp2_with fail
    refine (raw_new _ 1 4 W0).mono ?_
    rintro e w9 ⟨z, rfl, b9, hy⟩
    obtain ⟨q9, a9, n9, c9, a8, n8, c8, rfl⟩ := hy.shape
    obtain ⟨⟨v0, v1, v2⟩, g0, g1, g2⟩ := q4'.below (Below.step (Below.refl W0.heap.size W0) b9)
    have sW := (Below.refl W0.heap.size W0).size
    have hy9 := (hy.set3 (b := w.heap.size + 1) (by omega) (.int .i64 q9) (.slice a9 n9 c9) (.slice a8 n8 c8)).mono (B' := w.heap.size) (by omega)
    replace hy := Lib.hid hy
    replace hy9 := Lib.hid hy9
    clear z0 z1 z2
    go_wp2
    (try simp only [Exit.inBlock, Exit.then])
    exact bodyPost_ret (v := .tuple #[.bool false, .slice none 0 0, .slice none 0 0, .agg #[.int .i64 q9, .slice a9 n9 c9, .slice a8 n8 c8]]) (by simp [results, Tryz.results33, go_sem, v0, v1, v2]) rfl ⟨_, _, _, _, rfl, below_set3 (Below.step (b0) b9) (by omega) _ _ _, .inl ⟨hK2'.out, hbig2.out, rfl, rfl, rfl, hy9.out⟩⟩
  have d6 : decide ((4096 : Int) < (M : Int)) = false := decide_eq_false (by omega)
  have hM4 : M ≤ 4096 := by omega
  have hM1 : 0 < M := by rw [← hM.out]; exact pw_pos N hk1
  go_wp2_with fail
  (try rw [hm])
  refine call0.out.mono ?_
  rintro e w2 ⟨rfl, rfl⟩
  go_wp2_with fail
  refine call0.out.mono ?_
  rintro e w2 ⟨rfl, rfl⟩
  obtain ⟨fv, w1', mk, ho, b1'⟩ := run_makeI (M : Int) M W0 rfl (by omega)
  obtain ⟨fa, fn, fc, rfl⟩ := ho.at.shape
  have ho' : OwnI W0.heap.size w1' (.slice fa fn fc) (tabI M (fun y => (((fun _ => 0 : Nat → Nat) y : Nat) : Int))) := by
    have e : tabI M (fun y => (((fun _ => 0 : Nat → Nat) y : Nat) : Int)) = List.replicate M 0 := by unfold tabI; apply List.ext_getElem <;> simp
    rw [e]; exact ho
  have hsy : ∀ x, Syms K (imgN K R T N x) := fun x => ringI_syms hr.out (digs_syms hk1 N x) (by rw [digs_length]; exact hN)
  have hln : ∀ x, (imgN K R T N x).length = N := fun x => by unfold imgN; rw [ringI_len, digs_length]
  have hnl : ∀ x, numW K (imgN K R T N x) < M := fun x => by
    have := numW_lt _ (hsy x)
    rwa [hln, hM.out] at this
  have qh := Lib.hid q
  have q4h := Lib.hid q4'
  replace ho := Lib.hid ho
  replace ho' := Lib.hid ho'
  replace hsy := Lib.hid hsy
  replace hln := Lib.hid hln
  replace hnl := Lib.hid hnl
  replace call0 := Lib.hid call0
  go_wp2_with fail
  clear mk z0 z1 z2 q q4'
  go_loopw [11] (fun xv wr => ∃ (x : Nat) (D : Nat → Nat), x ≤ M ∧ xv = .int .i64 x ∧ OwnI W0.heap.size wr (.slice fa fn fc) (tabI M (fun y => ((D y : Nat) : Int))) ∧ (∀ y, 0 < D y → D y ≤ x ∧ numW K (imgN K R T N (D y - 1)) = y) ∧ (∀ z, z < x → D (numW K (imgN K R T N z)) = z + 1) ∧ NoRepeat (imgN K R T N) x ∧ Below W0.heap.size W0 wr) (fun xv _ => M - (intOf xv).toNat)
  case atStart => exact ⟨0, _, Nat.zero_le _, rfl, ho'.out, fun y hy => absurd hy (Nat.lt_irrefl 0), fun z hz => absurd hz (Nat.not_lt_zero _), fun a b ha hb => absurd hb (Nat.not_lt_zero _), b1'⟩
  case round =>
    clear ho' b1'
    obtain ⟨x, D, hx, rfl, hO, hD1, hD2, hnr, hB⟩ := hrel
    obtain ⟨wo, rfl⟩ : ∃ wo : World, wo = wr := ⟨_, rfl⟩
    obtain ⟨⟨z0, z1, z2⟩, -, -, -⟩ := qh.out.below hB
    replace hD1 := Lib.hid hD1
    replace hD2 := Lib.hid hD2
    replace hnr := Lib.hid hnr
    by_cases hxM : x < M
    · have dx : decide ((x : Int) < (M : Int)) = true := decide_eq_true (by omega)
      replace hO := Lib.hid hO
      go_wp2_with fail
      refine (ref_digits12 K N x wo hk1 hk4 (by omega) (by omega)).mono ?_
      rintro e w3 ⟨wv, rfl, b3', hwv⟩
      have c3 := Below.step hB b3'
      obtain ⟨W3, hW3⟩ : ∃ W : World, w3.drew = W := ⟨_, rfl⟩
      have bV : Below W0.heap.size W0 W3 := by rw [← hW3]; exact c3.drew
      have bV3 : Below wo.heap.size wo W3 := by rw [← hW3]; exact b3'.drew
      have hwV : OwnI wo.heap.size W3 wv (digs K N x) := by rw [← hW3]; exact hwv.drew
      have hTV := h.out.below bV
      obtain ⟨wva, wvn, wvc, rfl⟩ := hwV.at.shape
      have keep : ∀ W' : World, Below W3.heap.size W3 W' → W'.cell? ⟨w.heap.size, 0, none⟩ = some (.int .i64 K) ∧ W'.cell? ⟨w.heap.size, 1, none⟩ = some (.int .i64 R) ∧ W'.cell? ⟨w.heap.size, 2, none⟩ = some (.slice va vn vc) := fun W' hb => (qh.out.below (Below.step bV hb)).1
      have hS := keep W3 (Below.refl _ _)
      have hdl : (digs K N x).length = N := digs_length K N x
      have call1 := ref_ring K R va vn vc T _ (digs K N x) W3 hTV hr.out hwV.at (digs_syms hk1 N x) (by rw [hdl]; exact hN) (by rw [hdl]; omega)
      replace hW3 := Lib.hid hW3
      replace hwv := Lib.hid hwv
      replace hwV := Lib.hid hwV
      replace hTV := Lib.hid hTV
      replace keep := Lib.hid keep
      replace call1 := Lib.hid call1
      replace hdl := Lib.hid hdl
      clear z0 z1 z2
      go_upto_region 16 with fail
      refine wp_region_plan (fun w' => w'.cell? ⟨w.heap.size, 0, none⟩ = some (.int .i64 K) ∧ w'.cell? ⟨w.heap.size, 1, none⟩ = some (.int .i64 R) ∧ w'.cell? ⟨w.heap.size, 2, none⟩ = some (.slice va vn vc)) 6 [(0, true), (1, true), (2, true), (3, true), (4, false), (5, false)] (by kernel_rfl) (by kernel_rfl) ?_
      rw [hW3.out]
      refine headY (v := ?_) (some 58) rfl rfl (Or.inl ⟨by rfl, ?_⟩) hS ?_
      rotate_left
      · rintro W' ⟨s0, s1, s2⟩; go_simp; try with_reducible rfl
      simp only [Act.put, List.setIfInBounds_toArray, List.set_cons_zero, List.set_cons_succ]
      refine headY (v := ?_) (some 59) rfl rfl (Or.inl ⟨by rfl, ?_⟩) hS ?_
      rotate_left
      · rintro W' ⟨s0, s1, s2⟩; go_simp; try with_reducible rfl
      simp only [Act.put, List.setIfInBounds_toArray, List.set_cons_zero, List.set_cons_succ]
      refine headY (v := ?_) (some 60) rfl rfl (Or.inl ⟨by rfl, ?_⟩) hS ?_
      rotate_left
      · rintro W' ⟨s0, s1, s2⟩; go_simp; try with_reducible rfl
      simp only [Act.put, List.setIfInBounds_toArray, List.set_cons_zero, List.set_cons_succ]
      refine headY (v := ?_) (some 61) rfl rfl (Or.inl ⟨by rfl, ?_⟩) hS ?_
      rotate_left
      · rintro W' ⟨s0, s1, s2⟩; go_simp; try with_reducible rfl
      simp only [Act.put, List.setIfInBounds_toArray, List.set_cons_zero, List.set_cons_succ]
      refine headC rfl (fun KK hK => ?_)
      go_simp
      refine call1.out.mono ?_
      rintro e w4 ⟨yv, rfl, b4, hy⟩
      have hS4 := keep.out w4 b4
      obtain ⟨yva, yvn, yvc, rfl⟩ := hy.at.shape
      have hyI : IntsAt w4 (.slice yva yvn yvc) (imgN K R T N x) := hy.at
      replace hy := Lib.hid hy
      refine hK _ _ hS4 ?_
      clear hK KK hS
      have call2 := ref_value12 K _ (imgN K R T N x) w4 hk1 hk4 hyI (hsy.out x) (by rw [hln.out x]; omega)
      obtain ⟨y, hyn⟩ : ∃ y, numW K (imgN K R T N x) = y := ⟨_, rfl⟩
      rw [hyn] at call2
      have hyM : y < M := by rw [← hyn]; exact hnl.out x
      replace hyI := Lib.hid hyI
      replace call2 := Lib.hid call2
      refine headC rfl (fun KK hK => ?_)
      go_simp
      refine call2.out.mono ?_
      rintro e w' ⟨rfl, rfl⟩
      refine hK _ _ hS4 ?_
      clear hK KK
      refine head0 ?_
      simp only [List.drop_succ_cons, List.drop_zero]
      clear hS4
      have b34 : Below wo.heap.size wo w4 := Below.step bV3 b4
      have c4 : Below W0.heap.size W0 w4 := Below.step bV b4
      have hO4 := hO.out.below b34
      have iD := fun w' => hO4.at.idx y (by rw [tabI_len]; exact hyM) w'
      have cD := hO4.at.cellD y (by rw [tabI_len]; exact hyM)
      rw [tabI_get _ _ _ hyM] at cD
      have fD := hO4.frz y (by rw [tabI_len]; exact hyM)
      have kD := hO4.blkB y (by rw [tabI_len]; exact hyM)
      obtain ⟨d, hd⟩ : ∃ d, D y = d := ⟨_, rfl⟩
      rw [hd] at cD
      obtain ⟨da, hda⟩ : ∃ da, valAt (.slice fa fn fc) y = da := ⟨_, rfl⟩
      have hset := hO4.set y (by rw [tabI_len]; exact hyM) ((x : Int) + 1)
      rw [tabI_upd] at hset
      rw [hda] at iD cD fD kD hset
      have hwv4 := (hwV.out.below b4)
      replace hda := Lib.hid hda
      replace hyn := Lib.hid hyn
      replace hO4 := Lib.hid hO4
      replace hset := Lib.hid hset
      replace hwv4 := Lib.hid hwv4
      by_cases hd0 : 0 < d
      · have dd : decide ((0 : Int) < (d : Int)) = true := decide_eq_true (by omega)
        obtain ⟨g1, g2⟩ := hD1.out y (by rw [hd]; exact hd0)
        rw [hd] at g1 g2
        have hxx : imgN K R T N (d - 1) = imgN K R T N x := num_inj hk1 (hsy.out _) (hsy.out _) (by rw [hln.out, hln.out]) (by rw [g2, hyn.out])
        have hfi : FirstIs (imgN K R T N) M (d - 1) x := ⟨by omega, hxM, hxx, hnr.out⟩
        obtain ⟨p, hp⟩ : ∃ p, d - 1 = p := ⟨_, rfl⟩
        rw [hp] at hfi
        have hw1 : IntKind.i64.wrap ((d : Int) - 1) = (p : Int) := by rw [show (d : Int) - 1 = (p : Int) by omega]; exact wrapK (by omega) (by omega)
        obtain ⟨V, hV⟩ : ∃ V : World, w4.drew = V := ⟨_, rfl⟩
        have cV : Below W0.heap.size W0 V := by rw [← hV]; exact c4.drew
        have hSV : V.cell? ⟨w.heap.size, 0, none⟩ = some (.int .i64 K) ∧ V.cell? da = some (.int .i64 (d : Int)) := ⟨(qh.out.below cV).1.1, by rw [← hV]; exact cD⟩
        have hwvV : OwnI wo.heap.size V (.slice wva wvn wvc) (digs K N x) := by rw [← hV]; exact hwv4.out.drew
        have call3 := ref_digits12 K N p V hk1 hk4 (by omega) (by omega)
        replace hV := Lib.hid hV
        replace hd := Lib.hid hd
        replace hp := Lib.hid hp
        replace hfi := Lib.hid hfi
        replace hxx := Lib.hid hxx
        replace g2 := Lib.hid g2
        replace hwvV := Lib.hid hwvV
        replace call3 := Lib.hid call3
        go_wp2
        refine NoPanic.normal ?_
        go_upto_region 18 with fail
        refine wp_region_plan (fun w' => w'.cell? ⟨w.heap.size, 0, none⟩ = some (.int .i64 K) ∧ w'.cell? da = some (.int .i64 (d : Int))) 14 [(0, true), (1, true), (2, true), (3, true), (4, true), (5, true), (6, true), (7, true), (9, true), (10, true), (8, false), (11, true), (12, true), (13, true)] (by kernel_rfl) (by kernel_rfl) ?_
        rw [hV.out]
        clear cD fD
        refine headY (v := ?_) (some 69) rfl rfl (Or.inl ⟨by rfl, ?_⟩) hSV ?_
        rotate_left
        · rintro W' ⟨s0, s1⟩; go_simp; try with_reducible rfl
        simp only [Act.put, List.setIfInBounds_toArray, List.set_cons_zero, List.set_cons_succ]
        refine headY (v := ?_) (some 70) rfl rfl (Or.inl ⟨by rfl, ?_⟩) hSV ?_
        rotate_left
        · rintro W' ⟨s0, s1⟩; go_simp; try with_reducible rfl
        simp only [Act.put, List.setIfInBounds_toArray, List.set_cons_zero, List.set_cons_succ]
        refine headY (v := ?_) (some 71) rfl rfl (Or.inl ⟨by rfl, ?_⟩) hSV ?_
        rotate_left
        · rintro W' ⟨s0, s1⟩; go_simp; try with_reducible rfl
        simp only [Act.put, List.setIfInBounds_toArray, List.set_cons_zero, List.set_cons_succ]
        refine headY (v := ?_) (some 72) rfl rfl (Or.inl ⟨by rfl, ?_⟩) hSV ?_
        rotate_left
        · rintro W' ⟨s0, s1⟩; go_simp; try with_reducible rfl
        simp only [Act.put, List.setIfInBounds_toArray, List.set_cons_zero, List.set_cons_succ]
        refine headY (v := ?_) (some 73) rfl rfl (Or.inl ⟨by rfl, ?_⟩) hSV ?_
        rotate_left
        · rintro W' ⟨s0, s1⟩; go_simp; try with_reducible rfl
        simp only [Act.put, List.setIfInBounds_toArray, List.set_cons_zero, List.set_cons_succ]
        refine headY (v := ?_) (some 74) rfl rfl (Or.inl ⟨by rfl, ?_⟩) hSV ?_
        rotate_left
        · rintro W' ⟨s0, s1⟩; go_simp; try with_reducible rfl
        simp only [Act.put, List.setIfInBounds_toArray, List.set_cons_zero, List.set_cons_succ]
        refine headY (v := ?_) (some 75) rfl rfl (Or.inl ⟨by rfl, ?_⟩) hSV ?_
        rotate_left
        · rintro W' ⟨s0, s1⟩; go_simp; try with_reducible rfl
        simp only [Act.put, List.setIfInBounds_toArray, List.set_cons_zero, List.set_cons_succ]
        refine headY (v := ?_) (some 76) rfl rfl (Or.inl ⟨by rfl, ?_⟩) hSV ?_
        rotate_left
        · rintro W' ⟨s0, s1⟩; go_simp; try with_reducible rfl
        simp only [Act.put, List.setIfInBounds_toArray, List.set_cons_zero, List.set_cons_succ]
        refine headY (v := ?_) (some 78) rfl rfl (Or.inl ⟨by rfl, ?_⟩) hSV ?_
        rotate_left
        · rintro W' ⟨s0, s1⟩; go_simp; try with_reducible rfl
        simp only [Act.put, List.setIfInBounds_toArray, List.set_cons_zero, List.set_cons_succ]
        refine headY (v := ?_) (some 79) rfl rfl (Or.inl ⟨by rfl, ?_⟩) hSV ?_
        rotate_left
        · rintro W' ⟨s0, s1⟩; go_simp; try with_reducible rfl
        simp only [Act.put, List.setIfInBounds_toArray, List.set_cons_zero, List.set_cons_succ]
        refine headC rfl (fun KK hK => ?_)
        go_simp
        refine call3.out.mono ?_
        rintro e w5 ⟨pv, rfl, b5, hpv⟩
        have c5 := Below.step cV b5
        have hS5 : w5.cell? ⟨w.heap.size, 0, none⟩ = some (.int .i64 K) ∧ w5.cell? da = some (.int .i64 (d : Int)) := ⟨(qh.out.below c5).1.1, (b5.cell (World.block_lt_of_cell? _ _ hSV.2)).trans hSV.2⟩
        obtain ⟨pva, pvn, pvc, rfl⟩ := hpv.at.shape
        refine hK _ _ hS5 ?_
        clear hK KK hSV
        refine headY (v := ?_) (some 4) rfl rfl (Or.inl ⟨by rfl, ?_⟩) hS5 ?_
        rotate_left
        · rintro W' ⟨s0, s1⟩; go_simp; try with_reducible rfl
        simp only [Act.put, List.setIfInBounds_toArray, List.set_cons_zero, List.set_cons_succ]
        refine headY (v := ?_) (some 5) rfl rfl (Or.inl ⟨by rfl, ?_⟩) hS5 ?_
        rotate_left
        · rintro W' ⟨s0, s1⟩; go_simp; try with_reducible rfl
        simp only [Act.put, List.setIfInBounds_toArray, List.set_cons_zero, List.set_cons_succ]
        refine headY (v := ?_) (some 6) rfl rfl (Or.inl ⟨by rfl, ?_⟩) hS5 ?_
        rotate_left
        · rintro W' ⟨s0, s1⟩; go_simp; try with_reducible rfl
        simp only [Act.put, List.setIfInBounds_toArray, List.set_cons_zero, List.set_cons_succ]
        refine head0 ?_
        simp only [List.drop_succ_cons, List.drop_zero]
        clear hS5
        obtain ⟨⟨v0, v1, v2⟩, f0, f1, f2⟩ := q4h.out.below c5
        have sO := hB.size
        have sV := cV.size
        have r1 := ((hwvV.out.below b5).set3 (b := w.heap.size + 1) (by omega) (.int .i64 0) (.slice none 0 0) (.slice none 0 0)).at
        have r2 := (hpv.set3 (b := w.heap.size + 1) (by omega) (.int .i64 0) (.slice none 0 0) (.slice none 0 0)).at
        replace r1 := Lib.hid r1
        replace r2 := Lib.hid r2
        replace hpv := Lib.hid hpv
        go_wp2
        refine NoPanic.normal ?_
        go_wp2
        (try simp only [Exit.inBlock, Exit.then])
        exact bodyPost_ret (v := .tuple #[.bool false, .slice pva pvn pvc, .slice wva wvn wvc, .agg #[.int .i64 0, .slice none 0 0, .slice none 0 0]]) (by simp [results, Tryz.results33, go_sem, v0, v1, v2]) rfl ⟨_, _, _, _, rfl, below_set3 (Below.step b0 c5) (by omega) _ _ _, .inr (.inr ⟨by omega, by rw [hM.out]; exact hM4, rfl, rfl, p, x, by rw [hM.out]; exact hfi.out, r2.out, r1.out⟩)⟩
      · have dd : decide ((0 : Int) < (d : Int)) = false := decide_eq_false (by omega)
        have hno : ∀ z, z < x → imgN K R T N z ≠ imgN K R T N x := fun z hz e => by
          have := hD2.out z hz
          rw [e, hyn.out, hd] at this
          omega
        have hnr2 := hnr.out.succ hno
        have hfun : updN (fun y => ((D y : Nat) : Int)) y ((x : Int) + 1) = fun z => ((updN D y (x + 1) z : Nat) : Int) := by
          funext z; unfold updN; split <;> simp
        have hset2 := hset.out
        rw [hfun] at hset2
        have cE := c4.setCell kD (.int .i64 ((x : Int) + 1))
        have n1 : ∀ z, 0 < updN D y (x + 1) z → updN D y (x + 1) z ≤ x + 1 ∧ numW K (imgN K R T N (updN D y (x + 1) z - 1)) = z := fun z hz => by
          unfold updN at hz ⊢
          by_cases e : z = y
          · rw [if_pos e]; exact ⟨Nat.le_refl _, by rw [Nat.add_sub_cancel, hyn.out, e]⟩
          · rw [if_neg e] at hz ⊢
            obtain ⟨g1, g2⟩ := hD1.out z hz
            exact ⟨by omega, g2⟩
        have n2 : ∀ z, z < x + 1 → updN D y (x + 1) (numW K (imgN K R T N z)) = z + 1 := fun z hz => by
          unfold updN
          by_cases e : z = x
          · subst e; rw [if_pos hyn.out]
          · have hz2 : z < x := by omega
            rw [if_neg (fun q => hno z hz2 (num_inj hk1 (hsy.out _) (hsy.out _) (by rw [hln.out, hln.out]) (by rw [q, hyn.out])))]
            exact hD2.out z hz2
        replace n1 := Lib.hid n1
        replace n2 := Lib.hid n2
        replace hno := Lib.hid hno
        replace hnr2 := Lib.hid hnr2
        replace hfun := Lib.hid hfun
        replace hset2 := Lib.hid hset2
        replace hd := Lib.hid hd
        clear kD
        go_wp2
        refine NoPanic.normal ?_
        go_wp2
        go_roundw
        case measure => simp [intOf]; omega
        case rel => exact ⟨x + 1, _, by omega, by go_num, hset2.out, n1.out, n2.out, hnr2.out, cE⟩
    · have dx : decide ((x : Int) < (M : Int)) = false := decide_eq_false (by omega)
      obtain rfl : x = M := by omega
      obtain ⟨⟨v0, v1, v2⟩, f0, f1, f2⟩ := q4h.out.below hB
      replace hO := Lib.hid hO
      go_wp2
      (try simp only [Exit.inBlock, Exit.then])
      exact bodyPost_ret (v := .tuple #[.bool true, .slice none 0 0, .slice none 0 0, .agg #[.int .i64 0, .slice none 0 0, .slice none 0 0]]) (by simp [results, Tryz.results33, go_sem, v0, v1, v2]) rfl ⟨_, _, _, _, rfl, below_set3 (Below.step b0 hB) (by omega) _ _ _, .inr (.inl ⟨.inr (by rw [hM.out]; exact hM4), rfl, rfl, rfl, rfl, .inr (by rw [hM.out]; exact hnr.out)⟩)⟩
end Go.Proofs.YtilpckngghffoaaGreatDoor

namespace Go.Proofs.YtilpckngghffoaaGreatDoor
open Go.RowKit
set_option maxRecDepth 100000

end Go.Proofs.YtilpckngghffoaaGreatDoor

namespace Go.Proofs.YtilpckngghffoaaGreatDoor
open Go.RowKit
set_option maxRecDepth 100000

end Go.Proofs.YtilpckngghffoaaGreatDoor

namespace Go.Proofs.YtilpckngghffoaaGreatDoor
open Go.RowKit
set_option maxRecDepth 100000

/-- What an error's numbers look like in memory. -/
theorem eat_shape {w : World} {t : PErr} {v : Value} (h : EAt w t v) : ∃ (n : Int) (sa : Option Addr) (sn sc : Nat) (ja : Option Addr) (jn jc : Nat), v = .agg #[.int .i64 n, .slice sa sn sc, .slice ja jn jc] := by
  cases t with
  | none => exact ⟨0, none, 0, 0, none, 0, 0, h⟩
  | some q =>
    obtain ⟨n, l⟩ := q
    obtain ⟨a1, n1, c1, a2, n2, c2, rfl, _, _⟩ := h
    exact ⟨_, _, _, _, _, _, _, rfl⟩

end Go.Proofs.YtilpckngghffoaaGreatDoor

namespace Go.Proofs.YtilpckngghffoaaGreatDoor
open Go.RowKit
set_option maxRecDepth 100000

/-- Each cell as it is. -/
def iT : List Int := [0, 0, 1, 1, 0, 0, 1, 1]
theorem iT_ok : RuleOk 2 1 iT := ⟨by decide, by decide, by decide, by decide, fun x hx => by simp [iT] at hx; omega⟩
theorem iT_one : ¬ NotOne 2 1 iT := by
  intro h
  obtain ⟨x, y, sx, sy, lx, ly, hne, e⟩ := h 1
  match x, lx with
  | [a, b, c], _ =>
    match y, ly with
    | [a', b', c'], _ =>
      have h1 := sx a (by simp)
      have h2 := sx b (by simp)
      have h3 := sx c (by simp)
      have k1 := sy a' (by simp)
      have k2 := sy b' (by simp)
      have k3 := sy c' (by simp)
      have hb : ∀ a b c : Int, 0 ≤ a → a < 2 → 0 ≤ b → b < 2 → 0 ≤ c → c < 2 → imgP 2 1 iT [a, b, c] = [b] := fun a b c p1 p2 p3 p4 p5 p6 => by
        have ha : a = 0 ∨ a = 1 := by omega
        have hb : b = 0 ∨ b = 1 := by omega
        have hc : c = 0 ∨ c = 1 := by omega
        rcases ha with rfl | rfl <;> rcases hb with rfl | rfl <;> rcases hc with rfl | rfl <;> decide
      rw [hb a b c h1.1 h1.2 h2.1 h2.2 h3.1 h3.2, hb a' b' c' k1.1 k1.2 k2.1 k2.2 k3.1 k3.2] at e
      injection e with e _
      exact hne e
/-- The sum of both neighbours. -/
def nT : List Int := [0, 1, 0, 1, 1, 0, 1, 0]
theorem nT_ok : RuleOk 2 1 nT := ⟨by decide, by decide, by decide, by decide, fun x hx => by simp [nT] at hx; omega⟩
theorem img_same {z : Int} (hz : z = 0 ∨ z = 1) (n : Nat) : imgP 2 1 nT (List.replicate n z) = List.replicate (n - 2) 0 := by
  refine List.ext_getElem (by simp [imgP_length]) fun i h1 h2 => ?_
  simp only [imgP_length, List.length_replicate] at h1
  simp only [imgP, List.getElem_map, List.getElem_range, List.getElem_replicate, List.drop_replicate, List.take_replicate]
  rw [show min (2 * 1 + 1) (n - i) = 3 by omega]
  rcases hz with rfl | rfl <;> decide
theorem nT_not : NotOne 2 1 nT := fun n =>
  ⟨List.replicate (2 * n + 1) 0, List.replicate (2 * n + 1) 1, fun x hx => by rw [List.eq_of_mem_replicate hx]; decide, fun x hx => by rw [List.eq_of_mem_replicate hx]; decide, by simp, by simp,
    by simp [List.getD, show n < 2 * n + 1 by omega], by rw [img_same (.inl rfl), img_same (.inr rfl)]⟩

set_option maxHeartbeats 2000000 in
theorem awake14 (r : Nat → Addr) (w : World) (hg : Glob r w) : Calls Tryz.prog 17 #[] w (Ret1 (fun x _ => x = .bool true) w) := by
  have bl := belowAlloc w (.cells #[.int .i64 0, .int .i64 0, .int .i64 1, .int .i64 1, .int .i64 0, .int .i64 0, .int .i64 1, .int .i64 1] 3)
  have hlit := lit_ints w [0, 0, 1, 1, 0, 0, 1, 1] #[.int .i64 0, .int .i64 0, .int .i64 1, .int .i64 1, .int .i64 0, .int .i64 0, .int .i64 1, .int .i64 1] rfl (by decide)
  replace hlit := Lib.hid hlit
  replace hg := Lib.hid hg
  go_enter Tryz.func17, Tryz.ntmps17
  go_wp2_with fail
  refine (one_ok r 2 1 _ _ _ iT _ (hg.out.below bl) hlit.out iT_ok (by decide)).mono ?_
  rintro e w2 ⟨y, a, b, z, rfl, b2, hp⟩
  obtain ⟨rfl, Y, rfl, hY, a1, n1, c1, a2, n2, c2, a3, n3, c3, a4, n4, c4, a5, n5, c5, a6, n6, c6, rfl, rfl⟩ := hp.ans
  obtain rfl : Y = true := hY.2 iT_one
  clear hp hY
  have b02 := Below.step bl b2
  have c1' := Cells4.alloc w2 42 (.int .i64 0) (.slice a1 n1 c1) (.slice a2 n2 c2) (.slice a3 n3 c3)
  have b03 := Below.step b02 (Below.step (belowAlloc w2 (.cells #[.int .i64 0, .slice a1 n1 c1, .slice a2 n2 c2, .slice a3 n3 c3] 42)) (belowAlloc _ (.cells #[.int .i64 0, .slice a4 n4 c4, .slice a5 n5 c5, .slice a6 n6 c6] 42)))
  have bl2 := belowAlloc ((w2.alloc (.cells #[.int .i64 0, .slice a1 n1 c1, .slice a2 n2 c2, .slice a3 n3 c3] 42)).alloc (.cells #[.int .i64 0, .slice a4 n4 c4, .slice a5 n5 c5, .slice a6 n6 c6] 42)) (.cells #[.int .i64 0, .int .i64 1, .int .i64 0, .int .i64 1, .int .i64 1, .int .i64 0, .int .i64 1, .int .i64 0] 3)
  have hlit2 := lit_ints ((w2.alloc (.cells #[.int .i64 0, .slice a1 n1 c1, .slice a2 n2 c2, .slice a3 n3 c3] 42)).alloc (.cells #[.int .i64 0, .slice a4 n4 c4, .slice a5 n5 c5, .slice a6 n6 c6] 42)) [0, 1, 0, 1, 1, 0, 1, 0] #[.int .i64 0, .int .i64 1, .int .i64 0, .int .i64 1, .int .i64 1, .int .i64 0, .int .i64 1, .int .i64 0] rfl (by decide)
  have b04 := Below.step b03 bl2
  replace hlit2 := Lib.hid hlit2
  clear c1'
  go_wp2_with fail
  have hone := fun (s : Nat) (hs : s = ((w2.alloc (.cells #[.int .i64 0, .slice a1 n1 c1, .slice a2 n2 c2, .slice a3 n3 c3] 42)).alloc (.cells #[.int .i64 0, .slice a4 n4 c4, .slice a5 n5 c5, .slice a6 n6 c6] 42)).heap.size) => one_ok r 2 1 (some ⟨s, 0, none⟩) 8 8 nT _ (hg.out.below b04) (by subst hs; exact hlit2.out) nT_ok (by decide)
  refine (hone _ (by simp)).mono ?_
  rintro e w5 ⟨y, a, b, z, rfl, b5, hp⟩
  obtain ⟨rfl, ⟨_, _, _, hn⟩ | ⟨rfl, _, L, C, Q, aL, aC, aQ, bL, bC, bQ, hoi, rfl, rfl, f, hr, k1, k2, k3, k4, k5, k6⟩⟩ := hp
  · exact absurd nT_not hn
  obtain ⟨p1, p2⟩ := hoi.pos
  have l1 := (hr.ownI k1).at.len
  have l6 := (hr.ownI k6).at.len
  rw [sideA_len] at l1
  rw [sideB_len] at l6
  obtain ⟨d1, m1, s1, rfl⟩ := (hr.ownI k1).at.shape
  obtain ⟨d2, m2, s2, rfl⟩ := (hr.ownI k2).at.shape
  obtain ⟨d3, m3, s3, rfl⟩ := (hr.ownI k3).at.shape
  obtain ⟨d4, m4, s4, rfl⟩ := (hr.ownI k4).at.shape
  obtain ⟨d5, m5, s5, rfl⟩ := (hr.ownI k5).at.shape
  obtain ⟨d6, m6, s6, rfl⟩ := (hr.ownI k6).at.shape
  have e1 : decide ((0 : Int) < (L.length : Int)) = true := by simp; omega
  have e6 : decide ((0 : Int) < (Q.length : Int)) = true := by simp; omega
  have b06 := Below.step b04 (Below.step b5 (Below.step (belowAlloc w5 (.cells #[.int .i64 0, .slice d1 m1 s1, .slice d3 m3 s3, .slice d5 m5 s5] 42)) (belowAlloc _ (.cells #[.int .i64 0, .slice d2 m2 s2, .slice d4 m4 s4, .slice d6 m6 s6] 42))))
  replace hoi := Lib.hid hoi
  clear hr k1 k2 k3 k4 k5 k6 hone
  go_wp2
  go_ret
  exact ⟨_, rfl, b06, congrArg Value.bool (decide_eq_true (by omega))⟩
end Go.Proofs.YtilpckngghffoaaGreatDoor

namespace Go.Proofs.YtilpckngghffoaaGreatDoor
open Go.RowKit
set_option maxRecDepth 100000

theorem under1_fine {k R : Int} {T : List Int} {t : Int × List (ByteArray × Int)} (hc : smallP k R T = some t) : (under sInject 0 (some t)).Fine := by
  obtain ⟨n, l⟩ := t
  have := smallP_num hc
  refine ⟨this.1, this.2.1, ?_⟩
  show ((sInject, (0 : Int)) :: l).length ≤ 1000
  simp only [List.length_cons]
  omega
theorem first_ne {K R n a b : Nat} {T : List Int} (hK : 1 ≤ K) (h : FirstIs (imgN K R T n) (pw K n) a b) : digs K n a ≠ digs K n b := fun e => by
  obtain ⟨h1, h2, _, _⟩ := h
  have := congrArg (numW K) e
  rw [numW_digs hK n a (by omega), numW_digs hK n b h2] at this
  omega

set_option maxHeartbeats 8000000 in
theorem ir_bad (r : Nat → Addr) (k R n : Int) (va : Option Addr) (vn vc : Nat) (T : List Int) (t : Int × List (ByteArray × Int)) (w : World) (hg : Glob r w) (hG : GlobE w) (h : IntsAt w (.slice va vn vc) T) (hc : smallP k R T = some t) :
    Calls Tryz.prog 7 #[.agg #[.int .i64 k, .int .i64 R, .slice va vn vc], .int .i64 n] w (Ret1 (fun x _ => x = .bool true) w) := by
  have b0 := belowAlloc w (.cells #[.int .i64 k, .int .i64 R, .slice va vn vc] 24)
  have q : Box3 (w.alloc (.cells #[.int .i64 k, .int .i64 R, .slice va vn vc] 24)) w.heap.size (.int .i64 k) (.int .i64 R) (.slice va vn vc) := by simp [Box3, go_sem]
  obtain ⟨w0, hw0⟩ : ∃ W : World, w.alloc (.cells #[.int .i64 k, .int .i64 R, .slice va vn vc] 24) = W := ⟨_, rfl⟩
  rw [hw0] at b0 q
  replace hg := Lib.hid (hg.below b0)
  replace hG := Lib.hid (hG.below b0)
  replace h := Lib.hid (h.below b0)
  replace hw0 := Lib.hid hw0
  go_enter Tryz.func7, Tryz.ntmps7
  go_upto_region 1 with fail
  rw [hw0.out]
  go_wp2_with fail
  refine (awake14 r _ hg.out).mono ?_
  rintro e w1 ⟨_, rfl, b1, rfl⟩
  obtain ⟨⟨z0, z1, z2⟩, -, -, -⟩ := q.below b1
  go_wp2_with fail
  refine (rings_bad r k R n va vn vc T t w1 (hg.out.below b1) (h.out.below b1) hc).mono ?_
  rintro e w3 ⟨_, _, _, ex, rfl, b3, rfl, rfl, rfl, hex⟩
  obtain ⟨ET, ea, rfl⟩ := ErrIs.some_shape (t := (t.1, (sInject, 0) :: t.2)) hex
  have c3 := Below.step b1 b3
  replace hex := Lib.hid hex
  clear z0 z1 z2
  obtain ⟨⟨z0, z1, z2⟩, -, -, -⟩ := q.below c3
  go_wp2_with fail
  refine (ref14_rings_bad k R n va vn vc T t w3 (h.out.below c3) hc).mono ?_
  rintro e w4 ⟨_, _, _, ey, rfl, b4, rfl, rfl, rfl, hey⟩
  replace hey := hey.at
  obtain ⟨n7, s7a, s7n, s7c, j7a, j7n, j7c, rfl⟩ := eat_shape hey
  obtain ⟨be, q7⟩ := err_box8 w4 (.int .i64 n7) (.slice s7a s7n s7c) (.slice j7a j7n j7c)
  replace hey := hey.below be
  have b4a := Below.step b4 be
  obtain ⟨w5, hw5⟩ : ∃ W : World, w4.alloc (.cells #[.int .i64 n7, .slice s7a s7n s7c, .slice j7a j7n j7c] 33) = W := ⟨_, rfl⟩
  obtain ⟨g7, hg7⟩ : ∃ g, w4.heap.size = g := ⟨_, rfl⟩
  rw [hw5] at be q7 hey b4a
  rw [hg7] at q7
  have c5 := Below.step c3 b4a
  have hex5 := Lib.hid (hex.out.below b4a)
  have hn0 : IntsAt w5 (.slice none 0 0) [] := (OwnI.nil 0 w5).at
  have nn : ∀ w', (Builtin.len_ #[22] 3 #[.slice none 0 0]).run Tryz.prog w' = .ok (.int .i64 0) w' := hn0.len
  replace hw5 := Lib.hid hw5
  replace hg7 := Lib.hid hg7
  replace hey := Lib.hid hey
  clear z0 z1 z2 be
  have q70 := q7
  obtain ⟨⟨x0, x1, x2⟩, -, -, -⟩ := q70
  go_upto_region 5 with fail
  rw [hw5.out, hg7.out]
  go_wp2_with fail
  refine (ints_any _ _ [] [] w5 hn0 hn0).mono ?_
  rintro e w6 h6
  obtain ⟨rfl, b6⟩ := h6.below
  clear h6
  rw [show decide (([] : List Int) = []) = true from rfl]
  have hn6 := hn0.below b6
  go_wp2_with fail
  refine (ints_any _ _ [] [] w6 hn6 hn6).mono ?_
  rintro e w7 h7
  obtain ⟨rfl, b7⟩ := h7.below
  clear h7
  rw [show decide (([] : List Int) = []) = true from rfl]
  have b57 := Below.step b6 b7
  have c7 := Below.step c5 b57
  clear x0 x1 x2
  obtain ⟨⟨x0, x1, x2⟩, -, -, -⟩ := q7.below b57
  go_wp2_with fail
  refine (raw_is r (under sInject 0 (some t)) _ _ w7 (hg.out.below c7) (hG.out.below c7) (hex5.out.below b57) (hey.out.below b57) (under1_fine hc)).mono ?_
  rintro e w8 ⟨_, rfl, b8, rfl⟩
  have bE := Below.step b0 (Below.step c7 b8)
  go_wp2
  go_ret
  exact ⟨_, rfl, bE, rfl⟩

set_option maxHeartbeats 8000000 in
theorem ir_low (r : Nat → Addr) (k R n : Int) (va : Option Addr) (vn vc : Nat) (T : List Int) (w : World) (hg : Glob r w) (hG : GlobE w) (h : IntsAt w (.slice va vn vc) T) (hc : smallP k R T = none) (hn : n < 1) :
    Calls Tryz.prog 7 #[.agg #[.int .i64 k, .int .i64 R, .slice va vn vc], .int .i64 n] w (Ret1 (fun x _ => x = .bool true) w) := by
  have b0 := belowAlloc w (.cells #[.int .i64 k, .int .i64 R, .slice va vn vc] 24)
  have q : Box3 (w.alloc (.cells #[.int .i64 k, .int .i64 R, .slice va vn vc] 24)) w.heap.size (.int .i64 k) (.int .i64 R) (.slice va vn vc) := by simp [Box3, go_sem]
  obtain ⟨w0, hw0⟩ : ∃ W : World, w.alloc (.cells #[.int .i64 k, .int .i64 R, .slice va vn vc] 24) = W := ⟨_, rfl⟩
  rw [hw0] at b0 q
  replace hg := Lib.hid (hg.below b0)
  replace hG := Lib.hid (hG.below b0)
  replace h := Lib.hid (h.below b0)
  replace hw0 := Lib.hid hw0
  go_enter Tryz.func7, Tryz.ntmps7
  go_upto_region 1 with fail
  rw [hw0.out]
  go_wp2_with fail
  refine (awake14 r _ hg.out).mono ?_
  rintro e w1 ⟨_, rfl, b1, rfl⟩
  obtain ⟨⟨z0, z1, z2⟩, -, -, -⟩ := q.below b1
  go_wp2_with fail
  refine (rings_low r k R n va vn vc T w1 (hg.out.below b1) (h.out.below b1) hc hn).mono ?_
  rintro e w3 ⟨_, _, _, ex, rfl, b3, rfl, rfl, rfl, hex⟩
  obtain ⟨ET, ea, rfl⟩ := ErrIs.some_shape (t := (3, [(sInject, 1)])) hex
  have c3 := Below.step b1 b3
  replace hex := Lib.hid hex
  clear z0 z1 z2
  obtain ⟨⟨z0, z1, z2⟩, -, -, -⟩ := q.below c3
  go_wp2_with fail
  refine (ref14_rings_low k R n va vn vc T w3 (h.out.below c3) hc hn).mono ?_
  rintro e w4 ⟨_, _, _, ey, rfl, b4, rfl, rfl, rfl, hey⟩
  replace hey := hey.at
  obtain ⟨n7, s7a, s7n, s7c, j7a, j7n, j7c, rfl⟩ := eat_shape hey
  obtain ⟨be, q7⟩ := err_box8 w4 (.int .i64 n7) (.slice s7a s7n s7c) (.slice j7a j7n j7c)
  replace hey := hey.below be
  have b4a := Below.step b4 be
  obtain ⟨w5, hw5⟩ : ∃ W : World, w4.alloc (.cells #[.int .i64 n7, .slice s7a s7n s7c, .slice j7a j7n j7c] 33) = W := ⟨_, rfl⟩
  obtain ⟨g7, hg7⟩ : ∃ g, w4.heap.size = g := ⟨_, rfl⟩
  rw [hw5] at be q7 hey b4a
  rw [hg7] at q7
  have c5 := Below.step c3 b4a
  have hex5 := Lib.hid (hex.out.below b4a)
  have hn0 : IntsAt w5 (.slice none 0 0) [] := (OwnI.nil 0 w5).at
  have nn : ∀ w', (Builtin.len_ #[22] 3 #[.slice none 0 0]).run Tryz.prog w' = .ok (.int .i64 0) w' := hn0.len
  replace hw5 := Lib.hid hw5
  replace hg7 := Lib.hid hg7
  replace hey := Lib.hid hey
  clear z0 z1 z2 be
  have q70 := q7
  obtain ⟨⟨x0, x1, x2⟩, -, -, -⟩ := q70
  go_upto_region 5 with fail
  rw [hw5.out, hg7.out]
  go_wp2_with fail
  refine (ints_any _ _ [] [] w5 hn0 hn0).mono ?_
  rintro e w6 h6
  obtain ⟨rfl, b6⟩ := h6.below
  clear h6
  rw [show decide (([] : List Int) = []) = true from rfl]
  have hn6 := hn0.below b6
  go_wp2_with fail
  refine (ints_any _ _ [] [] w6 hn6 hn6).mono ?_
  rintro e w7 h7
  obtain ⟨rfl, b7⟩ := h7.below
  clear h7
  rw [show decide (([] : List Int) = []) = true from rfl]
  have b57 := Below.step b6 b7
  have c7 := Below.step c5 b57
  clear x0 x1 x2
  obtain ⟨⟨x0, x1, x2⟩, -, -, -⟩ := q7.below b57
  go_wp2_with fail
  refine (raw_is r (fresh sInject 1 3) _ _ w7 (hg.out.below c7) (hG.out.below c7) (hex5.out.below b57) (hey.out.below b57) ⟨by decide, by decide, by decide⟩).mono ?_
  rintro e w8 ⟨_, rfl, b8, rfl⟩
  have bE := Below.step b0 (Below.step c7 b8)
  go_wp2
  go_ret
  exact ⟨_, rfl, bE, rfl⟩

set_option maxHeartbeats 8000000 in
theorem ir_ok (r : Nat → Addr) (K R N : Nat) (va : Option Addr) (vn vc : Nat) (T : List Int) (w : World) (hg : Glob r w) (hG : GlobE w) (h : IntsAt w (.slice va vn vc) T) (hr : RuleOk K R T) (hl : T.length ≤ 256) (hN : 1 ≤ N) (hNb : N ≤ 9223372036854775807) :
    Calls Tryz.prog 7 #[.agg #[.int .i64 K, .int .i64 R, .slice va vn vc], .int .i64 N] w (Ret1 (fun x _ => x = .bool true) w) := by
  have b0 := belowAlloc w (.cells #[.int .i64 K, .int .i64 R, .slice va vn vc] 24)
  have q : Box3 (w.alloc (.cells #[.int .i64 K, .int .i64 R, .slice va vn vc] 24)) w.heap.size (.int .i64 K) (.int .i64 R) (.slice va vn vc) := by simp [Box3, go_sem]
  obtain ⟨w0, hw0⟩ : ∃ W : World, w.alloc (.cells #[.int .i64 K, .int .i64 R, .slice va vn vc] 24) = W := ⟨_, rfl⟩
  rw [hw0] at b0 q
  replace hg := Lib.hid (hg.below b0)
  replace hG := Lib.hid (hG.below b0)
  replace h := Lib.hid (h.below b0)
  replace hw0 := Lib.hid hw0
  go_enter Tryz.func7, Tryz.ntmps7
  go_upto_region 1 with fail
  rw [hw0.out]
  go_wp2_with fail
  refine (awake14 r _ hg.out).mono ?_
  rintro e w1 ⟨_, rfl, b1, rfl⟩
  obtain ⟨⟨z0, z1, z2⟩, -, -, -⟩ := q.below b1
  replace hr := Lib.hid hr
  go_wp2_with fail
  refine (rings_ok r K R N va vn vc T w1 (hg.out.below b1) (h.out.below b1) hr.out hl hN hNb).mono ?_
  rintro e w3 ⟨x1, x2, x3, ex, rfl, b3, hp⟩
  unfold RPost at hp
  have c3 := Below.step b1 b3
  clear z0 z1 z2
  obtain ⟨⟨z0, z1, z2⟩, -, -, -⟩ := q.below c3
  rcases hp with ⟨hk, hb, rfl, rfl, rfl, hex⟩ | ⟨hk, rfl, rfl, rfl, rfl, hnr⟩ | ⟨hk, hb, rfl, rfl, a, b, hf, hoa, hob, -⟩
  · obtain ⟨ET, ea, rfl⟩ := ErrIs.some_shape (t := (4, [(sInject, 1)])) hex
    replace hex := Lib.hid hex
    replace hb := Lib.hid hb
    go_wp2_with fail
    refine (ref14_rings_ok K R N va vn vc T w3 (h.out.below c3) hr.out hl hN hNb).mono ?_
    rintro e w4 ⟨y1, y2, y3, ey, rfl, b4, hp2⟩
    unfold RRPost at hp2
    have hp3 : y1 = .bool false ∧ y2 = .slice none 0 0 ∧ y3 = .slice none 0 0 ∧ EOwn w3.heap.size w4 (fresh sInject 1 4) ey := by
      have hb' := hb.out
      rcases hp2 with ⟨_, _, h1, h2, h3, h4⟩ | ⟨h1, _⟩ | ⟨_, h1, _⟩
      · exact ⟨h1, h2, h3, h4⟩
      · rcases h1 with h1 | h1 <;> omega
      · omega
    obtain ⟨rfl, rfl, rfl, hey⟩ := hp3
    clear hp2
    replace hey := hey.at
    obtain ⟨n7, s7a, s7n, s7c, j7a, j7n, j7c, rfl⟩ := eat_shape hey
    obtain ⟨be, q7⟩ := err_box8 w4 (.int .i64 n7) (.slice s7a s7n s7c) (.slice j7a j7n j7c)
    replace hey := hey.below be
    have b4a := Below.step b4 be
    obtain ⟨w5, hw5⟩ : ∃ W : World, w4.alloc (.cells #[.int .i64 n7, .slice s7a s7n s7c, .slice j7a j7n j7c] 33) = W := ⟨_, rfl⟩
    obtain ⟨g7, hg7⟩ : ∃ g, w4.heap.size = g := ⟨_, rfl⟩
    rw [hw5] at be q7 hey b4a
    rw [hg7] at q7
    have c5 := Below.step c3 b4a
    replace hw5 := Lib.hid hw5
    replace hg7 := Lib.hid hg7
    replace hey := Lib.hid hey
    clear z0 z1 z2
    have q70 := q7
    obtain ⟨⟨x0, x1, x2⟩, -, -, -⟩ := q70
    have hex5 := Lib.hid (hex.out.below b4a)
    have hn0 : IntsAt w5 (.slice none 0 0) [] := (OwnI.nil 0 w5).at
    have nn : ∀ w', (Builtin.len_ #[22] 3 #[.slice none 0 0]).run Tryz.prog w' = .ok (.int .i64 0) w' := hn0.len
    replace hn0 := Lib.hid hn0
    go_upto_region 5 with fail
    rw [hw5.out, hg7.out]
    go_wp2_with fail
    refine (ints_any _ _ _ _ w5 hn0.out hn0.out).mono ?_
    rintro e w6 h6
    obtain ⟨rfl, b6⟩ := h6.below
    clear h6
    rw [show decide (([] : List Int) = ([] : List Int)) = true from decide_eq_true rfl]
    go_wp2_with fail
    refine (ints_any _ _ _ _ w6 (hn0.out.below b6) (hn0.out.below b6)).mono ?_
    rintro e w7 h7
    obtain ⟨rfl, b7⟩ := h7.below
    clear h7
    rw [show decide (([] : List Int) = ([] : List Int)) = true from decide_eq_true rfl]
    have b57 := Below.step b6 b7
    have c7 := Below.step c5 b57
    clear x0 x1 x2
    obtain ⟨⟨x0, x1, x2⟩, -, -, -⟩ := q7.below b57
    go_wp2_with fail
    refine (raw_is r (fresh sInject 1 4) (.iface ET (.pointer (some ea))) _ w7 (hg.out.below c7) (hG.out.below c7) (hex5.out.below b57) (hey.out.below b57) ⟨by decide, by decide, by decide⟩).mono ?_
    rintro e w8 ⟨_, rfl, b8, rfl⟩
    have bE := Below.step b0 (Below.step c7 b8)
    go_wp2
    go_ret
    exact ⟨_, rfl, bE, rfl⟩
  · replace hk := Lib.hid hk
    replace hnr := Lib.hid hnr
    go_wp2_with fail
    refine (ref14_rings_ok K R N va vn vc T w3 (h.out.below c3) hr.out hl hN hNb).mono ?_
    rintro e w4 ⟨y1, y2, y3, ey, rfl, b4, hp2⟩
    unfold RRPost at hp2
    have hp3 : y1 = .bool true ∧ y2 = .slice none 0 0 ∧ y3 = .slice none 0 0 ∧ ey = .agg #[.int .i64 0, .slice none 0 0, .slice none 0 0] := by
      have hk' := hk.out
      rcases hp2 with ⟨g1, g2, _⟩ | ⟨_, h1, h2, h3, h4, _⟩ | ⟨g1, _, _, _, a, b, hf, _⟩
      · rcases hk' with h1 | h1 <;> omega
      · exact ⟨h2, h3, h4, h1⟩
      · rcases hnr.out with h1 | h1
        · omega
        · exact absurd h1 hf.not
    obtain ⟨rfl, rfl, rfl, rfl⟩ := hp3
    clear hp2
    have hey : EAt w4 none (.agg #[.int .i64 0, .slice none 0 0, .slice none 0 0]) := rfl
    obtain ⟨be, q7⟩ := err_box8 w4 (.int .i64 0) (.slice none 0 0) (.slice none 0 0)
    replace hey := hey.below be
    have b4a := Below.step b4 be
    obtain ⟨w5, hw5⟩ : ∃ W : World, w4.alloc (.cells #[.int .i64 0, .slice none 0 0, .slice none 0 0] 33) = W := ⟨_, rfl⟩
    obtain ⟨g7, hg7⟩ : ∃ g, w4.heap.size = g := ⟨_, rfl⟩
    rw [hw5] at be q7 hey b4a
    rw [hg7] at q7
    have c5 := Below.step c3 b4a
    replace hw5 := Lib.hid hw5
    replace hg7 := Lib.hid hg7
    replace hey := Lib.hid hey
    clear z0 z1 z2
    have q70 := q7
    obtain ⟨⟨x0, x1, x2⟩, -, -, -⟩ := q70
    have hex5 : ErrIs r w5 none .nilIface := rfl
    replace hex5 := Lib.hid hex5
    have hn0 : IntsAt w5 (.slice none 0 0) [] := (OwnI.nil 0 w5).at
    have nn : ∀ w', (Builtin.len_ #[22] 3 #[.slice none 0 0]).run Tryz.prog w' = .ok (.int .i64 0) w' := hn0.len
    replace hn0 := Lib.hid hn0
    go_upto_region 5 with fail
    rw [hw5.out, hg7.out]
    go_wp2_with fail
    refine (ints_any _ _ _ _ w5 hn0.out hn0.out).mono ?_
    rintro e w6 h6
    obtain ⟨rfl, b6⟩ := h6.below
    clear h6
    rw [show decide (([] : List Int) = ([] : List Int)) = true from decide_eq_true rfl]
    go_wp2_with fail
    refine (ints_any _ _ _ _ w6 (hn0.out.below b6) (hn0.out.below b6)).mono ?_
    rintro e w7 h7
    obtain ⟨rfl, b7⟩ := h7.below
    clear h7
    rw [show decide (([] : List Int) = ([] : List Int)) = true from decide_eq_true rfl]
    have b57 := Below.step b6 b7
    have c7 := Below.step c5 b57
    clear x0 x1 x2
    obtain ⟨⟨x0, x1, x2⟩, -, -, -⟩ := q7.below b57
    go_wp2_with fail
    refine (raw_is r none .nilIface _ w7 (hg.out.below c7) (hG.out.below c7) (hex5.out.below b57) (hey.out.below b57) trivial).mono ?_
    rintro e w8 ⟨_, rfl, b8, rfl⟩
    have bE := Below.step b0 (Below.step c7 b8)
    go_wp2
    go_ret
    exact ⟨_, rfl, bE, rfl⟩
  · obtain ⟨xa, xn, xc, rfl⟩ := hoa.at.shape
    obtain ⟨ya, yn, yc, rfl⟩ := hob.at.shape
    have hne := first_ne (T := T) hr.out.k1 hf
    replace hb := Lib.hid hb
    replace hf := Lib.hid hf
    replace hoa := Lib.hid hoa
    replace hob := Lib.hid hob
    replace hne := Lib.hid hne
    go_wp2_with fail
    refine (ref14_rings_ok K R N va vn vc T w3 (h.out.below c3) hr.out hl hN hNb).mono ?_
    rintro e w4 ⟨y1, y2, y3, ey, rfl, b4, hp2⟩
    unfold RRPost at hp2
    have hp3 : y1 = .bool false ∧ ey = .agg #[.int .i64 0, .slice none 0 0, .slice none 0 0] ∧ IntsAt w4 y2 (digs K N a) ∧ IntsAt w4 y3 (digs K N b) := by
      have hb' := hb.out
      rcases hp2 with ⟨g1, g2, _⟩ | ⟨_, h1, h2, h3, h4, h5⟩ | ⟨g1, _, h1, h2, a', b', hf', h3, h4⟩
      · omega
      · rcases h5 with h5 | h5
        · omega
        · exact absurd h5 hf.out.not
      · obtain ⟨rfl, rfl⟩ := hf.out.unique hf'
        exact ⟨h2, h1, h3, h4⟩
    obtain ⟨rfl, rfl, i2, i3⟩ := hp3
    clear hp2
    obtain ⟨y2a, y2n, y2c, rfl⟩ := i2.shape
    obtain ⟨y3a, y3n, y3c, rfl⟩ := i3.shape
    have hey : EAt w4 none (.agg #[.int .i64 0, .slice none 0 0, .slice none 0 0]) := rfl
    obtain ⟨be, q7⟩ := err_box8 w4 (.int .i64 0) (.slice none 0 0) (.slice none 0 0)
    replace hey := hey.below be
    have b4a := Below.step b4 be
    obtain ⟨w5, hw5⟩ : ∃ W : World, w4.alloc (.cells #[.int .i64 0, .slice none 0 0, .slice none 0 0] 33) = W := ⟨_, rfl⟩
    obtain ⟨g7, hg7⟩ : ∃ g, w4.heap.size = g := ⟨_, rfl⟩
    rw [hw5] at be q7 hey b4a
    rw [hg7] at q7
    have c5 := Below.step c3 b4a
    replace hw5 := Lib.hid hw5
    replace hg7 := Lib.hid hg7
    replace hey := Lib.hid hey
    clear z0 z1 z2
    have q70 := q7
    obtain ⟨⟨x0, x1, x2⟩, -, -, -⟩ := q70
    have hex5 : ErrIs r w5 none .nilIface := rfl
    replace hex5 := Lib.hid hex5
    have ia5 := hoa.out.at.below b4a
    have ib5 := hob.out.at.below b4a
    have i25 := i2.below be
    have i35 := i3.below be
    have hc := hr.out
    replace ia5 := Lib.hid ia5
    replace ib5 := Lib.hid ib5
    replace i25 := Lib.hid i25
    replace i35 := Lib.hid i35
    replace i2 := Lib.hid i2
    replace i3 := Lib.hid i3
    obtain ⟨⟨z0, z1, z2⟩, -, -, -⟩ := q.below c5
    clear z0 z1 z2
    have hnot : NotOne K R T := ring_notOne (digs_syms hc.k1 N a) (digs_syms hc.k1 N b) (by rw [digs_length, digs_length]) (by rw [digs_length]; exact hN) hne.out hf.out.2.2.1
    have hN12 := pw_two (show 2 ≤ K by omega) hb.out
    have himg : ringI K R T (digs K N a) = ringI K R T (digs K N b) := hf.out.2.2.1
    replace hc := Lib.hid hc
    replace hnot := Lib.hid hnot
    replace himg := Lib.hid himg
    go_upto_region 5 with fail
    rw [hw5.out, hg7.out]
    go_wp2_with fail
    refine (ints_any _ _ _ _ w5 ia5.out i25.out).mono ?_
    rintro e w6 h6
    obtain ⟨rfl, b6⟩ := h6.below
    clear h6
    rw [show decide (digs K N a = digs K N a) = true from decide_eq_true rfl]
    go_wp2_with fail
    refine (ints_any _ _ _ _ w6 (ib5.out.below b6) (i35.out.below b6)).mono ?_
    rintro e w7 h7
    obtain ⟨rfl, b7⟩ := h7.below
    clear h7
    rw [show decide (digs K N b = digs K N b) = true from decide_eq_true rfl]
    have b57 := Below.step b6 b7
    have c7 := Below.step c5 b57
    clear x0 x1 x2
    obtain ⟨⟨x0, x1, x2⟩, -, -, -⟩ := q7.below b57
    go_wp2_with fail
    refine (raw_is r none .nilIface _ w7 (hg.out.below c7) (hG.out.below c7) (hex5.out.below b57) (hey.out.below b57) trivial).mono ?_
    rintro e w8 ⟨_, rfl, b8, rfl⟩
    have b58 := Below.step b57 b8
    have c8 := Below.step c5 b58
    obtain ⟨⟨z0, z1, z2⟩, -, -, -⟩ := q.below c8
    clear x0 x1 x2
    go_wp2_with fail
    refine (one_ok r K R va vn vc T w8 (hg.out.below c8) (h.out.below c8) hc.out hl).mono ?_
    rintro e w9 ⟨yv, av, bv, ev, rfl, b9, hp⟩
    obtain ⟨rfl, Y, rfl, hY, a1, n1, d1, a2, n2, d2, a3, n3, d3, a4, n4, d4, a5, n5, d5, a6, n6, d6, rfl, rfl⟩ := hp.ans
    obtain rfl : Y = false := by
      cases Y with
      | false => rfl
      | true => exact absurd hnot.out (hY.1 rfl)
    clear hp hY
    have ba := belowAlloc w9 (.cells #[.int .i64 0, .slice a1 n1 d1, .slice a2 n2 d2, .slice a3 n3 d3] 42)
    have bb := Below.step ba (belowAlloc _ (.cells #[.int .i64 0, .slice a4 n4 d4, .slice a5 n5 d5, .slice a6 n6 d6] 42))
    have b9a := Below.step b9 bb
    obtain ⟨w10, hw10⟩ : ∃ W : World, (w9.alloc (.cells #[.int .i64 0, .slice a1 n1 d1, .slice a2 n2 d2, .slice a3 n3 d3] 42)).alloc (.cells #[.int .i64 0, .slice a4 n4 d4, .slice a5 n5 d5, .slice a6 n6 d6] 42) = W := ⟨_, rfl⟩
    rw [hw10] at bb b9a
    have e10 := Below.step b58 b9a
    have c10 := Below.step c8 b9a
    replace hw10 := Lib.hid hw10
    clear z0 z1 z2 ba bb
    obtain ⟨⟨z0, z1, z2⟩, -, -, -⟩ := q.below c10
    go_upto_region 10 with fail
    rw [hw10.out]
    go_wp2_with fail
    refine (ring_step K R va vn vc T _ (digs K N a) w10 (h.out.below c10) hc.out (ia5.out.below e10) (digs_syms hc.out.k1 N a) (by rw [digs_length]; exact hN) (by rw [digs_length]; omega)).mono ?_
    rintro e w11 ⟨s1, _, rfl, b11, rfl, hs1⟩
    obtain ⟨s1a, s1n, s1c, rfl⟩ := hs1.at.shape
    have c11 := Below.step c10 b11
    have e11 := Below.step e10 b11
    replace hs1 := Lib.hid hs1
    clear z0 z1 z2
    obtain ⟨⟨z0, z1, z2⟩, -, -, -⟩ := q.below c11
    go_wp2_with fail
    refine (ring_step K R va vn vc T _ (digs K N b) w11 (h.out.below c11) hc.out (ib5.out.below e11) (digs_syms hc.out.k1 N b) (by rw [digs_length]; exact hN) (by rw [digs_length]; omega)).mono ?_
    rintro e w12 ⟨s2, _, rfl, b12, rfl, hs2⟩
    obtain ⟨s2a, s2n, s2c, rfl⟩ := hs2.at.shape
    have c12 := Below.step c11 b12
    have e12 := Below.step e11 b12
    have j1 := hs1.out.at.below b12
    have j2 := hs2.at
    rw [himg.out] at j1
    replace hs2 := Lib.hid hs2
    replace j1 := Lib.hid j1
    replace j2 := Lib.hid j2
    clear z0 z1 z2
    go_wp2_with fail
    refine (ints_any _ _ _ _ w12 j1.out j2.out).mono ?_
    rintro e w13 h13
    obtain ⟨rfl, b13⟩ := h13.below
    clear h13
    rw [show decide (ringI K R T (digs K N b) = ringI K R T (digs K N b)) = true from decide_eq_true rfl]
    have e13 := Below.step e12 b13
    have c13 := Below.step c12 b13
    go_wp2_with fail
    refine (ints_any _ _ _ _ w13 (ia5.out.below e13) (ib5.out.below e13)).mono ?_
    rintro e w14 h14
    obtain ⟨rfl, b14⟩ := h14.below
    clear h14
    rw [show decide (digs K N a = digs K N b) = false from decide_eq_false hne.out]
    have bE := Below.step b0 (Below.step c13 b14)
    go_wp2
    go_ret
    exact ⟨_, rfl, bE, rfl⟩

theorem injectRings_any (r : Nat → Addr) (k R : Int) (tv : Value) (T : List Int) (n : Int) (w : World) (hg : Glob r w) (hG : GlobE w) (h : IntsAt w tv T) (hn : I64 n) :
    Calls Tryz.prog 7 #[.agg #[.int .i64 k, .int .i64 R, tv], .int .i64 n] w (Ret1 (fun x _ => x = .bool true) w) := by
  obtain ⟨va, vn, vc, rfl⟩ := h.shape
  cases hc : smallP k R T with
  | some t => exact ir_bad r k R n va vn vc T t w hg hG h hc
  | none =>
    by_cases h1 : n < 1
    · exact ir_low r k R n va vn vc T w hg hG h hc h1
    · obtain ⟨hck, hl⟩ := smallP_none hc
      obtain ⟨K, Q, rfl, rfl, hr⟩ := checkP_none hck
      obtain ⟨N, rfl⟩ := Int.eq_ofNat_of_zero_le (show 0 ≤ n by omega)
      have := hn.2
      exact ir_ok r K Q N va vn vc T w hg hG h hr hl (by omega) (by omega)
end Go.Proofs.YtilpckngghffoaaGreatDoor

namespace Go.Proofs.YtilpckngghffoaaGreatDoor
open Go.ChangeShapes Go.WideShapes Go.ChangeAt Go.RowKit Go.Joins
set_option maxRecDepth 100000

theorem own : ownKnob Tryz.prog.godebug = none := by kernel_rfl
theorem laidOut : laidOutB Tryz.prog = true := by kernel_rfl
theorem cellsInt : Tryz.prog.cellsOf 3 = 1 := by kernel_rfl
theorem uInt : Tryz.prog.underlying 3 = some (.int .i64) := by kernel_rfl
theorem bytesInt : Tryz.prog.bytesOf 3 = 8 := by kernel_rfl

theorem i64_of_wf {n : Int} (h : (Lit.int .i64 n).wf = true) : I64 n := by
  have := bounds_i64 h
  unfold I64
  omega

/-- A []int that came in. -/
theorem open_intsV {H : Type} {enc : TypeId × Value → H} {W : World} {held : Bool} {fuel : Nat} {v : Value} {y : DataW H × List MemPlace}
    (h : DataW.trod enc Tryz.prog W 0 (fun _ => true) held fuel 22 [v] = some y) (hw : ∀ n ∈ y.1.weights Tryz.prog 22, n ≤ reachBytes) :
    ∃ xs, IntsAt W v xs ∧ xs.length ≤ 17592186043904 ∧ ∀ x ∈ xs, I64 x := by
  rcases open_ints uInts uInt cellsInt h with ⟨hcs, _⟩ | ⟨a, len, cap, zs, hcs, _, hl, hm, hz, hx, hcell, hwz⟩
  · simp at hcs
    subst hcs
    exact ⟨[], (OwnI.nil 0 W).at, by simp, by simp⟩
  · simp at hcs
    subst hcs
    simp only [if_true] at hz
    have hzl : (zs.take len).length = len := by simp; omega
    refine ⟨zs.take len, ⟨some a, cap, by rw [hzl], by rw [hzl]; exact hl, hm, (fun e => by cases e), fun i hi => ?_⟩, ?_, fun x hx => i64_of_wf (hwz x (List.mem_of_mem_take hx))⟩
    · have hi' : i < zs.length := by rw [hzl] at hi; omega
      show W.cell? (a.add i) = _
      rw [hcell i hi']
      simp [List.getD, hi']
    · rw [hx] at hw
      have := hw ((lits (H := H) .i64 (zs.take len)).length * 8 + (lits (H := H) .i64 (zs.drop len)).length * 8) (by
        simp only [DataW.weights, uInts, bytesInt, List.mem_cons]
        left; omega)
      simp only [lits, List.length_map, reachBytes] at this
      omega

theorem weights_each3 {H : Type} {t0 t1 t2 : TypeId} {y0 y1 y2 : DataW H} {n : Nat} (h : n ∈ y2.weights Tryz.prog t2) : n ∈ DataW.weightsEach Tryz.prog [t0, t1, t2] [y0, y1, y2] := by
  simp only [DataW.weightsEach, List.mem_append]
  exact .inr (.inr (.inl h))

/-- A rule that came in. -/
theorem open_ruleV {H : Type} {enc : TypeId × Value → H} {W : World} {held : Bool} {v : Value} {d : DataW H} {p : List MemPlace} {b0 : Nat}
    (hv : Value.okWide Tryz.prog W .any b0 24 v) (h : DataW.Trod enc Tryz.prog W 0 (fun _ => true) held 24 v d p) (hw : ∀ n ∈ d.weights Tryz.prog 24, n ≤ reachBytes) :
    ∃ (k R : Int) (u : Value) (xs : List Int), v = .agg #[.int .i64 k, .int .i64 R, u] ∧ IntsAt W u xs ∧ xs.length ≤ 17592186043904 ∧ (∀ x ∈ xs, I64 x) ∧ I64 k ∧ I64 R := by
  obtain ⟨v0, v1, v2, y0, y1, y2, n, rfl, rfl, rfl, h0, h1, h2⟩ := open_agg3 Tryz.underlying24 (by kernel_rfl) (by kernel_rfl) hv h
  obtain ⟨a, e0, _, wa⟩ := DataW.trod_int uInt h0
  obtain ⟨b, e1, _, wb⟩ := DataW.trod_int uInt h1
  simp at e0 e1
  subst e0 e1
  obtain ⟨xs, hx, hl, hb⟩ := open_intsV h2 fun n hn => hw n (by
    simp only [DataW.weights, Tryz.underlying24]
    exact weights_each3 (t0 := 3) (t1 := 3) (t2 := 22) hn)
  exact ⟨a, b, v2, xs, rfl, hx, hl, hb, i64_of_wf wa, i64_of_wf wb⟩

/-! The package-level errors. -/
theorem star : "*" ++ "errors.errorString" = "*errors.errorString" := by decide
theorem rowES (u : TypeId) (h : Tryz.prog.typeName? 3 u = some "*errors.errorString") : u = 238 :=
  typeName_ptr_named (nm := "errors.errorString") (by rw [star]; kernel_rfl) (by kernel_rfl) (by decide) u (by rw [star]; exact h)
theorem pES : Tryz.prog.underlying 238 = some (.pointer 259) := by kernel_rfl
theorem cES : Tryz.prog.cellsOf 259 = 1 := by kernel_rfl
theorem cStr : Tryz.prog.cellsOf 9 = 1 := by kernel_rfl

def laid12 : List (String × DataW Unit) := [("eden/api.BadRule", Rows.laid_eden_api_BadRule), ("eden/api.BadWord", Rows.laid_eden_api_BadWord), ("eden/api.BadArg", Rows.laid_eden_api_BadArg), ("eden/api.TooBig", Rows.laid_eden_api_TooBig), ("eden/api.NoBudget", Rows.laid_eden_api_NoBudget), ("eden/api.BadText", Rows.laid_eden_api_BadText), ("eden/api.BadPatch", Rows.laid_eden_api_BadPatch), ("eden/api.BadCert", Rows.laid_eden_api_BadCert), ("eden/api.NoInverse", Rows.laid_eden_api_NoInverse), ("eden/api.BadLine", Rows.laid_eden_api_BadLine), ("eden/api.BadState", Rows.laid_eden_api_BadState), ("eden/api.Unknown", Rows.laid_eden_api_Unknown)]

theorem sentinel {n : String} {text : List UInt8} {r : List (String × DataW Unit)} {W : World} {g : Nat}
    (h : laidMet Tryz.prog ((n, .iface "*errors.errorString" (.ptr (.agg [.lit (.string text)]))) :: r) W)
    (hg : Tryz.prog.globalNamed n = some g) (ht : (Tryz.prog.globals[g]?).map (·.type) = some 28) :
    (∃ a : Addr, W.cell? ⟨g, 0, none⟩ = some (.iface 238 (.pointer (some a))) ∧ ∃ s, W.cell? a = some (.string s) ∧ s.data.toList = text) ∧ laidMet Tryz.prog r W := by
  refine ⟨?_, h.tail⟩
  obtain ⟨a, s, hv, hc, hs, _⟩ := laid_sentinel h hg ht Tryz.underlying28 rowES pES Tryz.underlying259 rfl rfl Tryz.underlying9 cES cStr
  exact ⟨a, by simpa using World.var?_cell hg hv 0, s, hc, hs⟩

def txt : Nat → List UInt8
  | 1 => [98, 97, 100, 32, 114, 117, 108, 101]
  | 2 => [98, 97, 100, 32, 119, 111, 114, 100]
  | 3 => [98, 97, 100, 32, 97, 114, 103, 117, 109, 101, 110, 116]
  | 4 => [116, 111, 111, 32, 98, 105, 103]
  | 5 => [110, 111, 32, 98, 117, 100, 103, 101, 116]
  | 6 => [98, 97, 100, 32, 116, 101, 120, 116]
  | 7 => [98, 97, 100, 32, 112, 97, 116, 99, 104]
  | 8 => [98, 97, 100, 32, 99, 101, 114, 116, 105, 102, 105, 99, 97, 116, 101]
  | 9 => [110, 111, 32, 105, 110, 118, 101, 114, 115, 101]
  | 10 => [98, 97, 100, 32, 108, 105, 110, 101]
  | 11 => [98, 97, 100, 32, 115, 116, 97, 116, 101]
  | 99 => [117, 110, 107, 110, 111, 119, 110]
  | _ => []
theorem txt_apart : ∀ m n : Fin 12, 1 ≤ m.val → 1 ≤ n.val → txt m.val = txt n.val → m = n := by decide

theorem glob_of_laid {W : World} (h : laidMet Tryz.prog laid12 W) : ∃ r, Glob r W := by
  obtain ⟨⟨a1, c1, s1, e1, t1⟩, h⟩ := sentinel (text := txt 1) h (g := 0) (by kernel_rfl) (by kernel_rfl)
  obtain ⟨⟨a2, c2, s2, e2, t2⟩, h⟩ := sentinel (text := txt 2) h (g := 1) (by kernel_rfl) (by kernel_rfl)
  obtain ⟨⟨a3, c3, s3, e3, t3⟩, h⟩ := sentinel (text := txt 3) h (g := 2) (by kernel_rfl) (by kernel_rfl)
  obtain ⟨⟨a4, c4, s4, e4, t4⟩, h⟩ := sentinel (text := txt 4) h (g := 3) (by kernel_rfl) (by kernel_rfl)
  obtain ⟨⟨a5, c5, s5, e5, t5⟩, h⟩ := sentinel (text := txt 5) h (g := 4) (by kernel_rfl) (by kernel_rfl)
  obtain ⟨⟨a6, c6, s6, e6, t6⟩, h⟩ := sentinel (text := txt 6) h (g := 5) (by kernel_rfl) (by kernel_rfl)
  obtain ⟨⟨a7, c7, s7, e7, t7⟩, h⟩ := sentinel (text := txt 7) h (g := 6) (by kernel_rfl) (by kernel_rfl)
  obtain ⟨⟨a8, c8, s8, e8, t8⟩, h⟩ := sentinel (text := txt 8) h (g := 7) (by kernel_rfl) (by kernel_rfl)
  obtain ⟨⟨a9, c9, s9, e9, t9⟩, h⟩ := sentinel (text := txt 9) h (g := 8) (by kernel_rfl) (by kernel_rfl)
  obtain ⟨⟨a10, c10, s10, e10, t10⟩, h⟩ := sentinel (text := txt 10) h (g := 9) (by kernel_rfl) (by kernel_rfl)
  obtain ⟨⟨a11, c11, s11, e11, t11⟩, h⟩ := sentinel (text := txt 11) h (g := 10) (by kernel_rfl) (by kernel_rfl)
  obtain ⟨⟨a99, c99, s99, e99, t99⟩, h⟩ := sentinel (text := txt 99) h (g := 11) (by kernel_rfl) (by kernel_rfl)
  clear h
  have key : ∀ n : Nat, (1 ≤ n ∧ n ≤ 11) ∨ n = 99 → ∃ s, W.cell? ((fun n : Nat => match n with | 1 => a1 | 2 => a2 | 3 => a3 | 4 => a4 | 5 => a5 | 6 => a6 | 7 => a7 | 8 => a8 | 9 => a9 | 10 => a10 | 11 => a11 | _ => a99) n) = some (.string s) ∧ s.data.toList = txt n := by
    intro n hn
    have : n = 1 ∨ n = 2 ∨ n = 3 ∨ n = 4 ∨ n = 5 ∨ n = 6 ∨ n = 7 ∨ n = 8 ∨ n = 9 ∨ n = 10 ∨ n = 11 ∨ n = 99 := by omega
    rcases this with rfl | rfl | rfl | rfl | rfl | rfl | rfl | rfl | rfl | rfl | rfl | rfl
    · exact ⟨s1, e1, t1⟩
    · exact ⟨s2, e2, t2⟩
    · exact ⟨s3, e3, t3⟩
    · exact ⟨s4, e4, t4⟩
    · exact ⟨s5, e5, t5⟩
    · exact ⟨s6, e6, t6⟩
    · exact ⟨s7, e7, t7⟩
    · exact ⟨s8, e8, t8⟩
    · exact ⟨s9, e9, t9⟩
    · exact ⟨s10, e10, t10⟩
    · exact ⟨s11, e11, t11⟩
    · exact ⟨s99, e99, t99⟩
  refine ⟨(fun n : Nat => match n with | 1 => a1 | 2 => a2 | 3 => a3 | 4 => a4 | 5 => a5 | 6 => a6 | 7 => a7 | 8 => a8 | 9 => a9 | 10 => a10 | 11 => a11 | _ => a99), c1, c2, c3, c4, c5, c6, c7, c8, c9, c10, c11, c99, (fun n hn => ?_), fun m n hm1 hm2 hn1 hn2 he => ?_⟩
  · obtain ⟨s, hs, _⟩ := key n hn
    exact ⟨s, hs⟩
  · obtain ⟨s, hs, ts⟩ := key m.toNat (by omega)
    obtain ⟨s', hs', ts'⟩ := key n.toNat (by omega)
    have hss : s = s' := by
      have := hs.symm.trans ((congrArg W.cell? he).trans hs')
      simpa using this
    subst hss
    have := txt_apart ⟨m.toNat, by omega⟩ ⟨n.toNat, by omega⟩ (by simp; omega) (by simp; omega) (ts.symm.trans ts')
    have := congrArg Fin.val this
    simp at this
    omega
end Go.Proofs.YtilpckngghffoaaGreatDoor

namespace Go.Proofs.YtilpckngghffoaaGreatDoor
open Go.RowKit
set_option maxRecDepth 100000

def laid13 : List (String × DataW Unit) := ("errors.errorType", Rows.laid_errors_errorType) :: laid12
theorem rtypeNo : (Tryz.prog.cutTypes.find? (·.1 == "internal/reflectlite.rtype")).map (·.2) = some 169 := by kernel_rfl
theorem errorTypeNo : Tryz.prog.globalNamed "errors.errorType" = some 12 := by kernel_rfl
theorem typesNo : Tryz.prog.types.size = 371 - 100 := by kernel_rfl
theorem oneError : ((List.range (371 - 100)).filter fun t => Tryz.prog.rowNamed t [101, 114, 114, 111, 114]) = [28] := by kernel_rfl
theorem handleErr : typeHandle Tryz.prog 28 = .pointer (some ⟨13, 28, none⟩) := by kernel_rfl

theorem glob_of_laidH {W : World} (h : laidMetH Tryz.prog laid13 W) : ∃ r, Glob r W ∧ GlobE W := by
  have h' : laidMet Tryz.prog laid12 W ∧ handlesMet Tryz.prog [("errors.errorType", Rows.laid_errors_errorType)] W := h
  obtain ⟨r, hg⟩ := glob_of_laid h'.1
  refine ⟨r, hg, ?_⟩
  obtain ⟨name, u, ty, e1, e2, e3, e4, e5⟩ := h'.2 _ (List.mem_cons_self ..)
  have en : name = [101, 114, 114, 111, 114] := (Option.some.inj e1).symm
  subst en
  obtain rfl := Option.some.inj (rtypeNo.symm.trans e2)
  have hm : ty ∈ (List.range (371 - 100)).filter fun t => Tryz.prog.rowNamed t [101, 114, 114, 111, 114] := List.mem_filter.2 ⟨List.mem_range.2 (by rw [← typesNo]; exact e3), e4⟩
  rw [oneError] at hm
  obtain rfl := List.mem_singleton.1 hm
  rw [handleErr] at e5
  simpa [GlobE] using World.var?_cell errorTypeNo e5 0
end Go.Proofs.YtilpckngghffoaaGreatDoor

namespace Go.Proofs.YtilpckngghffoaaGreatDoor
open Go.ChangeShapes Go.WideShapes Go.ChangeAt Go.RowKit Go.Joins
namespace InjectRingsP

set_option maxRecDepth 100000 in
theorem door_met (os : Os) (args : Array Value) : laidMetH Tryz.prog Rows.injectRingsRow.laid ((World.doorLaid Tryz.prog 400 os).forCall (fun _ _ => 0) ⟨#[], args, []⟩).memory :=
  laidMetH_of_parts3 (fuel := 8) (laidMet_of_run' 8 (by kernel_rfl) (by kernel_rfl)) (by kernel_rfl) (by kernel_rfl)

set_option maxRecDepth 100000 in
theorem lifted (os : Os) (started : os.Started) (H : Type) (enc : TypeId × Value → H) :
    ReturnsInHanded {} Tryz.checked os 7 .any (fun w args => (Rows.injectRingsSpec.pre enc Tryz.prog Tryz.f7 [] false w args ∧ laidMetH Tryz.prog Rows.injectRingsRow.laid w) ∧ sizedMet enc Tryz.prog Tryz.f7 (OpenSpec.ofChange Rows.injectRingsSpec) false w args)
      (Rows.injectRingsSpec.post enc Tryz.prog Tryz.f7 false true false false) := by
  refine returnsInHanded_of_change_and (C := Tryz.checked) (X := fun w _ => laidMetH Tryz.prog Rows.injectRingsRow.laid w) (fun _ _ _ hh h => h.of_heap hh) own started (by kernel_rfl) Tryz.func7
    (ChangeSpec.witness_shaped (enc := enc) (C := Tryz.checked) (os := os) (X := fun w _ => laidMetH Tryz.prog Rows.injectRingsRow.laid w) false (World.doorLaid Tryz.prog 400 os) #[.agg #[.int .i64 0, .int .i64 0, .slice none 0 0], .int .i64 0] 8 rfl (World.shaped_of_RefB (by kernel_rfl) (by kernel_rfl)) (by kernel_rfl) (by kernel_rfl) (by kernel_rfl) (door_met os _)) ?_
  intro W base args ds gs before hval0 hW _ hsz hL _
  have hval : ∀ (j : Nat) t v, Tryz.f7.params[j]? = some t → args[j]? = some v → Value.okWide Tryz.prog W .any base t v := hval0
  have hW' := hW
  obtain ⟨p, q, hA0, hV, rfl, hfz, hnd⟩ := hW
  have hA : DataW.TrodAll enc Tryz.prog W 0 (fun _ => true) true Tryz.f7.params.toList args.toList ds p := hA0
  rw [Tryz.params7] at hA hval hsz
  obtain ⟨v0, vs0, d0, ds0, p0, q0, hargs, rfl, rfl, g0, t0⟩ := trodAll_cons hA
  obtain ⟨v1, vs1, d1, ds1, p1, q1, rfl, rfl, rfl, g1, t1⟩ := trodAll_cons t0
  obtain ⟨rfl, rfl, rfl⟩ := trodAll_nil t1
  obtain rfl : args = #[v0, v1] := by cases args; simp_all
  obtain ⟨rfl, rfl⟩ := trodVars_none hV
  have kk0 := g0
  have lt0 : ∀ x ∈ p0, x.block < W.heap.size := by obtain ⟨m, hm⟩ := kk0; exact DataW.trod_lt m _ _ _ hm
  obtain ⟨kr0, rr0, u0, x0, rfl, h0, l0, b0, bk0, br0⟩ := open_ruleV (hval 0 24 v0 rfl rfl) g0 (fun n hn => by
    have := List.all_eq_true.1 hsz n (DataW.weights_mem_each (j := 0) (t := 24) rfl rfl n hn)
    simpa using this)
  obtain ⟨k1, rfl, rfl, rfl, w1⟩ := open_int uInt (hval 1 3 v1 rfl rfl) g1
  have b1 := i64_of_wf w1
  obtain ⟨r, hg, hG⟩ := glob_of_laidH (W := W) (by
    exact hL)
  clear hA0 hval0
  refine (injectRings_any r kr0 rr0 u0 x0 k1 W hg hG h0 b1).mono fun e W' ⟨x, he, bel, hxx⟩ => ?_
  subst he; subst hxx
  exact ⟨_, rfl, _, _, _, [], _, [], hW', trodAll_mk1 (shut_bool Tryz.underlying4 _), (trodAll_cons_mk (Below.trod laidOut (by kernel_rfl) (of_decide_eq_true (by kernel_rfl)) kk0 bel lt0) (trodAll_cons_mk (shut_int uInt w1) trodAll_mk0)), rfl, bel.frame _, fun h => by cases h⟩

theorem over : Rows.InjectRingsSaid :=
  OpenClaim.holds_of_wide 7 Tryz.f7 rfl rfl rfl rfl rfl rfl rfl ⟨rfl, rfl, rfl, rfl, rfl⟩ rfl rfl rfl rfl rfl (by kernel_rfl) Tryz.func7 (by kernel_rfl)
    (of_decide_eq_true (by kernel_rfl)) (by unfold Func.isWrapper; first | (rw [if_pos (by decide +kernel)]; kernel_rfl) | (rw [if_neg (by decide +kernel)]; exact ⟨rfl, rfl⟩))
    (fun os started H enc _ => lifted os started H enc)

/-- The tied card. -/
theorem card_holds : Rows.InjectRingsCardSaid :=
  Claim7.holds_tied_plain_at .later [] [.handle, .sentinel, .sentinel, .sentinel, .sentinel, .sentinel, .sentinel, .sentinel, .sentinel, .sentinel, .sentinel, .sentinel, .sentinel] true _ _
    over (fun _ h => by cases h) (by kernel_rfl) (fun _ h => by cases h) injectRings_row_tie rfl ⟨rfl, rfl⟩ (by kernel_rfl) rfl
    (fun f fn hf hfn => by
      obtain rfl : f = 7 := Option.some.inj ((show Tryz.prog.funcNamed Rows.injectRingsRow.func = some 7 by kernel_rfl).symm.trans hf) |>.symm
      obtain rfl : fn = Tryz.f7 := (Option.some.inj (Tryz.func7.symm.trans hfn)).symm
      exact ⟨by kernel_rfl, fun j t ht => by
        rw [Tryz.params7] at ht
        have hm : t ∈ [24, 3] := by simpa using Array.mem_of_getElem? ht
        have hall : ([24, 3].all fun u => !Tryz.prog.wantsStandIn u) = true := by kernel_rfl
        exact (show Tryz.prog.wantsStandIn t = false by simpa using List.all_eq_true.1 hall t hm)⟩)
    (by kernel_rfl)
end InjectRingsP
#print axioms InjectRingsP.card_holds
end Go.Proofs.YtilpckngghffoaaGreatDoor
