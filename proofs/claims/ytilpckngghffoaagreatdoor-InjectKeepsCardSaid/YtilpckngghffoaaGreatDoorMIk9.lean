/-
  Proved: the law edenlaw14.InjectKeeps as its tied card: it returns true and never panics, for any rule and number. No conditions beyond the card's own.
  Walk: edenlaw14.InjectKeeps returns true.
  Opening what a call is handed: []int, api.Rule, the package-level errors.
-/
import Derived.Test.YtilpckngghffoaaGreatDoorMIk8
import Derived.Test.YtilpckngghffoaaGreatDoorRows
import Derived.ProofKit
import Derived.OpenShut
import Derived.ShutString
import Derived.ChangeOld
import Derived.LaidMore
import Derived.Stop.Joined
import Derived.Stop.LaidErr
import Derived.Lib.SmallJoins
import Derived.Test.YtilpckngghffoaaGreatDoorCards
import Derived.Test.YtilpckngghffoaaGreatDoorTie
import Derived.SevenTiedAt
namespace Go.Proofs.YtilpckngghffoaaGreatDoor
open Go.RowKit
set_option maxRecDepth 100000

theorem pw5 {K n : Nat} (_h1 : 1 ≤ K) (h4 : K ≤ 4) (hn : n ≤ 5) : pw K n ≤ 4096 :=
  Nat.le_trans (Nat.pow_le_pow_left h4 n) (Nat.le_trans (Nat.pow_le_pow_right (by omega) hn) (by decide))
/-- Rings, called twice. -/
theorem RPost.two {r : Nat → Addr} {w w' v v' : World} {K R n : Nat} {T : List Int} {y x1 x2 e z u1 u2 f : Value} (hpw : pw K n ≤ 4096) (h : RPost r w K R T n y x1 x2 e w') (k : RPost r v K R T n z u1 u2 f v') :
    e = .nilIface ∧ f = .nilIface ∧ ∃ X Y, X.length ≤ n ∧ Y.length ≤ n ∧ Kin w' w.heap.size [x1, x2] [X, Y] ∧ Kin v' v.heap.size [u1, u2] [X, Y] := by
  unfold RPost at h k
  rcases h with ⟨g1, g2, _⟩ | ⟨g1, g2, g3, rfl, rfl, g4⟩ | ⟨g1, g2, g3, g4, a, b, hf, g5, g6, g7⟩
  · omega
  · rcases k with ⟨k1, k2, _⟩ | ⟨k1, k2, k3, rfl, rfl, k4⟩ | ⟨k1, k2, k3, k4, a, b, hf, k5, k6, k7⟩
    · omega
    · exact ⟨g2, k2, [], [], Nat.zero_le _, Nat.zero_le _, Kin.pair (OwnI.nil _ _) (OwnI.nil _ _) (.inl rfl), Kin.pair (OwnI.nil _ _) (OwnI.nil _ _) (.inl rfl)⟩
    · rcases g4 with g4 | g4
      · omega
      · exact absurd g4 hf.not
  · rcases k with ⟨k1, k2, _⟩ | ⟨k1, k2, k3, rfl, rfl, k4⟩ | ⟨k1, k2, k3, k4, a', b', hf', k5, k6, k7⟩
    · omega
    · rcases k4 with k4 | k4
      · omega
      · exact absurd k4 hf.not
    · obtain ⟨rfl, rfl⟩ := hf.unique hf'
      exact ⟨g3, k3, digs K n a, digs K n b, by rw [digs_length]; exact Nat.le_refl _, by rw [digs_length]; exact Nat.le_refl _, Kin.pair g5 g6 g7, Kin.pair k5 k6 k7⟩
theorem ik_short {K N : Nat} {L C Q : List Nat} {X Y : List Int} (hL : L.length ≤ 8192) (hC : C.length ≤ 16384) (hQ : Q.length ≤ 8192) (hX : X.length ≤ 100) (hY : Y.length ≤ 100) :
    ∀ x ∈ [sideA K N L, sideA K N C, sideA K N Q, sideB K N L, sideB K N C, sideB K N Q, sideA K N L, sideA K N C, sideA K N Q, sideB K N L, sideB K N C, sideB K N Q, X, Y, X, Y], x.length ≤ 1099511627776 := by
  have l1 := sideA_len K N L
  have l2 := sideA_len K N C
  have l3 := sideA_len K N Q
  have l4 := sideB_len K N L
  have l5 := sideB_len K N C
  have l6 := sideB_len K N Q
  intro x hx
  simp only [List.mem_cons, List.not_mem_nil, or_false] at hx
  rcases hx with rfl | rfl | rfl | rfl | rfl | rfl | rfl | rfl | rfl | rfl | rfl | rfl | rfl | rfl | rfl | rfl <;> omega
/-- The length that the law asks rings of. -/
theorem five (n : Int) : ∃ (c1 : Int) (c2 m N : Nat), n.tmod 5 = c1 ∧ -5 ≤ c1 ∧ c1 ≤ 5 ∧ c1 + 5 = (c2 : Int) ∧ c2 ≤ 10 ∧ (c2 : Int).tmod 5 = (m : Int) ∧ m < 5 ∧ (m : Int) + 1 = (N : Int) ∧ 1 ≤ N ∧ N ≤ 5 := by
  obtain ⟨c1, c2, m, e1, e2, e3, e4, e5, e6, e7, _⟩ := ring_mod (a := n) (n := 5) (by decide)
  exact ⟨c1, c2, m, m + 1, e1, e4, e5, e2, e3, by rw [Int.tmod_eq_emod_of_nonneg (by omega)]; omega, e7, by omega, by omega, by omega⟩

set_option maxHeartbeats 8000000 in
theorem ik_long (r : Nat → Addr) (k R : Int) (va : Option Addr) (vn vc : Nat) (T : List Int) (n : Int) (w : World) (hg : Glob r w) (h : IntsAt w (.slice va vn vc) T) (hl : 32 < T.length) :
    Calls Tryz.prog 4 #[.agg #[.int .i64 k, .int .i64 R, .slice va vn vc], .int .i64 n] w (Ret1 (fun x _ => x = .bool true) w) := by
  have b0 := belowAlloc w (.cells #[.int .i64 k, .int .i64 R, .slice va vn vc] 24)
  have q : Box3 (w.alloc (.cells #[.int .i64 k, .int .i64 R, .slice va vn vc] 24)) w.heap.size (.int .i64 k) (.int .i64 R) (.slice va vn vc) := by simp [Box3, go_sem]
  obtain ⟨w0, hw0⟩ : ∃ W : World, w.alloc (.cells #[.int .i64 k, .int .i64 R, .slice va vn vc] 24) = W := ⟨_, rfl⟩
  rw [hw0] at b0 q
  have lT := h.len
  replace hg := Lib.hid (hg.below b0)
  replace h := Lib.hid (h.below b0)
  replace hw0 := Lib.hid hw0
  have hd : decide ((32 : Int) < (T.length : Int)) = true := decide_eq_true (by omega)
  go_enter Tryz.func4, Tryz.ntmps4
  go_upto_region 1 with fail
  rw [hw0.out]
  go_wp2_with fail
  refine (awake14 r _ hg.out).mono ?_
  rintro e w1 ⟨_, rfl, b1, rfl⟩
  obtain ⟨⟨z0, z1, z2⟩, -, -, -⟩ := q.below b1
  have bE := Below.step b0 b1
  go_wp2
  go_ret
  exact ⟨_, rfl, bE, rfl⟩

set_option maxHeartbeats 8000000 in
theorem ik_bad (r : Nat → Addr) (k R : Int) (va : Option Addr) (vn vc : Nat) (T : List Int) (t : Int × List (ByteArray × Int)) (n : Int) (w : World) (hg : Glob r w) (h : IntsAt w (.slice va vn vc) T) (hl : T.length ≤ 32) (hc : smallP k R T = some t) :
    Calls Tryz.prog 4 #[.agg #[.int .i64 k, .int .i64 R, .slice va vn vc], .int .i64 n] w (Ret1 (fun x _ => x = .bool true) w) := by
  have b0 := belowAlloc w (.cells #[.int .i64 k, .int .i64 R, .slice va vn vc] 24)
  have q : Box3 (w.alloc (.cells #[.int .i64 k, .int .i64 R, .slice va vn vc] 24)) w.heap.size (.int .i64 k) (.int .i64 R) (.slice va vn vc) := by simp [Box3, go_sem]
  obtain ⟨w0, hw0⟩ : ∃ W : World, w.alloc (.cells #[.int .i64 k, .int .i64 R, .slice va vn vc] 24) = W := ⟨_, rfl⟩
  rw [hw0] at b0 q
  have lT := h.len
  replace hg := Lib.hid (hg.below b0)
  replace h := Lib.hid (h.below b0)
  replace hw0 := Lib.hid hw0
  have hd : decide ((32 : Int) < (T.length : Int)) = false := decide_eq_false (by omega)
  replace hc := Lib.hid hc
  go_enter Tryz.func4, Tryz.ntmps4
  go_upto_region 1 with fail
  rw [hw0.out]
  go_wp2_with fail
  refine (awake14 r _ hg.out).mono ?_
  rintro e w1 ⟨_, rfl, b1, rfl⟩
  obtain ⟨⟨z0, z1, z2⟩, -, -, -⟩ := q.below b1
  go_wp2_with fail
  refine (one_bad r k R va vn vc T t w1 (hg.out.below b1) (h.out.below b1) hc.out).mono ?_
  rintro e w2 ⟨_, _, _, ex, rfl, b2, rfl, rfl, rfl, hex⟩
  obtain ⟨ET, ea, rfl⟩ := ErrIs.some_shape (t := (t.1, (sInject, 0) :: (sPairs, 0) :: t.2)) hex
  clear hex
  have ba := belowAlloc w2 (.cells #[.int .i64 0, .slice none 0 0, .slice none 0 0, .slice none 0 0] 42)
  have bx2 := Below.step ba (belowAlloc _ (.cells #[.int .i64 0, .slice none 0 0, .slice none 0 0, .slice none 0 0] 42))
  have yA : Cells4 ((w2.alloc (.cells #[.int .i64 0, .slice none 0 0, .slice none 0 0, .slice none 0 0] 42)).alloc (.cells #[.int .i64 0, .slice none 0 0, .slice none 0 0, .slice none 0 0] 42)) w2.heap.size (.int .i64 0) (.slice none 0 0) (.slice none 0 0) (.slice none 0 0) := by
    refine ⟨?_, ?_, ?_, ?_⟩ <;> simp [go_sem]
  have yB : Cells4 ((w2.alloc (.cells #[.int .i64 0, .slice none 0 0, .slice none 0 0, .slice none 0 0] 42)).alloc (.cells #[.int .i64 0, .slice none 0 0, .slice none 0 0, .slice none 0 0] 42)) (w2.heap.size + 1) (.int .i64 0) (.slice none 0 0) (.slice none 0 0) (.slice none 0 0) := by
    refine ⟨?_, ?_, ?_, ?_⟩ <;> simp [go_sem]
  have b2a := Below.step b2 bx2
  obtain ⟨w3, hw3⟩ : ∃ W : World, (w2.alloc (.cells #[.int .i64 0, .slice none 0 0, .slice none 0 0, .slice none 0 0] 42)).alloc (.cells #[.int .i64 0, .slice none 0 0, .slice none 0 0, .slice none 0 0] 42) = W := ⟨_, rfl⟩
  rw [hw3] at bx2 yA yB b2a
  obtain ⟨ga, hga⟩ : ∃ g, w2.heap.size = g := ⟨_, rfl⟩
  rw [hga] at yA yB
  have c3 := Below.step b1 b2a
  replace hw3 := Lib.hid hw3
  replace hga := Lib.hid hga
  clear z0 z1 z2 ba
  obtain ⟨⟨z0, z1, z2⟩, -, -, -⟩ := q.below c3
  go_upto_region 6 with fail
  rw [hw3.out, hga.out]
  go_wp2_with fail
  refine (one_bad r k R va vn vc T t w3 (hg.out.below c3) (h.out.below c3) hc.out).mono ?_
  rintro e w4 ⟨_, _, _, ex, rfl, b4, rfl, rfl, rfl, hex⟩
  obtain ⟨ET2, ea2, rfl⟩ := ErrIs.some_shape (t := (t.1, (sInject, 0) :: (sPairs, 0) :: t.2)) hex
  clear hex
  have ba := belowAlloc w4 (.cells #[.int .i64 0, .slice none 0 0, .slice none 0 0, .slice none 0 0] 42)
  have bx4 := Below.step ba (belowAlloc _ (.cells #[.int .i64 0, .slice none 0 0, .slice none 0 0, .slice none 0 0] 42))
  have yC : Cells4 ((w4.alloc (.cells #[.int .i64 0, .slice none 0 0, .slice none 0 0, .slice none 0 0] 42)).alloc (.cells #[.int .i64 0, .slice none 0 0, .slice none 0 0, .slice none 0 0] 42)) w4.heap.size (.int .i64 0) (.slice none 0 0) (.slice none 0 0) (.slice none 0 0) := by
    refine ⟨?_, ?_, ?_, ?_⟩ <;> simp [go_sem]
  have yD : Cells4 ((w4.alloc (.cells #[.int .i64 0, .slice none 0 0, .slice none 0 0, .slice none 0 0] 42)).alloc (.cells #[.int .i64 0, .slice none 0 0, .slice none 0 0, .slice none 0 0] 42)) (w4.heap.size + 1) (.int .i64 0) (.slice none 0 0) (.slice none 0 0) (.slice none 0 0) := by
    refine ⟨?_, ?_, ?_, ?_⟩ <;> simp [go_sem]
  have b4a := Below.step b4 bx4
  obtain ⟨w5, hw5⟩ : ∃ W : World, (w4.alloc (.cells #[.int .i64 0, .slice none 0 0, .slice none 0 0, .slice none 0 0] 42)).alloc (.cells #[.int .i64 0, .slice none 0 0, .slice none 0 0, .slice none 0 0] 42) = W := ⟨_, rfl⟩
  rw [hw5] at bx4 yC yD b4a
  obtain ⟨gc, hgc⟩ : ∃ g, w4.heap.size = g := ⟨_, rfl⟩
  rw [hgc] at yC yD
  have c5 := Below.step c3 b4a
  replace hw5 := Lib.hid hw5
  replace hgc := Lib.hid hgc
  clear z0 z1 z2 ba
  obtain ⟨⟨z0, z1, z2⟩, -, -, -⟩ := q.below c5
  go_upto_region 7 with fail
  rw [hw5.out, hgc.out]
  have bE := Below.step b0 c5
  go_wp2
  go_ret
  exact ⟨_, rfl, bE, rfl⟩

set_option maxHeartbeats 8000000 in
theorem ik_ok (r : Nat → Addr) (K R : Nat) (va : Option Addr) (vn vc : Nat) (T : List Int) (n : Int) (w : World) (hg : Glob r w) (h : IntsAt w (.slice va vn vc) T) (hl : T.length ≤ 32) (hr : RuleOk K R T) :
    Calls Tryz.prog 4 #[.agg #[.int .i64 K, .int .i64 R, .slice va vn vc], .int .i64 n] w (Ret1 (fun x _ => x = .bool true) w) := by
  have b0 := belowAlloc w (.cells #[.int .i64 K, .int .i64 R, .slice va vn vc] 24)
  have q : Box3 (w.alloc (.cells #[.int .i64 K, .int .i64 R, .slice va vn vc] 24)) w.heap.size (.int .i64 K) (.int .i64 R) (.slice va vn vc) := by simp [Box3, go_sem]
  obtain ⟨w0, hw0⟩ : ∃ W : World, w.alloc (.cells #[.int .i64 K, .int .i64 R, .slice va vn vc] 24) = W := ⟨_, rfl⟩
  rw [hw0] at b0 q
  have lT := h.len
  replace hg := Lib.hid (hg.below b0)
  replace h := Lib.hid (h.below b0)
  replace hw0 := Lib.hid hw0
  have hd : decide ((32 : Int) < (T.length : Int)) = false := decide_eq_false (by omega)
  have hl8 : T.length ≤ 256 := by omega
  have hbi := fun (L C Q : List Nat) (hx : OneIs K R T L C Q) => oneIs_bi hr hl8 hx
  replace hr := Lib.hid hr
  replace hbi := Lib.hid hbi
  go_enter Tryz.func4, Tryz.ntmps4
  go_upto_region 1 with fail
  rw [hw0.out]
  go_wp2_with fail
  refine (awake14 r _ hg.out).mono ?_
  rintro e w1 ⟨_, rfl, b1, rfl⟩
  obtain ⟨⟨z0, z1, z2⟩, -, -, -⟩ := q.below b1
  go_wp2_with fail
  refine (one_ok r K R va vn vc T w1 (hg.out.below b1) (h.out.below b1) hr.out hl8).mono ?_
  rintro e w2 ⟨yv, av, bv, ev, rfl, b2, rfl, hp⟩
  rcases hp with ⟨rfl, rfl, rfl, hno⟩ | ⟨rfl, hno, L, C, Q, aL, aC, aQ, bL, bC, bQ, hone, rfl, rfl, f, hrows, n10, n11, n20, n21, n30, n31⟩
  · replace hno := Lib.hid hno
    have ba := belowAlloc w2 (.cells #[.int .i64 0, .slice none 0 0, .slice none 0 0, .slice none 0 0] 42)
    have bx2 := Below.step ba (belowAlloc _ (.cells #[.int .i64 0, .slice none 0 0, .slice none 0 0, .slice none 0 0] 42))
    have yA : Cells4 ((w2.alloc (.cells #[.int .i64 0, .slice none 0 0, .slice none 0 0, .slice none 0 0] 42)).alloc (.cells #[.int .i64 0, .slice none 0 0, .slice none 0 0, .slice none 0 0] 42)) w2.heap.size (.int .i64 0) (.slice none 0 0) (.slice none 0 0) (.slice none 0 0) := by
      refine ⟨?_, ?_, ?_, ?_⟩ <;> simp [go_sem]
    have yB : Cells4 ((w2.alloc (.cells #[.int .i64 0, .slice none 0 0, .slice none 0 0, .slice none 0 0] 42)).alloc (.cells #[.int .i64 0, .slice none 0 0, .slice none 0 0, .slice none 0 0] 42)) (w2.heap.size + 1) (.int .i64 0) (.slice none 0 0) (.slice none 0 0) (.slice none 0 0) := by
      refine ⟨?_, ?_, ?_, ?_⟩ <;> simp [go_sem]
    have b2a := Below.step b2 bx2
    obtain ⟨w3, hw3⟩ : ∃ W : World, (w2.alloc (.cells #[.int .i64 0, .slice none 0 0, .slice none 0 0, .slice none 0 0] 42)).alloc (.cells #[.int .i64 0, .slice none 0 0, .slice none 0 0, .slice none 0 0] 42) = W := ⟨_, rfl⟩
    rw [hw3] at bx2 yA yB b2a
    obtain ⟨ga, hga⟩ : ∃ g, w2.heap.size = g := ⟨_, rfl⟩
    rw [hga] at yA yB
    have c3 := Below.step b1 b2a
    replace hw3 := Lib.hid hw3
    replace hga := Lib.hid hga
    clear z0 z1 z2 ba
    obtain ⟨⟨z0, z1, z2⟩, -, -, -⟩ := q.below c3
    go_upto_region 6 with fail
    rw [hw3.out, hga.out]
    go_wp2_with fail
    refine (one_ok r K R va vn vc T w3 (hg.out.below c3) (h.out.below c3) hr.out hl8).mono ?_
    rintro e w4 ⟨yv, av, bv, ev, rfl, b4, rfl, hp⟩
    have hp3 : yv = .bool true ∧ av = zRow ∧ bv = zRow := by
      rcases hp with ⟨h1, h2, h3, _⟩ | ⟨_, h1, _⟩
      · exact ⟨h1, h2, h3⟩
      · exact absurd h1 hno.out
    clear hp
    obtain ⟨rfl, rfl, rfl⟩ := hp3
    have ba := belowAlloc w4 (.cells #[.int .i64 0, .slice none 0 0, .slice none 0 0, .slice none 0 0] 42)
    have bx4 := Below.step ba (belowAlloc _ (.cells #[.int .i64 0, .slice none 0 0, .slice none 0 0, .slice none 0 0] 42))
    have yC : Cells4 ((w4.alloc (.cells #[.int .i64 0, .slice none 0 0, .slice none 0 0, .slice none 0 0] 42)).alloc (.cells #[.int .i64 0, .slice none 0 0, .slice none 0 0, .slice none 0 0] 42)) w4.heap.size (.int .i64 0) (.slice none 0 0) (.slice none 0 0) (.slice none 0 0) := by
      refine ⟨?_, ?_, ?_, ?_⟩ <;> simp [go_sem]
    have yD : Cells4 ((w4.alloc (.cells #[.int .i64 0, .slice none 0 0, .slice none 0 0, .slice none 0 0] 42)).alloc (.cells #[.int .i64 0, .slice none 0 0, .slice none 0 0, .slice none 0 0] 42)) (w4.heap.size + 1) (.int .i64 0) (.slice none 0 0) (.slice none 0 0) (.slice none 0 0) := by
      refine ⟨?_, ?_, ?_, ?_⟩ <;> simp [go_sem]
    have b4a := Below.step b4 bx4
    obtain ⟨w5, hw5⟩ : ∃ W : World, (w4.alloc (.cells #[.int .i64 0, .slice none 0 0, .slice none 0 0, .slice none 0 0] 42)).alloc (.cells #[.int .i64 0, .slice none 0 0, .slice none 0 0, .slice none 0 0] 42) = W := ⟨_, rfl⟩
    rw [hw5] at bx4 yC yD b4a
    obtain ⟨gc, hgc⟩ : ∃ g, w4.heap.size = g := ⟨_, rfl⟩
    rw [hgc] at yC yD
    have c5 := Below.step c3 b4a
    replace hw5 := Lib.hid hw5
    replace hgc := Lib.hid hgc
    clear z0 z1 z2 ba
    obtain ⟨⟨z0, z1, z2⟩, -, -, -⟩ := q.below c5
    go_upto_region 7 with fail
    rw [hw5.out, hgc.out]
    have bE := Below.step b0 c5
    go_wp2
    go_ret
    exact ⟨_, rfl, bE, rfl⟩
  · replace hno := Lib.hid hno
    obtain ⟨-, lL, lC, lQ, -⟩ := hbi.out L C Q hone
    replace hone := Lib.hid hone
    clear hbi
    have k1 := hrows.six n10 n20 n30 n11 n21 n31
    have oaL := (hrows.ownI n10).at
    have oaC := (hrows.ownI n20).at
    have oaQ := (hrows.ownI n30).at
    have obL := (hrows.ownI n11).at
    have obC := (hrows.ownI n21).at
    have obQ := (hrows.ownI n31).at
    clear n10 n11 n20 n21 n30 n31 hrows
    obtain ⟨aL1, aL2, aL3, rfl⟩ := oaL.shape
    obtain ⟨aC1, aC2, aC3, rfl⟩ := oaC.shape
    obtain ⟨aQ1, aQ2, aQ3, rfl⟩ := oaQ.shape
    obtain ⟨bL1, bL2, bL3, rfl⟩ := obL.shape
    obtain ⟨bC1, bC2, bC3, rfl⟩ := obC.shape
    obtain ⟨bQ1, bQ2, bQ3, rfl⟩ := obQ.shape
    replace oaL := Lib.hid oaL
    replace oaC := Lib.hid oaC
    replace oaQ := Lib.hid oaQ
    replace obL := Lib.hid obL
    replace obC := Lib.hid obC
    replace obQ := Lib.hid obQ
    replace k1 := Lib.hid k1
    have ba := belowAlloc w2 (.cells #[.int .i64 0, .slice aL1 aL2 aL3, .slice aC1 aC2 aC3, .slice aQ1 aQ2 aQ3] 42)
    have bx2 := Below.step ba (belowAlloc _ (.cells #[.int .i64 0, .slice bL1 bL2 bL3, .slice bC1 bC2 bC3, .slice bQ1 bQ2 bQ3] 42))
    have yA : Cells4 ((w2.alloc (.cells #[.int .i64 0, .slice aL1 aL2 aL3, .slice aC1 aC2 aC3, .slice aQ1 aQ2 aQ3] 42)).alloc (.cells #[.int .i64 0, .slice bL1 bL2 bL3, .slice bC1 bC2 bC3, .slice bQ1 bQ2 bQ3] 42)) w2.heap.size (.int .i64 0) (.slice aL1 aL2 aL3) (.slice aC1 aC2 aC3) (.slice aQ1 aQ2 aQ3) := by
      refine ⟨?_, ?_, ?_, ?_⟩ <;> simp [go_sem]
    have yB : Cells4 ((w2.alloc (.cells #[.int .i64 0, .slice aL1 aL2 aL3, .slice aC1 aC2 aC3, .slice aQ1 aQ2 aQ3] 42)).alloc (.cells #[.int .i64 0, .slice bL1 bL2 bL3, .slice bC1 bC2 bC3, .slice bQ1 bQ2 bQ3] 42)) (w2.heap.size + 1) (.int .i64 0) (.slice bL1 bL2 bL3) (.slice bC1 bC2 bC3) (.slice bQ1 bQ2 bQ3) := by
      refine ⟨?_, ?_, ?_, ?_⟩ <;> simp [go_sem]
    have b2a := Below.step b2 bx2
    obtain ⟨w3, hw3⟩ : ∃ W : World, (w2.alloc (.cells #[.int .i64 0, .slice aL1 aL2 aL3, .slice aC1 aC2 aC3, .slice aQ1 aQ2 aQ3] 42)).alloc (.cells #[.int .i64 0, .slice bL1 bL2 bL3, .slice bC1 bC2 bC3, .slice bQ1 bQ2 bQ3] 42) = W := ⟨_, rfl⟩
    rw [hw3] at bx2 yA yB b2a
    obtain ⟨ga, hga⟩ : ∃ g, w2.heap.size = g := ⟨_, rfl⟩
    rw [hga] at yA yB
    have c3 := Below.step b1 b2a
    replace hw3 := Lib.hid hw3
    replace hga := Lib.hid hga
    clear z0 z1 z2 ba
    obtain ⟨⟨z0, z1, z2⟩, -, -, -⟩ := q.below c3
    go_upto_region 6 with fail
    rw [hw3.out, hga.out]
    go_wp2_with fail
    refine (one_ok r K R va vn vc T w3 (hg.out.below c3) (h.out.below c3) hr.out hl8).mono ?_
    rintro e w4 ⟨yv, av, bv, ev, rfl, b4, rfl, hp⟩
    rcases hp with ⟨-, -, -, hp⟩ | ⟨rfl, -, L', C', Q', cL, cC, cQ, dL, dC, dQ, hone', rfl, rfl, f', hrows, n10, n11, n20, n21, n30, n31⟩
    · exact absurd hno.out hp
    obtain ⟨rfl, rfl, rfl⟩ := hone.out.unique hone'
    clear hone hone'
    have k2 := hrows.six n10 n20 n30 n11 n21 n31
    have ocL := (hrows.ownI n10).at
    have ocC := (hrows.ownI n20).at
    have ocQ := (hrows.ownI n30).at
    have odL := (hrows.ownI n11).at
    have odC := (hrows.ownI n21).at
    have odQ := (hrows.ownI n31).at
    clear n10 n11 n20 n21 n30 n31 hrows
    obtain ⟨cL1, cL2, cL3, rfl⟩ := ocL.shape
    obtain ⟨cC1, cC2, cC3, rfl⟩ := ocC.shape
    obtain ⟨cQ1, cQ2, cQ3, rfl⟩ := ocQ.shape
    obtain ⟨dL1, dL2, dL3, rfl⟩ := odL.shape
    obtain ⟨dC1, dC2, dC3, rfl⟩ := odC.shape
    obtain ⟨dQ1, dQ2, dQ3, rfl⟩ := odQ.shape
    replace ocL := Lib.hid ocL
    replace ocC := Lib.hid ocC
    replace ocQ := Lib.hid ocQ
    replace odL := Lib.hid odL
    replace odC := Lib.hid odC
    replace odQ := Lib.hid odQ
    replace k2 := Lib.hid k2
    have ba := belowAlloc w4 (.cells #[.int .i64 0, .slice cL1 cL2 cL3, .slice cC1 cC2 cC3, .slice cQ1 cQ2 cQ3] 42)
    have bx4 := Below.step ba (belowAlloc _ (.cells #[.int .i64 0, .slice dL1 dL2 dL3, .slice dC1 dC2 dC3, .slice dQ1 dQ2 dQ3] 42))
    have yC : Cells4 ((w4.alloc (.cells #[.int .i64 0, .slice cL1 cL2 cL3, .slice cC1 cC2 cC3, .slice cQ1 cQ2 cQ3] 42)).alloc (.cells #[.int .i64 0, .slice dL1 dL2 dL3, .slice dC1 dC2 dC3, .slice dQ1 dQ2 dQ3] 42)) w4.heap.size (.int .i64 0) (.slice cL1 cL2 cL3) (.slice cC1 cC2 cC3) (.slice cQ1 cQ2 cQ3) := by
      refine ⟨?_, ?_, ?_, ?_⟩ <;> simp [go_sem]
    have yD : Cells4 ((w4.alloc (.cells #[.int .i64 0, .slice cL1 cL2 cL3, .slice cC1 cC2 cC3, .slice cQ1 cQ2 cQ3] 42)).alloc (.cells #[.int .i64 0, .slice dL1 dL2 dL3, .slice dC1 dC2 dC3, .slice dQ1 dQ2 dQ3] 42)) (w4.heap.size + 1) (.int .i64 0) (.slice dL1 dL2 dL3) (.slice dC1 dC2 dC3) (.slice dQ1 dQ2 dQ3) := by
      refine ⟨?_, ?_, ?_, ?_⟩ <;> simp [go_sem]
    have b4a := Below.step b4 bx4
    obtain ⟨w5, hw5⟩ : ∃ W : World, (w4.alloc (.cells #[.int .i64 0, .slice cL1 cL2 cL3, .slice cC1 cC2 cC3, .slice cQ1 cQ2 cQ3] 42)).alloc (.cells #[.int .i64 0, .slice dL1 dL2 dL3, .slice dC1 dC2 dC3, .slice dQ1 dQ2 dQ3] 42) = W := ⟨_, rfl⟩
    rw [hw5] at bx4 yC yD b4a
    obtain ⟨gc, hgc⟩ : ∃ g, w4.heap.size = g := ⟨_, rfl⟩
    rw [hgc] at yC yD
    have c5 := Below.step c3 b4a
    replace hw5 := Lib.hid hw5
    replace hgc := Lib.hid hgc
    clear z0 z1 z2 ba
    obtain ⟨⟨z0, z1, z2⟩, -, -, -⟩ := q.below c5
    go_upto_region 7 with fail
    rw [hw5.out, hgc.out]
    obtain ⟨c1, c2, m, N, e1, e2, e3, e4, e5, e6, e7, e8, hN1, hN5⟩ := five n
    have hpw := pw5 hr.out.k1 hr.out.k4 hN5
    replace hpw := Lib.hid hpw
    go_upto_region 10 with fail
    go_wp2_with fail
    refine (rings_ok r K R N va vn vc T w5 (hg.out.below c5) (h.out.below c5) hr.out hl8 hN1 (by omega)).mono ?_
    rintro e w6 ⟨yv, xv, uv, ev, rfl, b6, hp6⟩
    have c6 := Below.step c5 b6
    replace hp6 := Lib.hid hp6
    clear z0 z1 z2
    obtain ⟨⟨z0, z1, z2⟩, -, -, -⟩ := q.below c6
    go_upto_region 11 with fail
    go_wp2_with fail
    refine (rings_ok r K R N va vn vc T w6 (hg.out.below c6) (h.out.below c6) hr.out hl8 hN1 (by omega)).mono ?_
    rintro e w7 ⟨yv2, xv2, uv2, ev2, rfl, b7, hp7⟩
    obtain ⟨rfl, rfl, X, Y, lX, lY, k3, k4⟩ := RPost.two hpw.out hp6.out hp7
    clear hp6 hp7
    have c7 := Below.step c6 b7
    have oX := (k3.own 0 (by simp)).at
    have oY := (k3.own 1 (by simp)).at
    have oU := (k4.own 0 (by simp)).at
    have oV := (k4.own 1 (by simp)).at
    obtain ⟨x1, x2, x3, hx⟩ := oX.shape
    obtain ⟨y1, y2, y3, hy⟩ := oY.shape
    obtain ⟨u1, u2, u3, hu⟩ := oU.shape
    obtain ⟨v1, v2, v3, hv⟩ := oV.shape
    obtain rfl : xv = .slice x1 x2 x3 := hx
    obtain rfl : uv = .slice y1 y2 y3 := hy
    obtain rfl : xv2 = .slice u1 u2 u3 := hu
    obtain rfl : uv2 = .slice v1 v2 v3 := hv
    change IntsAt w6 (.slice x1 x2 x3) X at oX
    change IntsAt w6 (.slice y1 y2 y3) Y at oY
    change IntsAt w7 (.slice u1 u2 u3) X at oU
    change IntsAt w7 (.slice v1 v2 v3) Y at oV
    replace oX := Lib.hid oX
    replace oY := Lib.hid oY
    replace oU := Lib.hid oU
    replace oV := Lib.hid oV
    replace k3 := Lib.hid k3
    replace k4 := Lib.hid k4
    have d57 := Below.step b6 b7
    have d37 := Below.step b4a d57
    have d47 := Below.step bx4 d57
    have d27 := Below.step bx2 d37
    clear z0 z1 z2
    obtain ⟨p0, p1, p2, p3⟩ := yA.below d37
    obtain ⟨s0, s1, s2, s3⟩ := yC.below d57
    go_upto_region 12 with fail
    go_wp2_with fail
    refine (raw_rows 0 aL1 aL2 aL3 aC1 aC2 aC3 aQ1 aQ2 aQ3 cL1 cL2 cL3 cC1 cC2 cC3 cQ1 cQ2 cQ3 _ _ _ w7 (oaL.out.below d27) (oaC.out.below d27) (oaQ.out.below d27) (ocL.out.below d47) (ocC.out.below d47) (ocQ.out.below d47)).mono ?_
    rintro e w8 ⟨_, rfl, b8, rfl⟩
    have c8 := Below.step c7 b8
    have d58 := Below.step d57 b8
    have d38 := Below.step d37 b8
    have d48 := Below.step d47 b8
    have d28 := Below.step d27 b8
    clear p0 p1 p2 p3 s0 s1 s2 s3
    obtain ⟨p0, p1, p2, p3⟩ := yB.below d38
    obtain ⟨s0, s1, s2, s3⟩ := yD.below d58
    go_wp2_with fail
    refine (raw_rows 0 bL1 bL2 bL3 bC1 bC2 bC3 bQ1 bQ2 bQ3 dL1 dL2 dL3 dC1 dC2 dC3 dQ1 dQ2 dQ3 _ _ _ w8 (obL.out.below d28) (obC.out.below d28) (obQ.out.below d28) (odL.out.below d48) (odC.out.below d48) (odQ.out.below d48)).mono ?_
    rintro e w9 ⟨_, rfl, b9, rfl⟩
    have d79 := Below.step b8 b9
    have d69 := Below.step b7 d79
    clear p0 p1 p2 p3 s0 s1 s2 s3
    go_wp2_with fail
    refine (ints_any _ _ X X w9 (oX.out.below d69) (oU.out.below d79)).mono ?_
    rintro e w10 h10
    obtain ⟨rfl, b10⟩ := h10.below
    clear h10
    rw [show decide (X = X) = true from decide_eq_true rfl]
    have d6A := Below.step d69 b10
    have d7A := Below.step d79 b10
    go_wp2_with fail
    refine (ints_any _ _ Y Y w10 (oY.out.below d6A) (oV.out.below d7A)).mono ?_
    rintro e w11 h11
    obtain ⟨rfl, b11⟩ := h11.below
    clear h11
    rw [show decide (Y = Y) = true from decide_eq_true rfl]
    have d7B := Below.step d7A b11
    have d5B := Below.step d57 d7B
    have d3B := Below.step d37 d7B
    have d4B := Below.step bx4 d5B
    have d2B := Below.step bx2 d3B
    have d6B := Below.step d6A b11
    have c11 := Below.step c7 d7B
    have bB := Below.step b0 c11
    obtain ⟨p0, p1, p2, p3⟩ := yA.below d3B
    obtain ⟨p4, p5, p6, p7⟩ := yB.below d3B
    obtain ⟨s0, s1, s2, s3⟩ := yC.below d5B
    obtain ⟨s4, s5, s6, s7⟩ := yD.below d5B
    have z12 := b2.size
    have z24 : w2.heap.size ≤ w3.heap.size := bx2.size
    have z34 := b4.size
    have z45 : w4.heap.size ≤ w5.heap.size := bx4.size
    have z56 := b6.size
    have z67 := b7.size
    have z7B := d7B.size
    have kk := Kin.append (Kin.append k1.out (Below.step bx2 b4) z24 k2.out (by omega)) (Below.step bx4 b6) z45 k3.out (by omega)
    have kk2 := (Kin.append kk b7 (Nat.le_refl _) k4.out (by omega)).below d7B
    have hap := apart_litQ _ _ w1.heap.size w11 kk2 (by omega) (by simp) (ik_short lL lC lQ (by omega) (by omega)) _ rfl 16 rfl
    replace hap := Lib.hid hap
    have bA := belowAlloc w11
    clear kk kk2 k1 k2 k3 k4 z12 z24 z34 z45 z56 z67 yA yB yC yD
    go_wp2_with fail
    refine hap.out.mono ?_
    rintro e w12 ⟨rfl, b12⟩
    have s01 := Nat.le_trans b0.size b1.size
    have bF := (bB.trans ((bA _).mono (Nat.le_trans bB.size (Nat.le_refl _)))).trans (b12.mono s01)
    clear p0 p1 p2 p3 p4 p5 p6 p7 s0 s1 s2 s3 s4 s5 s6 s7
    go_wp2
    go_ret
    exact ⟨_, rfl, bF, rfl⟩

theorem injectKeeps_any (r : Nat → Addr) (k R : Int) (tv : Value) (T : List Int) (n : Int) (w : World) (hg : Glob r w) (h : IntsAt w tv T) :
    Calls Tryz.prog 4 #[.agg #[.int .i64 k, .int .i64 R, tv], .int .i64 n] w (Ret1 (fun x _ => x = .bool true) w) := by
  obtain ⟨va, vn, vc, rfl⟩ := h.shape
  by_cases hl : 32 < T.length
  · exact ik_long r k R va vn vc T n w hg h hl
  · cases hc : smallP k R T with
    | some t => exact ik_bad r k R va vn vc T t n w hg h (by omega) hc
    | none =>
      obtain ⟨hck, -⟩ := smallP_none hc
      obtain ⟨K, Q, rfl, rfl, hr⟩ := checkP_none hck
      exact ik_ok r K Q va vn vc T n w hg h (by omega) hr
end Go.Proofs.YtilpckngghffoaaGreatDoor

namespace Go.Proofs.YtilpckngghffoaaGreatDoor
open Go.ChangeShapes Go.WideShapes Go.ChangeAt Go.RowKit Go.Joins
set_option maxRecDepth 100000

theorem own : ownKnob Tryz.prog.godebug = none := by kernel_rfl
theorem laidOut : laidOutB Tryz.prog = true := by kernel_rfl
theorem cellsInt : Tryz.prog.cellsOf 3 = 1 := by kernel_rfl
theorem uInt : Tryz.prog.underlying 3 = some (.int .i64) := by kernel_rfl
theorem bytesInt : Tryz.prog.bytesOf 3 = 8 := by kernel_rfl

theorem i64_of_wf {n : Int} (h : (Lit.int .i64 n).wf = true) : I64 n := by
  have := bounds_i64 h
  unfold I64
  omega

/-- A []int that came in. -/
theorem open_intsV {H : Type} {enc : TypeId × Value → H} {W : World} {held : Bool} {fuel : Nat} {v : Value} {y : DataW H × List MemPlace}
    (h : DataW.trod enc Tryz.prog W 0 (fun _ => true) held fuel 22 [v] = some y) (hw : ∀ n ∈ y.1.weights Tryz.prog 22, n ≤ reachBytes) :
    ∃ xs, IntsAt W v xs ∧ xs.length ≤ 17592186043904 ∧ ∀ x ∈ xs, I64 x := by
  rcases open_ints uInts uInt cellsInt h with ⟨hcs, _⟩ | ⟨a, len, cap, zs, hcs, _, hl, hm, hz, hx, hcell, hwz⟩
  · simp at hcs
    subst hcs
    exact ⟨[], (OwnI.nil 0 W).at, by simp, by simp⟩
  · simp at hcs
    subst hcs
    simp only [if_true] at hz
    have hzl : (zs.take len).length = len := by simp; omega
    refine ⟨zs.take len, ⟨some a, cap, by rw [hzl], by rw [hzl]; exact hl, hm, (fun e => by cases e), fun i hi => ?_⟩, ?_, fun x hx => i64_of_wf (hwz x (List.mem_of_mem_take hx))⟩
    · have hi' : i < zs.length := by rw [hzl] at hi; omega
      show W.cell? (a.add i) = _
      rw [hcell i hi']
      simp [List.getD, hi']
    · rw [hx] at hw
      have := hw ((lits (H := H) .i64 (zs.take len)).length * 8 + (lits (H := H) .i64 (zs.drop len)).length * 8) (by
        simp only [DataW.weights, uInts, bytesInt, List.mem_cons]
        left; omega)
      simp only [lits, List.length_map, reachBytes] at this
      omega

theorem weights_each3 {H : Type} {t0 t1 t2 : TypeId} {y0 y1 y2 : DataW H} {n : Nat} (h : n ∈ y2.weights Tryz.prog t2) : n ∈ DataW.weightsEach Tryz.prog [t0, t1, t2] [y0, y1, y2] := by
  simp only [DataW.weightsEach, List.mem_append]
  exact .inr (.inr (.inl h))

/-- A rule that came in. -/
theorem open_ruleV {H : Type} {enc : TypeId × Value → H} {W : World} {held : Bool} {v : Value} {d : DataW H} {p : List MemPlace} {b0 : Nat}
    (hv : Value.okWide Tryz.prog W .any b0 24 v) (h : DataW.Trod enc Tryz.prog W 0 (fun _ => true) held 24 v d p) (hw : ∀ n ∈ d.weights Tryz.prog 24, n ≤ reachBytes) :
    ∃ (k R : Int) (u : Value) (xs : List Int), v = .agg #[.int .i64 k, .int .i64 R, u] ∧ IntsAt W u xs ∧ xs.length ≤ 17592186043904 ∧ (∀ x ∈ xs, I64 x) ∧ I64 k ∧ I64 R := by
  obtain ⟨v0, v1, v2, y0, y1, y2, n, rfl, rfl, rfl, h0, h1, h2⟩ := open_agg3 Tryz.underlying24 (by kernel_rfl) (by kernel_rfl) hv h
  obtain ⟨a, e0, _, wa⟩ := DataW.trod_int uInt h0
  obtain ⟨b, e1, _, wb⟩ := DataW.trod_int uInt h1
  simp at e0 e1
  subst e0 e1
  obtain ⟨xs, hx, hl, hb⟩ := open_intsV h2 fun n hn => hw n (by
    simp only [DataW.weights, Tryz.underlying24]
    exact weights_each3 (t0 := 3) (t1 := 3) (t2 := 22) hn)
  exact ⟨a, b, v2, xs, rfl, hx, hl, hb, i64_of_wf wa, i64_of_wf wb⟩

/-! The package-level errors. -/
theorem star : "*" ++ "errors.errorString" = "*errors.errorString" := by decide
theorem rowES (u : TypeId) (h : Tryz.prog.typeName? 3 u = some "*errors.errorString") : u = 238 :=
  typeName_ptr_named (nm := "errors.errorString") (by rw [star]; kernel_rfl) (by kernel_rfl) (by decide) u (by rw [star]; exact h)
theorem pES : Tryz.prog.underlying 238 = some (.pointer 259) := by kernel_rfl
theorem cES : Tryz.prog.cellsOf 259 = 1 := by kernel_rfl
theorem cStr : Tryz.prog.cellsOf 9 = 1 := by kernel_rfl

def laid12 : List (String × DataW Unit) := [("eden/api.BadRule", Rows.laid_eden_api_BadRule), ("eden/api.BadWord", Rows.laid_eden_api_BadWord), ("eden/api.BadArg", Rows.laid_eden_api_BadArg), ("eden/api.TooBig", Rows.laid_eden_api_TooBig), ("eden/api.NoBudget", Rows.laid_eden_api_NoBudget), ("eden/api.BadText", Rows.laid_eden_api_BadText), ("eden/api.BadPatch", Rows.laid_eden_api_BadPatch), ("eden/api.BadCert", Rows.laid_eden_api_BadCert), ("eden/api.NoInverse", Rows.laid_eden_api_NoInverse), ("eden/api.BadLine", Rows.laid_eden_api_BadLine), ("eden/api.BadState", Rows.laid_eden_api_BadState), ("eden/api.Unknown", Rows.laid_eden_api_Unknown)]

theorem sentinel {n : String} {text : List UInt8} {r : List (String × DataW Unit)} {W : World} {g : Nat}
    (h : laidMet Tryz.prog ((n, .iface "*errors.errorString" (.ptr (.agg [.lit (.string text)]))) :: r) W)
    (hg : Tryz.prog.globalNamed n = some g) (ht : (Tryz.prog.globals[g]?).map (·.type) = some 28) :
    (∃ a : Addr, W.cell? ⟨g, 0, none⟩ = some (.iface 238 (.pointer (some a))) ∧ ∃ s, W.cell? a = some (.string s) ∧ s.data.toList = text) ∧ laidMet Tryz.prog r W := by
  refine ⟨?_, h.tail⟩
  obtain ⟨a, s, hv, hc, hs, _⟩ := laid_sentinel h hg ht Tryz.underlying28 rowES pES Tryz.underlying259 rfl rfl Tryz.underlying9 cES cStr
  exact ⟨a, by simpa using World.var?_cell hg hv 0, s, hc, hs⟩

def txt : Nat → List UInt8
  | 1 => [98, 97, 100, 32, 114, 117, 108, 101]
  | 2 => [98, 97, 100, 32, 119, 111, 114, 100]
  | 3 => [98, 97, 100, 32, 97, 114, 103, 117, 109, 101, 110, 116]
  | 4 => [116, 111, 111, 32, 98, 105, 103]
  | 5 => [110, 111, 32, 98, 117, 100, 103, 101, 116]
  | 6 => [98, 97, 100, 32, 116, 101, 120, 116]
  | 7 => [98, 97, 100, 32, 112, 97, 116, 99, 104]
  | 8 => [98, 97, 100, 32, 99, 101, 114, 116, 105, 102, 105, 99, 97, 116, 101]
  | 9 => [110, 111, 32, 105, 110, 118, 101, 114, 115, 101]
  | 10 => [98, 97, 100, 32, 108, 105, 110, 101]
  | 11 => [98, 97, 100, 32, 115, 116, 97, 116, 101]
  | 99 => [117, 110, 107, 110, 111, 119, 110]
  | _ => []
theorem txt_apart : ∀ m n : Fin 12, 1 ≤ m.val → 1 ≤ n.val → txt m.val = txt n.val → m = n := by decide

theorem glob_of_laid {W : World} (h : laidMet Tryz.prog laid12 W) : ∃ r, Glob r W := by
  obtain ⟨⟨a1, c1, s1, e1, t1⟩, h⟩ := sentinel (text := txt 1) h (g := 0) (by kernel_rfl) (by kernel_rfl)
  obtain ⟨⟨a2, c2, s2, e2, t2⟩, h⟩ := sentinel (text := txt 2) h (g := 1) (by kernel_rfl) (by kernel_rfl)
  obtain ⟨⟨a3, c3, s3, e3, t3⟩, h⟩ := sentinel (text := txt 3) h (g := 2) (by kernel_rfl) (by kernel_rfl)
  obtain ⟨⟨a4, c4, s4, e4, t4⟩, h⟩ := sentinel (text := txt 4) h (g := 3) (by kernel_rfl) (by kernel_rfl)
  obtain ⟨⟨a5, c5, s5, e5, t5⟩, h⟩ := sentinel (text := txt 5) h (g := 4) (by kernel_rfl) (by kernel_rfl)
  obtain ⟨⟨a6, c6, s6, e6, t6⟩, h⟩ := sentinel (text := txt 6) h (g := 5) (by kernel_rfl) (by kernel_rfl)
  obtain ⟨⟨a7, c7, s7, e7, t7⟩, h⟩ := sentinel (text := txt 7) h (g := 6) (by kernel_rfl) (by kernel_rfl)
  obtain ⟨⟨a8, c8, s8, e8, t8⟩, h⟩ := sentinel (text := txt 8) h (g := 7) (by kernel_rfl) (by kernel_rfl)
  obtain ⟨⟨a9, c9, s9, e9, t9⟩, h⟩ := sentinel (text := txt 9) h (g := 8) (by kernel_rfl) (by kernel_rfl)
  obtain ⟨⟨a10, c10, s10, e10, t10⟩, h⟩ := sentinel (text := txt 10) h (g := 9) (by kernel_rfl) (by kernel_rfl)
  obtain ⟨⟨a11, c11, s11, e11, t11⟩, h⟩ := sentinel (text := txt 11) h (g := 10) (by kernel_rfl) (by kernel_rfl)
  obtain ⟨⟨a99, c99, s99, e99, t99⟩, h⟩ := sentinel (text := txt 99) h (g := 11) (by kernel_rfl) (by kernel_rfl)
  clear h
  have key : ∀ n : Nat, (1 ≤ n ∧ n ≤ 11) ∨ n = 99 → ∃ s, W.cell? ((fun n : Nat => match n with | 1 => a1 | 2 => a2 | 3 => a3 | 4 => a4 | 5 => a5 | 6 => a6 | 7 => a7 | 8 => a8 | 9 => a9 | 10 => a10 | 11 => a11 | _ => a99) n) = some (.string s) ∧ s.data.toList = txt n := by
    intro n hn
    have : n = 1 ∨ n = 2 ∨ n = 3 ∨ n = 4 ∨ n = 5 ∨ n = 6 ∨ n = 7 ∨ n = 8 ∨ n = 9 ∨ n = 10 ∨ n = 11 ∨ n = 99 := by omega
    rcases this with rfl | rfl | rfl | rfl | rfl | rfl | rfl | rfl | rfl | rfl | rfl | rfl
    · exact ⟨s1, e1, t1⟩
    · exact ⟨s2, e2, t2⟩
    · exact ⟨s3, e3, t3⟩
    · exact ⟨s4, e4, t4⟩
    · exact ⟨s5, e5, t5⟩
    · exact ⟨s6, e6, t6⟩
    · exact ⟨s7, e7, t7⟩
    · exact ⟨s8, e8, t8⟩
    · exact ⟨s9, e9, t9⟩
    · exact ⟨s10, e10, t10⟩
    · exact ⟨s11, e11, t11⟩
    · exact ⟨s99, e99, t99⟩
  refine ⟨(fun n : Nat => match n with | 1 => a1 | 2 => a2 | 3 => a3 | 4 => a4 | 5 => a5 | 6 => a6 | 7 => a7 | 8 => a8 | 9 => a9 | 10 => a10 | 11 => a11 | _ => a99), c1, c2, c3, c4, c5, c6, c7, c8, c9, c10, c11, c99, (fun n hn => ?_), fun m n hm1 hm2 hn1 hn2 he => ?_⟩
  · obtain ⟨s, hs, _⟩ := key n hn
    exact ⟨s, hs⟩
  · obtain ⟨s, hs, ts⟩ := key m.toNat (by omega)
    obtain ⟨s', hs', ts'⟩ := key n.toNat (by omega)
    have hss : s = s' := by
      have := hs.symm.trans ((congrArg W.cell? he).trans hs')
      simpa using this
    subst hss
    have := txt_apart ⟨m.toNat, by omega⟩ ⟨n.toNat, by omega⟩ (by simp; omega) (by simp; omega) (ts.symm.trans ts')
    have := congrArg Fin.val this
    simp at this
    omega
end Go.Proofs.YtilpckngghffoaaGreatDoor

namespace Go.Proofs.YtilpckngghffoaaGreatDoor
open Go.ChangeShapes Go.WideShapes Go.ChangeAt Go.RowKit Go.Joins
namespace InjectKeepsP

set_option maxRecDepth 100000 in
theorem door_met (os : Os) (args : Array Value) : laidMetH Tryz.prog Rows.injectKeepsRow.laid ((World.doorLaid Tryz.prog 400 os).forCall (fun _ _ => 0) ⟨#[], args, []⟩).memory :=
  laidMetH_of_parts3 (fuel := 8) (laidMet_of_run' 8 (by kernel_rfl) (by kernel_rfl)) (by kernel_rfl) (by kernel_rfl)

set_option maxRecDepth 100000 in
theorem lifted (os : Os) (started : os.Started) (H : Type) (enc : TypeId × Value → H) :
    ReturnsInHanded {} Tryz.checked os 4 .any (fun w args => (Rows.injectKeepsSpec.pre enc Tryz.prog Tryz.f4 [] false w args ∧ laidMetH Tryz.prog Rows.injectKeepsRow.laid w) ∧ sizedMet enc Tryz.prog Tryz.f4 (OpenSpec.ofChange Rows.injectKeepsSpec) false w args)
      (Rows.injectKeepsSpec.post enc Tryz.prog Tryz.f4 false true false false) := by
  refine returnsInHanded_of_change_and (C := Tryz.checked) (X := fun w _ => laidMetH Tryz.prog Rows.injectKeepsRow.laid w) (fun _ _ _ hh h => h.of_heap hh) own started (by kernel_rfl) Tryz.func4
    (ChangeSpec.witness_shaped (enc := enc) (C := Tryz.checked) (os := os) (X := fun w _ => laidMetH Tryz.prog Rows.injectKeepsRow.laid w) false (World.doorLaid Tryz.prog 400 os) #[.agg #[.int .i64 0, .int .i64 0, .slice none 0 0], .int .i64 0] 8 rfl (World.shaped_of_RefB (by kernel_rfl) (by kernel_rfl)) (by kernel_rfl) (by kernel_rfl) (by kernel_rfl) (door_met os _)) ?_
  intro W base args ds gs before hval0 hW _ hsz hL _
  have hval : ∀ (j : Nat) t v, Tryz.f4.params[j]? = some t → args[j]? = some v → Value.okWide Tryz.prog W .any base t v := hval0
  have hW' := hW
  obtain ⟨p, q, hA0, hV, rfl, hfz, hnd⟩ := hW
  have hA : DataW.TrodAll enc Tryz.prog W 0 (fun _ => true) true Tryz.f4.params.toList args.toList ds p := hA0
  rw [Tryz.params4] at hA hval hsz
  obtain ⟨v0, vs0, d0, ds0, p0, q0, hargs, rfl, rfl, g0, t0⟩ := trodAll_cons hA
  obtain ⟨v1, vs1, d1, ds1, p1, q1, rfl, rfl, rfl, g1, t1⟩ := trodAll_cons t0
  obtain ⟨rfl, rfl, rfl⟩ := trodAll_nil t1
  obtain rfl : args = #[v0, v1] := by cases args; simp_all
  obtain ⟨rfl, rfl⟩ := trodVars_none hV
  have kk0 := g0
  have lt0 : ∀ x ∈ p0, x.block < W.heap.size := by obtain ⟨m, hm⟩ := kk0; exact DataW.trod_lt m _ _ _ hm
  obtain ⟨kr0, rr0, u0, x0, rfl, h0, l0, b0, bk0, br0⟩ := open_ruleV (hval 0 24 v0 rfl rfl) g0 (fun n hn => by
    have := List.all_eq_true.1 hsz n (DataW.weights_mem_each (j := 0) (t := 24) rfl rfl n hn)
    simpa using this)
  obtain ⟨k1, rfl, rfl, rfl, w1⟩ := open_int uInt (hval 1 3 v1 rfl rfl) g1
  have b1 := i64_of_wf w1
  obtain ⟨r, hg⟩ := glob_of_laid (W := W) (by
    rw [MakeChecks.laidMetH_plain _ _ _ (by kernel_rfl)] at hL
    exact hL)
  clear hA0 hval0
  refine (injectKeeps_any r kr0 rr0 u0 x0 k1 W hg h0).mono fun e W' ⟨x, he, bel, hxx⟩ => ?_
  subst he; subst hxx
  exact ⟨_, rfl, _, _, _, [], _, [], hW', trodAll_mk1 (shut_bool Tryz.underlying4 _), (trodAll_cons_mk (Below.trod laidOut (by kernel_rfl) (of_decide_eq_true (by kernel_rfl)) kk0 bel lt0) (trodAll_cons_mk (shut_int uInt w1) trodAll_mk0)), rfl, bel.frame _, fun h => by cases h⟩

theorem over : Rows.InjectKeepsSaid :=
  OpenClaim.holds_of_wide 4 Tryz.f4 rfl rfl rfl rfl rfl rfl rfl ⟨rfl, rfl, rfl, rfl, rfl⟩ rfl rfl rfl rfl rfl (by kernel_rfl) Tryz.func4 (by kernel_rfl)
    (of_decide_eq_true (by kernel_rfl)) (by unfold Func.isWrapper; first | (rw [if_pos (by decide +kernel)]; kernel_rfl) | (rw [if_neg (by decide +kernel)]; exact ⟨rfl, rfl⟩))
    (fun os started H enc _ => lifted os started H enc)

/-- The tied card. -/
theorem card_holds : Rows.InjectKeepsCardSaid :=
  Claim7.holds_tied_plain_at .later [] [.sentinel, .sentinel, .sentinel, .sentinel, .sentinel, .sentinel, .sentinel, .sentinel, .sentinel, .sentinel, .sentinel, .sentinel] true _ _
    over (fun _ h => by cases h) (by kernel_rfl) (fun _ h => by cases h) injectKeeps_row_tie rfl ⟨rfl, rfl⟩ (by kernel_rfl) rfl
    (fun f fn hf hfn => by
      obtain rfl : f = 4 := Option.some.inj ((show Tryz.prog.funcNamed Rows.injectKeepsRow.func = some 4 by kernel_rfl).symm.trans hf) |>.symm
      obtain rfl : fn = Tryz.f4 := (Option.some.inj (Tryz.func4.symm.trans hfn)).symm
      exact ⟨by kernel_rfl, fun j t ht => by
        rw [Tryz.params4] at ht
        have hm : t ∈ [24, 3] := by simpa using Array.mem_of_getElem? ht
        have hall : ([24, 3].all fun u => !Tryz.prog.wantsStandIn u) = true := by kernel_rfl
        exact (show Tryz.prog.wantsStandIn t = false by simpa using List.all_eq_true.1 hall t hm)⟩)
    (by kernel_rfl)
end InjectKeepsP
#print axioms InjectKeepsP.card_holds
end Go.Proofs.YtilpckngghffoaaGreatDoor
