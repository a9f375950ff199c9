/-
  Proved: the law edenlaw15.TwinsChecks as its tied card: it returns true and never panics, for any rule and any two lists. No conditions beyond the card's own.
  Walks: edenraw.LentRule, KeptRule.
  Walk: edenlaw15.TwinsChecks returns true.
  Opening what a call is handed: []int, api.Rule, the package-level errors.
  From a card's list of laid variables that holds the handle of the type error: the package errors and errors.errorType.
-/
import Derived.Test.YtmhiambkfdkkbaaGreatDoorMTc9
import Derived.Deep.RegionHeld3
import Derived.Test.YtmhiambkfdkkbaaGreatDoorRows
import Derived.ProofKit
import Derived.OpenShut
import Derived.ShutString
import Derived.ChangeOld
import Derived.LaidMore
import Derived.Stop.Joined
import Derived.Stop.LaidErr
import Derived.Lib.SmallJoins
import Derived.LaidHandle
import Derived.Test.YtmhiambkfdkkbaaGreatDoorCards
import Derived.Test.YtmhiambkfdkkbaaGreatDoorTie
import Derived.SevenTiedAt
namespace Go.Proofs.YtmhiambkfdkkbaaGreatDoor
open Go.RowKit
set_option maxRecDepth 100000

theorem LentI.setBelow {B : Nat} {w : World} {m : Value} {xs : List Int} (h : LentI B w m xs) {a : Addr} (ha : a.block < B) (u : Value) : LentI B (w.setCell a u) m xs := by
  obtain ⟨v, e, ho⟩ := h
  exact ⟨v, e, ho.setBelowBase ha u⟩
theorem LentI.mono {B B' : Nat} {w : World} {m : Value} {xs : List Int} (h : LentI B w m xs) (hB : B' ≤ B) : LentI B' w m xs := by
  obtain ⟨v, e, ho⟩ := h
  exact ⟨v, e, ho.mono hB⟩

theorem lentRule_any (k R : Int) (va : Option Addr) (vn vc : Nat) (T : List Int) (w : World) (h : IntsAt w (.slice va vn vc) T) (hl : T.length ≤ 17592186044414) :
    Calls Tryz.prog 11 #[.agg #[.int .i64 k, .int .i64 R, .slice va vn vc]] w (Ret1 (fun x w' => ∃ a n c, x = .agg #[.int .i64 k, .int .i64 R, .slice a n c] ∧ LentI w.heap.size w' (.slice a n c) T) w) := by
  have b0 := Below.step (belowAlloc w (.cells #[.int .i64 k, .int .i64 R, .slice va vn vc] 24)) (belowAlloc _ (.cells #[.int .i64 0, .int .i64 0, .slice none 0 0] 24))
  have q6 : Box3 ((w.alloc (.cells #[.int .i64 k, .int .i64 R, .slice va vn vc] 24)).alloc (.cells #[.int .i64 0, .int .i64 0, .slice none 0 0] 24)) w.heap.size (.int .i64 k) (.int .i64 R) (.slice va vn vc) := by simp [Box3, go_sem]
  have q7 : Box3 ((w.alloc (.cells #[.int .i64 k, .int .i64 R, .slice va vn vc] 24)).alloc (.cells #[.int .i64 0, .int .i64 0, .slice none 0 0] 24)) (w.heap.size + 1) (.int .i64 0) (.int .i64 0) (.slice none 0 0) := by simp [Box3, go_sem]
  replace h := Lib.hid (h.below b0)
  go_enter Tryz.func11, Tryz.ntmps11
  go_wp2
  have hWs : w.heap.size + 2 ≤ ((w.alloc (.cells #[.int .i64 k, .int .i64 R, .slice va vn vc] 24)).alloc (.cells #[.int .i64 0, .int .i64 0, .slice none 0 0] 24)).heap.size := by simp
  obtain ⟨W, hW⟩ : ∃ W : World, W = ((w.alloc (.cells #[.int .i64 k, .int .i64 R, .slice va vn vc] 24)).alloc (.cells #[.int .i64 0, .int .i64 0, .slice none 0 0] 24)) := ⟨_, rfl⟩
  rw [← hW] at b0 q6 q7 h hWs ⊢
  clear hW
  have q6' := q6
  obtain ⟨⟨z0, z1, z2⟩, -, -, -⟩ := q6'
  go_region_held3 (fun w' => w'.cell? ⟨w.heap.size, 0, none⟩ = some (.int .i64 k) ∧ w'.cell? ⟨w.heap.size, 1, none⟩ = some (.int .i64 R) ∧ w'.cell? ⟨w.heap.size, 2, none⟩ = some (.slice va vn vc)) (first | exact ⟨z0, z1, z2⟩ | exact ⟨s0, s1, s2⟩ | (simp [s0, s1, s2, World.cell?_setCell_far]; done))
    (first | (go_at_call 12; refine (lent_any (.slice va vn vc) T _ ?_ hl).mono ?_
              · exact h.out.drew
              rintro e w1 ⟨x, rfl, b1, hx⟩
              have b1' : Below W.heap.size W w1 := (Below.refl W.heap.size W).drew.trans b1
              obtain ⟨a, n, c, rfl⟩ := hx.at.shape
              have s0 := cell_keep b1' z0
              have s1 := cell_keep b1' z1
              have s2 := cell_keep b1' z2
              have q7n := q7.below b1'
              obtain ⟨⟨y0, y1, y2⟩, g0, g1, g2⟩ := q7n))
  have hE := Lib.hid (((hx.setBelow (a := ⟨w.heap.size + 1, 0, none⟩) (show w.heap.size + 1 < W.heap.size by omega) (.int .i64 k)).setBelow (a := ⟨w.heap.size + 1, 1, none⟩) (show w.heap.size + 1 < W.heap.size by omega) (.int .i64 R)).setBelow (a := ⟨w.heap.size + 1, 2, none⟩) (show w.heap.size + 1 < W.heap.size by omega) (.slice a n c))
  have hBf := Lib.hid (below_set3 (Below.stepL b0 b1') (Nat.le_succ w.heap.size) (.int .i64 k) (.int .i64 R) (.slice a n c))
  clear hx b1 b1'
  go_wp2
  exact bodyPost_ret (v := .agg #[.int .i64 k, .int .i64 R, .slice a n c]) (by simp [results, Tryz.results11, go_sem, y0, y1, y2]) rfl ⟨_, rfl, hBf.out, a, n, c, rfl, hE.out.mono (show w.heap.size ≤ W.heap.size by omega)⟩

/-- edenraw.KeptRule at a lent rule. -/
theorem keptRule_any (B : Nat) (k R : Int) (a : Option Addr) (n c : Nat) (va : Option Addr) (vn vc : Nat) (T : List Int) (w : World) (h : LentI B w (.slice a n c) T) (h' : IntsAt w (.slice va vn vc) T) (hl : T.length ≤ 17592186044414) :
    Calls Tryz.prog 16 #[.agg #[.int .i64 k, .int .i64 R, .slice a n c], .agg #[.int .i64 k, .int .i64 R, .slice va vn vc]] w (Ret1 (fun x _ => x = .bool true) w) := by
  have b0 := Below.step (belowAlloc w (.cells #[.int .i64 k, .int .i64 R, .slice a n c] 24)) (belowAlloc _ (.cells #[.int .i64 k, .int .i64 R, .slice va vn vc] 24))
  replace h := Lib.hid (h.below b0)
  replace h' := Lib.hid (h'.below b0)
  have e1 : (k == k) = true := by simp
  have e2 : (R == R) = true := by simp
  go_enter Tryz.func16, Tryz.ntmps16
  go_wp2_with fail
  refine (kept_any B _ _ T _ h.out h'.out hl).mono ?_
  rintro e w1 h1
  obtain ⟨rfl, b1⟩ := h1.below
  have hB := Lib.hid (Below.step b0 b1)
  clear h1
  go_wp2
  go_ret
  exact ⟨_, rfl, hB.out, rfl⟩
end Go.Proofs.YtmhiambkfdkkbaaGreatDoor

namespace Go.Proofs.YtmhiambkfdkkbaaGreatDoor
open Go.RowKit
set_option maxRecDepth 100000

/-- What both answer. -/
def tckP (k R : Int) (T a b : List Int) : PErr :=
  match smallP k R T with
  | some t => under sTwins 0 (some t)
  | none => twinsP sTwins k R.toNat (imgP k.toNat R.toNat T) a b
theorem twinsP_fine (k : Int) (R : Nat) (f : List Int → List Int) (a b : List Int) : (twinsP sTwins k R f a b).Fine := by
  unfold twinsP
  split
  · exact ⟨by decide, by decide, by decide⟩
  split
  · exact ⟨by decide, by decide, by simp⟩
  split
  · exact ⟨by decide, by decide, by simp⟩
  split
  · exact ⟨by decide, by decide, by decide⟩
  split
  · exact ⟨by decide, by decide, by decide⟩
  split
  · exact ⟨by decide, by decide, by decide⟩
  · trivial
theorem tckP_fine (k R : Int) (T a b : List Int) : (tckP k R T a b).Fine := by
  unfold tckP
  cases h : smallP k R T with
  | some t =>
    obtain ⟨n, l⟩ := t
    have := smallP_num h
    refine ⟨by omega, by omega, ?_⟩
    simp only [List.length_cons]
    omega
  | none => exact twinsP_fine _ _ _ _ _
theorem tcheck_any (r : Nat → Addr) (k R : Int) (va : Option Addr) (vn vc : Nat) (T : List Int) (u : Value) (a : List Int) (v : Value) (b : List Int) (w : World) (hg : Glob r w) (h : IntsAt w (.slice va vn vc) T) (hu : IntsAt w u a) (hv : IntsAt w v b) :
    Calls Tryz.prog 14 #[.agg #[.int .i64 k, .int .i64 R, .slice va vn vc], u, v] w (Ret1 (fun x w' => ErrIs r w' (tckP k R T a b) x) w) := by
  unfold tckP
  cases hc : smallP k R T with
  | some t => exact tcheck_bad r k R va vn vc T u v t w hg h hc
  | none =>
    obtain ⟨hck, hl⟩ := smallP_none hc
    obtain ⟨K, Q, rfl, rfl, hr⟩ := checkP_none hck
    exact tcheck_ok r K Q va vn vc T u a v b w hg h hr hl hu hv
theorem ref15c_any (k R : Int) (va : Option Addr) (vn vc : Nat) (T : List Int) (u : Value) (a : List Int) (v : Value) (b : List Int) (w : World) (h : IntsAt w (.slice va vn vc) T) (hu : IntsAt w u a) (hv : IntsAt w v b) :
    Calls Tryz.prog 15 #[.agg #[.int .i64 k, .int .i64 R, .slice va vn vc], u, v] w (Ret1 (fun x w' => EOwn w.heap.size w' (tckP k R T a b) x) w) := by
  unfold tckP
  cases hc : smallP k R T with
  | some t => exact ref15c_bad k R va vn vc T u v t w h hc
  | none =>
    obtain ⟨hck, hl⟩ := smallP_none hc
    obtain ⟨K, Q, rfl, rfl, hr⟩ := checkP_none hck
    exact ref15c_ok K Q va vn vc T u a v b w h hr hl hu hv

set_option maxHeartbeats 4000000 in
theorem twinsChecks_any (r : Nat → Addr) (k R : Int) (tv : Value) (T : List Int) (u : Value) (a : List Int) (v : Value) (b : List Int) (w : World) (hg : Glob r w) (hG : GlobE w) (h : IntsAt w tv T) (hu : IntsAt w u a) (hv : IntsAt w v b) (lT : T.length ≤ 17592186043904) (la : a.length ≤ 17592186043904) (lb : b.length ≤ 17592186043904) :
    Calls Tryz.prog 3 #[.agg #[.int .i64 k, .int .i64 R, tv], u, v] w (Ret1 (fun x _ => x = .bool true) w) := by
  obtain ⟨va, vn, vc, rfl⟩ := h.shape
  obtain ⟨ua, un, uc, rfl⟩ := hu.shape
  obtain ⟨wa, wn, wc, rfl⟩ := hv.shape
  have b0 := belowAlloc w (.cells #[.int .i64 k, .int .i64 R, .slice va vn vc] 24)
  have q : Box3 (w.alloc (.cells #[.int .i64 k, .int .i64 R, .slice va vn vc] 24)) w.heap.size (.int .i64 k) (.int .i64 R) (.slice va vn vc) := by simp [Box3, go_sem]
  replace hg := Lib.hid (hg.below b0)
  replace hG := Lib.hid (hG.below b0)
  replace h := Lib.hid (h.below b0)
  replace hu := Lib.hid (hu.below b0)
  replace hv := Lib.hid (hv.below b0)
  go_enter Tryz.func3, Tryz.ntmps3
  go_wp2_with fail
  refine (awake15 r _ hg.out).mono ?_
  rintro e w1 ⟨_, rfl, b1, rfl⟩
  obtain ⟨⟨z0, z1, z2⟩, -, -, -⟩ := q.below b1
  go_wp2_with fail
  refine (lentRule_any k R va vn vc T w1 (h.out.below b1) (by omega)).mono ?_
  rintro e w2 ⟨_, rfl, b2, ma, mn, mc, rfl, hm⟩
  have b2a := Below.step b2 (belowAlloc w2 (.cells #[.int .i64 k, .int .i64 R, .slice ma mn mc] 24))
  have qm : Box3 (w2.alloc (.cells #[.int .i64 k, .int .i64 R, .slice ma mn mc] 24)) w2.heap.size (.int .i64 k) (.int .i64 R) (.slice ma mn mc) := by simp [Box3, go_sem]
  replace hm := hm.below (belowAlloc w2 (.cells #[.int .i64 k, .int .i64 R, .slice ma mn mc] 24))
  have c2 := Below.step b1 b2a
  generalize hgm : w2.heap.size = gm at *
  obtain ⟨w3, hw3⟩ : ∃ W : World, w2.alloc (.cells #[.int .i64 k, .int .i64 R, .slice ma mn mc] 24) = W := ⟨_, rfl⟩
  rw [hw3] at b2a qm hm c2
  replace hw3 := Lib.hid hw3
  replace hgm := Lib.hid hgm
  replace hm := Lib.hid hm
  clear z0 z1 z2
  go_upto_region 4 with fail
  rw [hw3.out, hgm.out]
  go_wp2_with fail
  refine (lent_any (.slice ua un uc) a w3 (hu.out.below c2) (by omega)).mono ?_
  rintro e w4 ⟨x, rfl, b4, hx⟩
  have c4 := Below.step c2 b4
  obtain ⟨xa, xn, xc, rfl⟩ := hx.at.shape
  replace hx := Lib.hid hx
  go_wp2_with fail
  refine (lent_any (.slice wa wn wc) b w4 (hv.out.below c4) (by omega)).mono ?_
  rintro e w5 ⟨y, rfl, b5, hy⟩
  have c5 := Below.step c4 b5
  have d35 := Below.step b4 b5
  obtain ⟨ya, yn, yc, rfl⟩ := hy.at.shape
  obtain ⟨W, hW⟩ : ∃ W : World, w5.drew = W := ⟨_, rfl⟩
  have c6 : Below (w.alloc (.cells #[.int .i64 k, .int .i64 R, .slice va vn vc] 24)).heap.size (w.alloc (.cells #[.int .i64 k, .int .i64 R, .slice va vn vc] 24)) W := by rw [← hW]; exact c5.drew
  have d36 : Below w3.heap.size w3 W := by rw [← hW]; exact d35.drew
  have hxW : LentI w3.heap.size W (.slice xa xn xc) a := by
    rw [← hW]
    obtain ⟨v', e, ho⟩ := hx.out.below b5
    exact ⟨v', e, ho⟩
  have hyW : LentI w4.heap.size W (.slice ya yn yc) b := by
    rw [← hW]
    obtain ⟨v', e, ho⟩ := hy
    exact ⟨v', e, ho⟩
  have hmW := hm.out.below d36
  replace hy := Lib.hid hy
  replace hW := Lib.hid hW
  have boxes : ∀ W' : World, Below (w.alloc (.cells #[.int .i64 k, .int .i64 R, .slice va vn vc] 24)).heap.size (w.alloc (.cells #[.int .i64 k, .int .i64 R, .slice va vn vc] 24)) W' → Below w3.heap.size w3 W' → W'.cell? ⟨gm, 0, none⟩ = some (.int .i64 k) ∧ W'.cell? ⟨gm, 1, none⟩ = some (.int .i64 R) ∧ W'.cell? ⟨gm, 2, none⟩ = some (.slice ma mn mc) ∧ W'.cell? ⟨w.heap.size, 0, none⟩ = some (.int .i64 k) ∧ W'.cell? ⟨w.heap.size, 1, none⟩ = some (.int .i64 R) ∧ W'.cell? ⟨w.heap.size, 2, none⟩ = some (.slice va vn vc) := fun W' p1 p2 => by
    obtain ⟨⟨m0, m1, m2⟩, -, -, -⟩ := qm.below p2
    obtain ⟨⟨z0, z1, z2⟩, -, -, -⟩ := q.below p1
    exact ⟨m0, m1, m2, z0, z1, z2⟩
  replace boxes := Lib.hid boxes
  have hS := boxes.out W c6 d36
  have hmI := hmW.at
  have hxI := hxW.at
  have hyI := hyW.at
  replace hmW := Lib.hid hmW
  replace hxW := Lib.hid hxW
  replace hyW := Lib.hid hyW
  replace hmI := Lib.hid hmI
  replace hxI := Lib.hid hxI
  replace hyI := Lib.hid hyI
  go_upto_region 6 with fail
  refine wp_region_plan (fun w' => w'.cell? ⟨gm, 0, none⟩ = some (.int .i64 k) ∧ w'.cell? ⟨gm, 1, none⟩ = some (.int .i64 R) ∧ w'.cell? ⟨gm, 2, none⟩ = some (.slice ma mn mc) ∧ w'.cell? ⟨w.heap.size, 0, none⟩ = some (.int .i64 k) ∧ w'.cell? ⟨w.heap.size, 1, none⟩ = some (.int .i64 R) ∧ w'.cell? ⟨w.heap.size, 2, none⟩ = some (.slice va vn vc)) 24 [(0, true), (1, true), (2, true), (4, true), (5, true), (6, true), (3, false), (7, false), (8, false), (9, true), (10, true), (11, true), (12, false), (13, true), (14, true), (15, true), (16, true), (17, false), (18, true), (19, true), (20, true), (21, true), (22, false), (23, true)] (by kernel_rfl) (by kernel_rfl) ?_
  rw [hW.out]
  refine headY (v := ?_) (some 18) rfl rfl (Or.inl ⟨by rfl, ?_⟩) hS ?_
  rotate_left
  · rintro W' ⟨s0, s1, s2, s3, s4, s5⟩; go_simp; try with_reducible rfl
  simp only [Act.put, List.setIfInBounds_toArray, List.set_cons_zero, List.set_cons_succ]
  refine headY (v := ?_) (some 19) rfl rfl (Or.inl ⟨by rfl, ?_⟩) hS ?_
  rotate_left
  · rintro W' ⟨s0, s1, s2, s3, s4, s5⟩; go_simp; try with_reducible rfl
  simp only [Act.put, List.setIfInBounds_toArray, List.set_cons_zero, List.set_cons_succ]
  refine headY (v := ?_) (some 20) rfl rfl (Or.inl ⟨by rfl, ?_⟩) hS ?_
  rotate_left
  · rintro W' ⟨s0, s1, s2, s3, s4, s5⟩; go_simp; try with_reducible rfl
  simp only [Act.put, List.setIfInBounds_toArray, List.set_cons_zero, List.set_cons_succ]
  refine headY (v := ?_) (some 22) rfl rfl (Or.inl ⟨by rfl, ?_⟩) hS ?_
  rotate_left
  · rintro W' ⟨s0, s1, s2, s3, s4, s5⟩; go_simp; try with_reducible rfl
  simp only [Act.put, List.setIfInBounds_toArray, List.set_cons_zero, List.set_cons_succ]
  refine headY (v := ?_) (some 23) rfl rfl (Or.inl ⟨by rfl, ?_⟩) hS ?_
  rotate_left
  · rintro W' ⟨s0, s1, s2, s3, s4, s5⟩; go_simp; try with_reducible rfl
  simp only [Act.put, List.setIfInBounds_toArray, List.set_cons_zero, List.set_cons_succ]
  refine headY (v := ?_) (some 24) rfl rfl (Or.inl ⟨by rfl, ?_⟩) hS ?_
  rotate_left
  · rintro W' ⟨s0, s1, s2, s3, s4, s5⟩; go_simp; try with_reducible rfl
  simp only [Act.put, List.setIfInBounds_toArray, List.set_cons_zero, List.set_cons_succ]
  refine headC rfl (fun KK hK => ?_)
  go_simp
  refine (tcheck_any r k R ma mn mc T _ a _ b W (hg.out.below c6) hmI.out hxI.out hyI.out).mono ?_
  rintro e w7 ⟨ev, rfl, b7, hev⟩
  have c7 := Below.step c6 b7
  have d37 := Below.step d36 b7
  have hS7 := boxes.out w7 c7 d37
  refine hK _ _ hS7 ?_
  clear hK KK hS
  replace hev := Lib.hid hev
  refine headC rfl (fun KK hK => ?_)
  go_simp
  refine (ref15c_any k R va vn vc T _ a _ b w7 (h.out.below c7) (hu.out.below c7) (hv.out.below c7)).mono ?_
  rintro e w8 ⟨re, rfl, b8, hre⟩
  have c8 := Below.step c7 b8
  have d38 := Below.step d37 b8
  have hS8 := boxes.out w8 c8 d38
  refine hK _ _ hS8 ?_
  clear hK KK hS7
  have e78 := Below.step b7 b8
  replace hre := Lib.hid hre
  refine headC rfl (fun KK hK => ?_)
  go_simp
  refine (raw_is r (tckP k R T a b) ev re w8 (hg.out.below c8) (hG.out.below c8) (hev.out.below b8) hre.out.at (tckP_fine _ _ _ _ _)).mono ?_
  rintro e w9 ⟨_, rfl, b9, rfl⟩
  have c9 := Below.step c8 b9
  have d39 := Below.step d38 b9
  have e79 := Below.step e78 b9
  have hS9 := boxes.out w9 c9 d39
  refine hK _ _ hS9 ?_
  clear hK KK hS8
  refine headY (v := ?_) (some 27) rfl rfl (Or.inl ⟨by rfl, ?_⟩) hS9 ?_
  rotate_left
  · rintro W' ⟨s0, s1, s2, s3, s4, s5⟩; go_simp; try with_reducible rfl
  simp only [Act.put, List.setIfInBounds_toArray, List.set_cons_zero, List.set_cons_succ]
  refine headY (v := ?_) (some 28) rfl rfl (Or.inl ⟨by rfl, ?_⟩) hS9 ?_
  rotate_left
  · rintro W' ⟨s0, s1, s2, s3, s4, s5⟩; go_simp; try with_reducible rfl
  simp only [Act.put, List.setIfInBounds_toArray, List.set_cons_zero, List.set_cons_succ]
  refine headY (v := ?_) (some 29) rfl rfl (Or.inl ⟨by rfl, ?_⟩) hS9 ?_
  rotate_left
  · rintro W' ⟨s0, s1, s2, s3, s4, s5⟩; go_simp; try with_reducible rfl
  simp only [Act.put, List.setIfInBounds_toArray, List.set_cons_zero, List.set_cons_succ]
  refine headC rfl (fun KK hK => ?_)
  go_simp
  refine (keptRule_any _ k R ma mn mc va vn vc T w9 (hmW.out.below e79) (h.out.below c9) (by omega)).mono ?_
  rintro e w10 ⟨_, rfl, b10, rfl⟩
  have c10 := Below.step c9 b10
  have d310 := Below.step d39 b10
  have e710 := Below.step e79 b10
  have hS10 := boxes.out w10 c10 d310
  refine hK _ _ hS10 ?_
  clear hK KK hS9
  refine headY (v := ?_) (some 31) rfl rfl (Or.inl ⟨by rfl, ?_⟩) hS10 ?_
  rotate_left
  · rintro W' ⟨s0, s1, s2, s3, s4, s5⟩; go_simp; try with_reducible rfl
  simp only [Act.put, List.setIfInBounds_toArray, List.set_cons_zero, List.set_cons_succ]
  refine headY (v := ?_) (some 32) rfl rfl (Or.inl ⟨by rfl, ?_⟩) hS10 ?_
  rotate_left
  · rintro W' ⟨s0, s1, s2, s3, s4, s5⟩; go_simp; try with_reducible rfl
  simp only [Act.put, List.setIfInBounds_toArray, List.set_cons_zero, List.set_cons_succ]
  refine headY (v := ?_) (some 33) rfl rfl (Or.inl ⟨by rfl, ?_⟩) hS10 ?_
  rotate_left
  · rintro W' ⟨s0, s1, s2, s3, s4, s5⟩; go_simp; try with_reducible rfl
  simp only [Act.put, List.setIfInBounds_toArray, List.set_cons_zero, List.set_cons_succ]
  refine headY (v := ?_) (some 34) rfl rfl (Or.inl ⟨by rfl, ?_⟩) hS10 ?_
  rotate_left
  · rintro W' ⟨s0, s1, s2, s3, s4, s5⟩; go_simp; try with_reducible rfl
  simp only [Act.put, List.setIfInBounds_toArray, List.set_cons_zero, List.set_cons_succ]
  refine headC rfl (fun KK hK => ?_)
  go_simp
  refine (kept_any _ _ _ a w10 (hxW.out.below e710) (hu.out.below c10) (by omega)).mono ?_
  rintro e w11 ⟨n11, rfl, rfl⟩
  have hS11 : (w10.drewN n11).cell? ⟨gm, 0, none⟩ = some (.int .i64 k) ∧ (w10.drewN n11).cell? ⟨gm, 1, none⟩ = some (.int .i64 R) ∧ (w10.drewN n11).cell? ⟨gm, 2, none⟩ = some (.slice ma mn mc) ∧ (w10.drewN n11).cell? ⟨w.heap.size, 0, none⟩ = some (.int .i64 k) ∧ (w10.drewN n11).cell? ⟨w.heap.size, 1, none⟩ = some (.int .i64 R) ∧ (w10.drewN n11).cell? ⟨w.heap.size, 2, none⟩ = some (.slice va vn vc) := hS10
  have c11 := below_drewN c10 n11
  have e711 := below_drewN e710 n11
  obtain ⟨w12, hw12⟩ : ∃ W : World, w10.drewN n11 = W := ⟨_, rfl⟩
  rw [hw12] at hS11 c11 e711 ⊢
  refine hK _ _ hS11 ?_
  clear hK KK hS10 hw12
  refine headY (v := ?_) (some 36) rfl rfl (Or.inl ⟨by rfl, ?_⟩) hS11 ?_
  rotate_left
  · rintro W' ⟨s0, s1, s2, s3, s4, s5⟩; go_simp; try with_reducible rfl
  simp only [Act.put, List.setIfInBounds_toArray, List.set_cons_zero, List.set_cons_succ]
  refine headY (v := ?_) (some 37) rfl rfl (Or.inl ⟨by rfl, ?_⟩) hS11 ?_
  rotate_left
  · rintro W' ⟨s0, s1, s2, s3, s4, s5⟩; go_simp; try with_reducible rfl
  simp only [Act.put, List.setIfInBounds_toArray, List.set_cons_zero, List.set_cons_succ]
  refine headY (v := ?_) (some 38) rfl rfl (Or.inl ⟨by rfl, ?_⟩) hS11 ?_
  rotate_left
  · rintro W' ⟨s0, s1, s2, s3, s4, s5⟩; go_simp; try with_reducible rfl
  simp only [Act.put, List.setIfInBounds_toArray, List.set_cons_zero, List.set_cons_succ]
  refine headY (v := ?_) (some 39) rfl rfl (Or.inl ⟨by rfl, ?_⟩) hS11 ?_
  rotate_left
  · rintro W' ⟨s0, s1, s2, s3, s4, s5⟩; go_simp; try with_reducible rfl
  simp only [Act.put, List.setIfInBounds_toArray, List.set_cons_zero, List.set_cons_succ]
  refine headC rfl (fun KK hK => ?_)
  go_simp
  refine (kept_any _ _ _ b w12 (hyW.out.below e711) (hv.out.below c11) (by omega)).mono ?_
  rintro e w13 ⟨n13, rfl, rfl⟩
  have hS13 : (w12.drewN n13).cell? ⟨gm, 0, none⟩ = some (.int .i64 k) ∧ (w12.drewN n13).cell? ⟨gm, 1, none⟩ = some (.int .i64 R) ∧ (w12.drewN n13).cell? ⟨gm, 2, none⟩ = some (.slice ma mn mc) ∧ (w12.drewN n13).cell? ⟨w.heap.size, 0, none⟩ = some (.int .i64 k) ∧ (w12.drewN n13).cell? ⟨w.heap.size, 1, none⟩ = some (.int .i64 R) ∧ (w12.drewN n13).cell? ⟨w.heap.size, 2, none⟩ = some (.slice va vn vc) := hS11
  have c13 := below_drewN c11 n13
  have bE := Below.step b0 c13
  obtain ⟨w14, hw14⟩ : ∃ W : World, w12.drewN n13 = W := ⟨_, rfl⟩
  rw [hw14] at hS13 c13 bE ⊢
  refine hK _ _ hS13 ?_
  clear hK KK hS11 hw14
  refine headY (v := ?_) (some 41) rfl rfl (Or.inl ⟨by rfl, ?_⟩) hS13 ?_
  rotate_left
  · rintro W' ⟨s0, s1, s2, s3, s4, s5⟩; go_simp; try with_reducible rfl
  simp only [Act.put, List.setIfInBounds_toArray, List.set_cons_zero, List.set_cons_succ]
  refine head0 ?_
  simp only [List.drop_succ_cons, List.drop_zero]
  clear hS13
  go_wp2
  refine NoPanic.normal ?_
  go_wp2
  go_ret
  exact ⟨_, rfl, bE, rfl⟩
end Go.Proofs.YtmhiambkfdkkbaaGreatDoor

namespace Go.Proofs.YtmhiambkfdkkbaaGreatDoor
open Go.ChangeShapes Go.WideShapes Go.ChangeAt Go.RowKit Go.Joins
set_option maxRecDepth 100000

theorem own : ownKnob Tryz.prog.godebug = none := by kernel_rfl
theorem laidOut : laidOutB Tryz.prog = true := by kernel_rfl
theorem cellsInt : Tryz.prog.cellsOf 3 = 1 := by kernel_rfl
theorem uInt : Tryz.prog.underlying 3 = some (.int .i64) := by kernel_rfl
theorem bytesInt : Tryz.prog.bytesOf 3 = 8 := by kernel_rfl

theorem i64_of_wf {n : Int} (h : (Lit.int .i64 n).wf = true) : I64 n := by
  have := bounds_i64 h
  unfold I64
  omega

/-- A []int that came in. -/
theorem open_intsV {H : Type} {enc : TypeId × Value → H} {W : World} {held : Bool} {fuel : Nat} {v : Value} {y : DataW H × List MemPlace}
    (h : DataW.trod enc Tryz.prog W 0 (fun _ => true) held fuel 22 [v] = some y) (hw : ∀ n ∈ y.1.weights Tryz.prog 22, n ≤ reachBytes) :
    ∃ xs, IntsAt W v xs ∧ xs.length ≤ 17592186043904 ∧ ∀ x ∈ xs, I64 x := by
  rcases open_ints uInts uInt cellsInt h with ⟨hcs, _⟩ | ⟨a, len, cap, zs, hcs, _, hl, hm, hz, hx, hcell, hwz⟩
  · simp at hcs
    subst hcs
    exact ⟨[], (OwnI.nil 0 W).at, by simp, by simp⟩
  · simp at hcs
    subst hcs
    simp only [if_true] at hz
    have hzl : (zs.take len).length = len := by simp; omega
    refine ⟨zs.take len, ⟨some a, cap, by rw [hzl], by rw [hzl]; exact hl, hm, (fun e => by cases e), fun i hi => ?_⟩, ?_, fun x hx => i64_of_wf (hwz x (List.mem_of_mem_take hx))⟩
    · have hi' : i < zs.length := by rw [hzl] at hi; omega
      show W.cell? (a.add i) = _
      rw [hcell i hi']
      simp [List.getD, hi']
    · rw [hx] at hw
      have := hw ((lits (H := H) .i64 (zs.take len)).length * 8 + (lits (H := H) .i64 (zs.drop len)).length * 8) (by
        simp only [DataW.weights, uInts, bytesInt, List.mem_cons]
        left; omega)
      simp only [lits, List.length_map, reachBytes] at this
      omega

theorem open_intsT {H : Type} {enc : TypeId × Value → H} {W : World} {held : Bool} {v : Value} {d : DataW H} {p : List MemPlace} {b0 : Nat}
    (hv : Value.okWide Tryz.prog W .any b0 22 v) (h : DataW.Trod enc Tryz.prog W 0 (fun _ => true) held 22 v d p) (hw : ∀ n ∈ d.weights Tryz.prog 22, n ≤ reachBytes) :
    ∃ xs, IntsAt W v xs ∧ xs.length ≤ 17592186043904 ∧ ∀ x ∈ xs, I64 x := by
  obtain ⟨a, l, c, rfl⟩ := okWide_slice uInts hv
  obtain ⟨fuel, hf⟩ := h
  exact open_intsV (y := (d, p)) (by simpa [Value.cells] using hf) hw

theorem weights_each3 {H : Type} {t0 t1 t2 : TypeId} {y0 y1 y2 : DataW H} {n : Nat} (h : n ∈ y2.weights Tryz.prog t2) : n ∈ DataW.weightsEach Tryz.prog [t0, t1, t2] [y0, y1, y2] := by
  simp only [DataW.weightsEach, List.mem_append]
  exact .inr (.inr (.inl h))

/-- A rule that came in. -/
theorem open_ruleV {H : Type} {enc : TypeId × Value → H} {W : World} {held : Bool} {v : Value} {d : DataW H} {p : List MemPlace} {b0 : Nat}
    (hv : Value.okWide Tryz.prog W .any b0 24 v) (h : DataW.Trod enc Tryz.prog W 0 (fun _ => true) held 24 v d p) (hw : ∀ n ∈ d.weights Tryz.prog 24, n ≤ reachBytes) :
    ∃ (k R : Int) (u : Value) (xs : List Int), v = .agg #[.int .i64 k, .int .i64 R, u] ∧ IntsAt W u xs ∧ xs.length ≤ 17592186043904 ∧ (∀ x ∈ xs, I64 x) ∧ I64 k ∧ I64 R := by
  obtain ⟨v0, v1, v2, y0, y1, y2, n, rfl, rfl, rfl, h0, h1, h2⟩ := open_agg3 Tryz.underlying24 (by kernel_rfl) (by kernel_rfl) hv h
  obtain ⟨a, e0, _, wa⟩ := DataW.trod_int uInt h0
  obtain ⟨b, e1, _, wb⟩ := DataW.trod_int uInt h1
  simp at e0 e1
  subst e0 e1
  obtain ⟨xs, hx, hl, hb⟩ := open_intsV h2 fun n hn => hw n (by
    simp only [DataW.weights, Tryz.underlying24]
    exact weights_each3 (t0 := 3) (t1 := 3) (t2 := 22) hn)
  exact ⟨a, b, v2, xs, rfl, hx, hl, hb, i64_of_wf wa, i64_of_wf wb⟩

/-! The package-level errors. -/
theorem star : "*" ++ "errors.errorString" = "*errors.errorString" := by decide
theorem rowES (u : TypeId) (h : Tryz.prog.typeName? 3 u = some "*errors.errorString") : u = 240 :=
  typeName_ptr_named (nm := "errors.errorString") (by rw [star]; kernel_rfl) (by kernel_rfl) (by decide) u (by rw [star]; exact h)
theorem pES : Tryz.prog.underlying 240 = some (.pointer 261) := by kernel_rfl
theorem cES : Tryz.prog.cellsOf 261 = 1 := by kernel_rfl
theorem cStr : Tryz.prog.cellsOf 9 = 1 := by kernel_rfl

def laid12 : List (String × DataW Unit) := [("eden/api.BadRule", Rows.laid_eden_api_BadRule), ("eden/api.BadWord", Rows.laid_eden_api_BadWord), ("eden/api.BadArg", Rows.laid_eden_api_BadArg), ("eden/api.TooBig", Rows.laid_eden_api_TooBig), ("eden/api.NoBudget", Rows.laid_eden_api_NoBudget), ("eden/api.BadText", Rows.laid_eden_api_BadText), ("eden/api.BadPatch", Rows.laid_eden_api_BadPatch), ("eden/api.BadCert", Rows.laid_eden_api_BadCert), ("eden/api.NoInverse", Rows.laid_eden_api_NoInverse), ("eden/api.BadLine", Rows.laid_eden_api_BadLine), ("eden/api.BadState", Rows.laid_eden_api_BadState), ("eden/api.Unknown", Rows.laid_eden_api_Unknown)]

theorem sentinel {n : String} {text : List UInt8} {r : List (String × DataW Unit)} {W : World} {g : Nat}
    (h : laidMet Tryz.prog ((n, .iface "*errors.errorString" (.ptr (.agg [.lit (.string text)]))) :: r) W)
    (hg : Tryz.prog.globalNamed n = some g) (ht : (Tryz.prog.globals[g]?).map (·.type) = some 30) :
    (∃ a : Addr, W.cell? ⟨g, 0, none⟩ = some (.iface 240 (.pointer (some a))) ∧ ∃ s, W.cell? a = some (.string s) ∧ s.data.toList = text) ∧ laidMet Tryz.prog r W := by
  refine ⟨?_, h.tail⟩
  obtain ⟨a, s, hv, hc, hs, _⟩ := laid_sentinel h hg ht Tryz.underlying30 rowES pES Tryz.underlying261 rfl rfl Tryz.underlying9 cES cStr
  exact ⟨a, by simpa using World.var?_cell hg hv 0, s, hc, hs⟩

def txt : Nat → List UInt8
  | 1 => [98, 97, 100, 32, 114, 117, 108, 101]
  | 2 => [98, 97, 100, 32, 119, 111, 114, 100]
  | 3 => [98, 97, 100, 32, 97, 114, 103, 117, 109, 101, 110, 116]
  | 4 => [116, 111, 111, 32, 98, 105, 103]
  | 5 => [110, 111, 32, 98, 117, 100, 103, 101, 116]
  | 6 => [98, 97, 100, 32, 116, 101, 120, 116]
  | 7 => [98, 97, 100, 32, 112, 97, 116, 99, 104]
  | 8 => [98, 97, 100, 32, 99, 101, 114, 116, 105, 102, 105, 99, 97, 116, 101]
  | 9 => [110, 111, 32, 105, 110, 118, 101, 114, 115, 101]
  | 10 => [98, 97, 100, 32, 108, 105, 110, 101]
  | 11 => [98, 97, 100, 32, 115, 116, 97, 116, 101]
  | 99 => [117, 110, 107, 110, 111, 119, 110]
  | _ => []
theorem txt_apart : ∀ m n : Fin 12, 1 ≤ m.val → 1 ≤ n.val → txt m.val = txt n.val → m = n := by decide

theorem glob_of_laid {W : World} (h : laidMet Tryz.prog laid12 W) : ∃ r, Glob r W := by
  obtain ⟨⟨a1, c1, s1, e1, t1⟩, h⟩ := sentinel (text := txt 1) h (g := 0) (by kernel_rfl) (by kernel_rfl)
  obtain ⟨⟨a2, c2, s2, e2, t2⟩, h⟩ := sentinel (text := txt 2) h (g := 1) (by kernel_rfl) (by kernel_rfl)
  obtain ⟨⟨a3, c3, s3, e3, t3⟩, h⟩ := sentinel (text := txt 3) h (g := 2) (by kernel_rfl) (by kernel_rfl)
  obtain ⟨⟨a4, c4, s4, e4, t4⟩, h⟩ := sentinel (text := txt 4) h (g := 3) (by kernel_rfl) (by kernel_rfl)
  obtain ⟨⟨a5, c5, s5, e5, t5⟩, h⟩ := sentinel (text := txt 5) h (g := 4) (by kernel_rfl) (by kernel_rfl)
  obtain ⟨⟨a6, c6, s6, e6, t6⟩, h⟩ := sentinel (text := txt 6) h (g := 5) (by kernel_rfl) (by kernel_rfl)
  obtain ⟨⟨a7, c7, s7, e7, t7⟩, h⟩ := sentinel (text := txt 7) h (g := 6) (by kernel_rfl) (by kernel_rfl)
  obtain ⟨⟨a8, c8, s8, e8, t8⟩, h⟩ := sentinel (text := txt 8) h (g := 7) (by kernel_rfl) (by kernel_rfl)
  obtain ⟨⟨a9, c9, s9, e9, t9⟩, h⟩ := sentinel (text := txt 9) h (g := 8) (by kernel_rfl) (by kernel_rfl)
  obtain ⟨⟨a10, c10, s10, e10, t10⟩, h⟩ := sentinel (text := txt 10) h (g := 9) (by kernel_rfl) (by kernel_rfl)
  obtain ⟨⟨a11, c11, s11, e11, t11⟩, h⟩ := sentinel (text := txt 11) h (g := 10) (by kernel_rfl) (by kernel_rfl)
  obtain ⟨⟨a99, c99, s99, e99, t99⟩, h⟩ := sentinel (text := txt 99) h (g := 11) (by kernel_rfl) (by kernel_rfl)
  clear h
  have key : ∀ n : Nat, (1 ≤ n ∧ n ≤ 11) ∨ n = 99 → ∃ s, W.cell? ((fun n : Nat => match n with | 1 => a1 | 2 => a2 | 3 => a3 | 4 => a4 | 5 => a5 | 6 => a6 | 7 => a7 | 8 => a8 | 9 => a9 | 10 => a10 | 11 => a11 | _ => a99) n) = some (.string s) ∧ s.data.toList = txt n := by
    intro n hn
    have : n = 1 ∨ n = 2 ∨ n = 3 ∨ n = 4 ∨ n = 5 ∨ n = 6 ∨ n = 7 ∨ n = 8 ∨ n = 9 ∨ n = 10 ∨ n = 11 ∨ n = 99 := by omega
    rcases this with rfl | rfl | rfl | rfl | rfl | rfl | rfl | rfl | rfl | rfl | rfl | rfl
    · exact ⟨s1, e1, t1⟩
    · exact ⟨s2, e2, t2⟩
    · exact ⟨s3, e3, t3⟩
    · exact ⟨s4, e4, t4⟩
    · exact ⟨s5, e5, t5⟩
    · exact ⟨s6, e6, t6⟩
    · exact ⟨s7, e7, t7⟩
    · exact ⟨s8, e8, t8⟩
    · exact ⟨s9, e9, t9⟩
    · exact ⟨s10, e10, t10⟩
    · exact ⟨s11, e11, t11⟩
    · exact ⟨s99, e99, t99⟩
  refine ⟨(fun n : Nat => match n with | 1 => a1 | 2 => a2 | 3 => a3 | 4 => a4 | 5 => a5 | 6 => a6 | 7 => a7 | 8 => a8 | 9 => a9 | 10 => a10 | 11 => a11 | _ => a99), c1, c2, c3, c4, c5, c6, c7, c8, c9, c10, c11, c99, (fun n hn => ?_), fun m n hm1 hm2 hn1 hn2 he => ?_⟩
  · obtain ⟨s, hs, _⟩ := key n hn
    exact ⟨s, hs⟩
  · obtain ⟨s, hs, ts⟩ := key m.toNat (by omega)
    obtain ⟨s', hs', ts'⟩ := key n.toNat (by omega)
    have hss : s = s' := by
      have := hs.symm.trans ((congrArg W.cell? he).trans hs')
      simpa using this
    subst hss
    have := txt_apart ⟨m.toNat, by omega⟩ ⟨n.toNat, by omega⟩ (by simp; omega) (by simp; omega) (ts.symm.trans ts')
    have := congrArg Fin.val this
    simp at this
    omega
end Go.Proofs.YtmhiambkfdkkbaaGreatDoor

namespace Go.Proofs.YtmhiambkfdkkbaaGreatDoor
open Go.RowKit
set_option maxRecDepth 100000

def laid13 : List (String × DataW Unit) := ("errors.errorType", Rows.laid_errors_errorType) :: laid12
theorem rtypeNo : (Tryz.prog.cutTypes.find? (·.1 == "internal/reflectlite.rtype")).map (·.2) = some 171 := by kernel_rfl
theorem errorTypeNo : Tryz.prog.globalNamed "errors.errorType" = some 12 := by kernel_rfl
theorem typesNo : Tryz.prog.types.size = 373 - 100 := by kernel_rfl
theorem oneError : ((List.range (373 - 100)).filter fun t => Tryz.prog.rowNamed t [101, 114, 114, 111, 114]) = [30] := by kernel_rfl
theorem handleErr : typeHandle Tryz.prog 30 = .pointer (some ⟨13, 30, none⟩) := by kernel_rfl

theorem glob_of_laidH {W : World} (h : laidMetH Tryz.prog laid13 W) : ∃ r, Glob r W ∧ GlobE W := by
  have h' : laidMet Tryz.prog laid12 W ∧ handlesMet Tryz.prog [("errors.errorType", Rows.laid_errors_errorType)] W := h
  obtain ⟨r, hg⟩ := glob_of_laid h'.1
  refine ⟨r, hg, ?_⟩
  obtain ⟨name, u, ty, e1, e2, e3, e4, e5⟩ := h'.2 _ (List.mem_cons_self ..)
  have en : name = [101, 114, 114, 111, 114] := (Option.some.inj e1).symm
  subst en
  obtain rfl := Option.some.inj (rtypeNo.symm.trans e2)
  have hm : ty ∈ (List.range (373 - 100)).filter fun t => Tryz.prog.rowNamed t [101, 114, 114, 111, 114] := List.mem_filter.2 ⟨List.mem_range.2 (by rw [← typesNo]; exact e3), e4⟩
  rw [oneError] at hm
  obtain rfl := List.mem_singleton.1 hm
  rw [handleErr] at e5
  simpa [GlobE] using World.var?_cell errorTypeNo e5 0
end Go.Proofs.YtmhiambkfdkkbaaGreatDoor

namespace Go.Proofs.YtmhiambkfdkkbaaGreatDoor
open Go.ChangeShapes Go.WideShapes Go.ChangeAt Go.RowKit Go.Joins
namespace TwinsChecksP

set_option maxRecDepth 100000 in
theorem door_met (os : Os) (args : Array Value) : laidMetH Tryz.prog Rows.twinsChecksRow.laid ((World.doorLaid Tryz.prog 400 os).forCall (fun _ _ => 0) ⟨#[], args, []⟩).memory :=
  laidMetH_of_parts3 (fuel := 8) (laidMet_of_run' 8 (by kernel_rfl) (by kernel_rfl)) (by kernel_rfl) (by kernel_rfl)

set_option maxRecDepth 100000 in
theorem lifted (os : Os) (started : os.Started) (H : Type) (enc : TypeId × Value → H) :
    ReturnsInHanded {} Tryz.checked os 3 .any (fun w args => (Rows.twinsChecksSpec.pre enc Tryz.prog Tryz.f3 [] false w args ∧ laidMetH Tryz.prog Rows.twinsChecksRow.laid w) ∧ sizedMet enc Tryz.prog Tryz.f3 (OpenSpec.ofChange Rows.twinsChecksSpec) false w args)
      (Rows.twinsChecksSpec.post enc Tryz.prog Tryz.f3 false true false false) := by
  refine returnsInHanded_of_change_and (C := Tryz.checked) (X := fun w _ => laidMetH Tryz.prog Rows.twinsChecksRow.laid w) (fun _ _ _ hh h => h.of_heap hh) own started (by kernel_rfl) Tryz.func3
    (ChangeSpec.witness_shaped (enc := enc) (C := Tryz.checked) (os := os) (X := fun w _ => laidMetH Tryz.prog Rows.twinsChecksRow.laid w) false (World.doorLaid Tryz.prog 400 os) #[.agg #[.int .i64 0, .int .i64 0, .slice none 0 0], .slice none 0 0, .slice none 0 0] 8 rfl (World.shaped_of_RefB (by kernel_rfl) (by kernel_rfl)) (by kernel_rfl) (by kernel_rfl) (by kernel_rfl) (door_met os _)) ?_
  intro W base args ds gs before hval0 hW _ hsz hL _
  have hval : ∀ (j : Nat) t v, Tryz.f3.params[j]? = some t → args[j]? = some v → Value.okWide Tryz.prog W .any base t v := hval0
  have hW' := hW
  obtain ⟨p, q, hA0, hV, rfl, hfz, hnd⟩ := hW
  have hA : DataW.TrodAll enc Tryz.prog W 0 (fun _ => true) true Tryz.f3.params.toList args.toList ds p := hA0
  rw [Tryz.params3] at hA hval hsz
  obtain ⟨v0, vs0, d0, ds0, p0, q0, hargs, rfl, rfl, g0, t0⟩ := trodAll_cons hA
  obtain ⟨v1, vs1, d1, ds1, p1, q1, rfl, rfl, rfl, g1, t1⟩ := trodAll_cons t0
  obtain ⟨v2, vs2, d2, ds2, p2, q2, rfl, rfl, rfl, g2, t2⟩ := trodAll_cons t1
  obtain ⟨rfl, rfl, rfl⟩ := trodAll_nil t2
  obtain rfl : args = #[v0, v1, v2] := by cases args; simp_all
  obtain ⟨rfl, rfl⟩ := trodVars_none hV
  have kk0 := g0
  have lt0 : ∀ x ∈ p0, x.block < W.heap.size := by obtain ⟨m, hm⟩ := kk0; exact DataW.trod_lt m _ _ _ hm
  obtain ⟨kr0, rr0, u0, x0, rfl, h0, l0, b0, bk0, br0⟩ := open_ruleV (hval 0 24 v0 rfl rfl) g0 (fun n hn => by
    have := List.all_eq_true.1 hsz n (DataW.weights_mem_each (j := 0) (t := 24) rfl rfl n hn)
    simpa using this)
  have kk1 := g1
  have lt1 : ∀ x ∈ p1, x.block < W.heap.size := by obtain ⟨m, hm⟩ := kk1; exact DataW.trod_lt m _ _ _ hm
  obtain ⟨x1, h1, l1, b1⟩ := open_intsT (hval 1 22 v1 rfl rfl) g1 (fun n hn => by
    have := List.all_eq_true.1 hsz n (DataW.weights_mem_each (j := 1) (t := 22) rfl rfl n hn)
    simpa using this)
  have kk2 := g2
  have lt2 : ∀ x ∈ p2, x.block < W.heap.size := by obtain ⟨m, hm⟩ := kk2; exact DataW.trod_lt m _ _ _ hm
  obtain ⟨x2, h2, l2, b2⟩ := open_intsT (hval 2 22 v2 rfl rfl) g2 (fun n hn => by
    have := List.all_eq_true.1 hsz n (DataW.weights_mem_each (j := 2) (t := 22) rfl rfl n hn)
    simpa using this)
  obtain ⟨r, hg, hG⟩ := glob_of_laidH (W := W) (by
    exact hL)
  clear hA0 hval0
  refine (twinsChecks_any r kr0 rr0 u0 x0 v1 x1 v2 x2 W hg hG h0 h1 h2 l0 l1 l2).mono fun e W' ⟨x, he, bel, hxx⟩ => ?_
  subst he; subst hxx
  exact ⟨_, rfl, _, _, _, [], _, [], hW', trodAll_mk1 (shut_bool Tryz.underlying4 _), (trodAll_cons_mk (Below.trod laidOut (by kernel_rfl) (of_decide_eq_true (by kernel_rfl)) kk0 bel lt0) (trodAll_cons_mk (Below.trod laidOut (by kernel_rfl) (of_decide_eq_true (by kernel_rfl)) kk1 bel lt1) (trodAll_cons_mk (Below.trod laidOut (by kernel_rfl) (of_decide_eq_true (by kernel_rfl)) kk2 bel lt2) trodAll_mk0))), rfl, bel.frame _, fun h => by cases h⟩

theorem over : Rows.TwinsChecksSaid :=
  OpenClaim.holds_of_wide 3 Tryz.f3 rfl rfl rfl rfl rfl rfl rfl ⟨rfl, rfl, rfl, rfl, rfl⟩ rfl rfl rfl rfl rfl (by kernel_rfl) Tryz.func3 (by kernel_rfl)
    (of_decide_eq_true (by kernel_rfl)) (by unfold Func.isWrapper; first | (rw [if_pos (by decide +kernel)]; kernel_rfl) | (rw [if_neg (by decide +kernel)]; exact ⟨rfl, rfl⟩))
    (fun os started H enc _ => lifted os started H enc)

/-- The tied card. -/
theorem card_holds : Rows.TwinsChecksCardSaid :=
  Claim7.holds_tied_plain_at .later [] [.handle, .sentinel, .sentinel, .sentinel, .sentinel, .sentinel, .sentinel, .sentinel, .sentinel, .sentinel, .sentinel, .sentinel, .sentinel] true _ _
    over (fun _ h => by cases h) (by kernel_rfl) (fun _ h => by cases h) twinsChecks_row_tie rfl ⟨rfl, rfl⟩ (by kernel_rfl) rfl
    (fun f fn hf hfn => by
      obtain rfl : f = 3 := Option.some.inj ((show Tryz.prog.funcNamed Rows.twinsChecksRow.func = some 3 by kernel_rfl).symm.trans hf) |>.symm
      obtain rfl : fn = Tryz.f3 := (Option.some.inj (Tryz.func3.symm.trans hfn)).symm
      exact ⟨by kernel_rfl, fun j t ht => by
        rw [Tryz.params3] at ht
        have hm : t ∈ [24, 22, 22] := by simpa using Array.mem_of_getElem? ht
        have hall : ([24, 22, 22].all fun u => !Tryz.prog.wantsStandIn u) = true := by kernel_rfl
        exact (show Tryz.prog.wantsStandIn t = false by simpa using List.all_eq_true.1 hall t hm)⟩)
    (by kernel_rfl)
end TwinsChecksP
#print axioms TwinsChecksP.card_holds
end Go.Proofs.YtmhiambkfdkkbaaGreatDoor
