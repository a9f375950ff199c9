/-
  Proved: the law edenlaw15.TwinsForms as its tied card: it returns true and never panics, for any rule and any list. No conditions beyond the card's own.
  Walks: forms.inner and the function that it hands to forms.made; forms.Narrow.
  Walk: edenlaw15.TwinsForms returns true.
  Opening what a call is handed: []int, api.Rule, the package-level errors.
-/
import Derived.Test.YthnkdiejmclmkaaDoorMTf8
import Derived.Test.YthnkdiejmclmkaaDoorRows
import Derived.ProofKit
import Derived.OpenShut
import Derived.ShutString
import Derived.ChangeOld
import Derived.LaidMore
import Derived.Stop.Joined
import Derived.Stop.LaidErr
import Derived.Lib.SmallJoins
import Derived.Test.YthnkdiejmclmkaaDoorCards
import Derived.Test.YthnkdiejmclmkaaDoorTie
import Derived.SevenTiedAt
namespace Go.Proofs.YthnkdiejmclmkaaDoor
open Go.RowKit
set_option maxRecDepth 100000

set_option maxHeartbeats 1000000 in
theorem inner1_any (K Q P : Nat) (hP : P = Q + 1) (va : Option Addr) (vn vc : Nat) (T : List Int) (p : Nat) (v : Value) (ys : List Int) (w : World)
    (h : IntsAt w (.slice va vn vc) T) (hr : RuleOk K P T) (hv : IntsAt w v ys) (hy : Syms K ys) (hyl : ys.length = 2 * Q + 1)
    (x0 : w.cell? ⟨p, 0, none⟩ = some (.int .i64 K)) (x1 : w.cell? ⟨p, 1, none⟩ = some (.int .i64 P)) (x2 : w.cell? ⟨p, 2, none⟩ = some (.slice va vn vc)) :
    Calls Tryd.prog 80 #[v, .pointer (some ⟨p, 0, none⟩)] w (Ret1 (fun x _ => x = .int .i64 (T.getD (numW K ([0] ++ ys ++ [0])) 0)) w) := by
  have hR := hr.r3
  have hK := hr.k1
  have lv := hv.len
  obtain ⟨ua, un, uc, rfl⟩ := hv.shape
  obtain ⟨L, hL⟩ : ∃ L, ys.length = L := ⟨_, rfl⟩
  have hL7 : L ≤ 7 := by omega
  obtain ⟨ov, w1, hmk, hout, hb1⟩ := run_makeI ((L : Int) + 2) (L + 2) w (by omega) (by omega)
  obtain ⟨dp, dLen, dCap, hsl, hd1, hd2⟩ := hout.post 1 (by simp)
  have hsl2 : ∀ w', (Instr.slice 22 ov (some (.int .i64 1)) none none).run Tryd.prog w' = .ok (.slice dp dLen dCap) w' := hsl
  have hol : (List.replicate (L + 2) (0 : Int)).length = L + 2 := by simp
  obtain ⟨w2, hcp, ho2, hb2, _⟩ := run_copyI 1 3 dp dLen dCap hout (hv.below hb1) rfl (by omega) (by omega) (fun hh => hd2 (by omega))
  have e1 : (List.replicate (L + 2) (0 : Int)).take 1 ++ ys ++ (List.replicate (L + 2) (0 : Int)).drop (1 + ys.length) = [0] ++ ys ++ [0] := by
    rw [List.take_replicate, List.drop_replicate, hL, show min 1 (L + 2) = 1 by omega, show L + 2 - (1 + L) = 1 by omega]; rfl
  rw [e1] at ho2
  have hb12 := hb1.trans hb2
  have hs : Syms K ([0] ++ ys ++ [0]) := by
    intro y hy'
    rcases List.mem_append.1 hy' with hy' | hy'
    · rcases List.mem_append.1 hy' with hy' | hy'
      · rw [List.mem_singleton] at hy'; subst hy'; omega
      · exact hy y hy'
    · rw [List.mem_singleton] at hy'; subst hy'; omega
  have hsl3 : ([0] ++ ys ++ [0]).length = 2 * P + 1 := by simp; omega
  generalize ([0] ++ ys ++ [0]) = zs at *
  replace hP := Lib.hid hP
  generalize hY : T.getD (numW K zs) 0 = Y
  obtain ⟨oa, on, oc, rfl⟩ := hout.at.shape
  obtain ⟨y0, y1, y2⟩ := keep3 hb12 ⟨x0, x1, x2⟩
  rw [hL] at lv hcp
  replace hY := Lib.hid hY
  replace h := Lib.hid (h.below hb12)
  replace hr := Lib.hid hr
  replace hs := Lib.hid hs
  replace hsl3 := Lib.hid hsl3
  replace hL := Lib.hid hL
  replace hyl := Lib.hid hyl
  replace ho2 := Lib.hid ho2
  clear hd1 hd2 hsl hout hol e1 hv hy
  go_enter Tryd.func80, Tryd.ntmps80
  go_wp2_with fail
  refine (symbol_any K P va vn vc T (.slice oa on oc) zs w2 h.out hr.out ho2.out.at hs.out hsl3.out).mono ?_
  rintro e w3 ⟨x, rfl, b3, rfl⟩
  rw [hY.out]
  go_wp2
  go_ret
  exact ⟨_, rfl, Below.step hb12 b3, rfl⟩
theorem eg_inner1 (args : Array Value) (w : World) : (callFunc 80 args).run Tryd.prog w = .ok (.enter 80 args) w := by kernel_rfl
theorem madeP_narr (K Q : Nat) (T : List Int) : madeP K (2 * Q + 1) (fun ys => T.getD (numW K ([0] ++ ys ++ [0])) 0) (pw K (2 * Q + 1)) = narrT K Q T := rfl

theorem inner_zero (K : Nat) (va : Option Addr) (vn vc : Nat) (w : World) :
    Calls Tryd.prog 41 #[.agg #[.int .i64 K, .int .i64 0, .slice va vn vc]] w (Ret2 (fun x y _ => x = .agg #[.int .i64 K, .int .i64 0, .slice va vn vc] ∧ y = .bool false) w) := by
  have b1 := Below.step (belowAlloc w (.cells #[.int .i64 K, .int .i64 0, .slice va vn vc] 24)) (belowAlloc _ (.cells #[.int .i64 K, .int .i64 0, .slice va vn vc] 24))
  go_enter Tryd.func41, Tryd.ntmps41
  go_wp2
  refine bodyPost_ret (v := .tuple #[.agg #[.int .i64 K, .int .i64 0, .slice va vn vc], .bool false]) (by simp [results, Tryd.results41, go_sem]) rfl ⟨_, _, rfl, b1, rfl, rfl⟩

set_option maxHeartbeats 1000000 in
theorem inner_pos (K Q : Nat) (va : Option Addr) (vn vc : Nat) (T : List Int) (w : World) (h : IntsAt w (.slice va vn vc) T) (hr : RuleOk K (Q + 1) T) :
    Calls Tryd.prog 41 #[.agg #[.int .i64 K, .int .i64 ((Q + 1 : Nat) : Int), .slice va vn vc]] w (Ret2 (fun x y w' => ∃ a n c, x = .agg #[.int .i64 K, .int .i64 Q, .slice a n c] ∧ OwnI w.heap.size w' (.slice a n c) (narrT K Q T) ∧ y = .bool (decide (wideT K Q 1 (narrT K Q T) = T))) w) := by
  have b0 := Below.step (belowAlloc w (.cells #[.int .i64 K, .int .i64 ((Q + 1 : Nat) : Int), .slice va vn vc] 24)) (belowAlloc _ (.cells #[.int .i64 0, .int .i64 0, .slice none 0 0] 24))
  have q2 : Box3 ((w.alloc (.cells #[.int .i64 K, .int .i64 ((Q + 1 : Nat) : Int), .slice va vn vc] 24)).alloc (.cells #[.int .i64 0, .int .i64 0, .slice none 0 0] 24)) (w.heap.size + 1) (.int .i64 0) (.int .i64 0) (.slice none 0 0) := by simp [Box3, go_sem]
  have q1 : Box3 ((w.alloc (.cells #[.int .i64 K, .int .i64 ((Q + 1 : Nat) : Int), .slice va vn vc] 24)).alloc (.cells #[.int .i64 0, .int .i64 0, .slice none 0 0] 24)) w.heap.size (.int .i64 K) (.int .i64 ((Q + 1 : Nat) : Int)) (.slice va vn vc) := by simp [Box3, go_sem]
  have hk1 := hr.k1
  have hk4 := hr.k4
  have hR3 := hr.r3
  obtain ⟨Ri, hRi⟩ : ∃ Ri : Int, ((Q + 1 : Nat) : Int) = Ri := ⟨_, rfl⟩
  rw [hRi] at b0 q1 q2 ⊢
  have hR0 : (Ri == 0) = false := by rw [beq_eq_false_iff_ne]; omega
  have hR1 : ¬ Ri = 0 := by omega
  have hR2 : Ri - 1 = (Q : Int) := by omega
  have hQ3 : Q ≤ 3 := by omega
  have hRi3 : 0 ≤ Ri ∧ Ri ≤ 3 := by omega
  replace hRi := Lib.hid hRi
  replace h := Lib.hid (h.below b0)
  replace hr := Lib.hid hr
  obtain ⟨W0, hW0⟩ : ∃ W0 : World, W0 = (w.alloc (.cells #[.int .i64 K, .int .i64 Ri, .slice va vn vc] 24)).alloc (.cells #[.int .i64 0, .int .i64 0, .slice none 0 0] 24) := ⟨_, rfl⟩
  have s0 : W0.heap.size = w.heap.size + 2 := by rw [hW0]; simp
  rw [← hW0] at b0 q1 q2 h
  have q1x := q1
  obtain ⟨⟨z0, z1, z2⟩, -, -, -⟩ := q1x
  replace hW0 := Lib.hid hW0
  replace s0 := Lib.hid s0
  go_enter Tryd.func41, Tryd.ntmps41
  go_wp2_with fail
  rw [← hW0.out]
  refine (made_one K Q _ _ (fun ys => T.getD (numW K ([0] ++ ys ++ [0])) 0) W0 hk1 hk4 hQ3 _ rfl eg_inner1 (fun v ys w' hB hv hy hyl => by
    have := q1.below hB
    exact inner1_any K Q (Q + 1) rfl va vn vc T _ v ys w' (h.out.below hB) hr.out hv hy hyl this.1.1 (by rw [hRi.out]; exact this.1.2.1) this.1.2.2)).mono ?_
  rintro e w1 ⟨x, rfl, b1, a, n, c, rfl, ho⟩
  rw [madeP_narr] at ho
  have ba := belowAlloc w1 (.cells #[.int .i64 K, .int .i64 Q, .slice a n c] 24)
  have b12 := Below.step b1 ba
  have qi : Box3 (w1.alloc (.cells #[.int .i64 K, .int .i64 Q, .slice a n c] 24)) w1.heap.size (.int .i64 K) (.int .i64 Q) (.slice a n c) := by simp [Box3, go_sem]
  have q12 := q1.below b12
  have q22 := q2.below b12
  obtain ⟨W, hW⟩ : ∃ W : World, W = (w1.alloc (.cells #[.int .i64 K, .int .i64 Q, .slice a n c] 24)).drew := ⟨_, rfl⟩
  have ho2 : OwnI W0.heap.size W (.slice a n c) (narrT K Q T) := by rw [hW]; exact (ho.below ba).drew
  have q1W : Box3 W w.heap.size (.int .i64 K) (.int .i64 Ri) (.slice va vn vc) := by rw [hW]; exact q12
  have qiW : Box3 W w1.heap.size (.int .i64 K) (.int .i64 Q) (.slice a n c) := by rw [hW]; exact qi
  have q2W : Box3 W (w.heap.size + 1) (.int .i64 0) (.int .i64 0) (.slice none 0 0) := by rw [hW]; exact q22
  have bW : Below W0.heap.size W0 W := by rw [hW]; exact b12.drew
  have hTW := h.out.below bW
  have s1 := b1.size
  replace ho := Lib.hid ho
  replace ho2 := Lib.hid ho2
  replace hTW := Lib.hid hTW
  clear z0 z1 z2
  go_upto_region 4 with fail
  refine wp_region_plan (fun w' => w'.cell? ⟨w1.heap.size, 0, none⟩ = some (.int .i64 K) ∧ w'.cell? ⟨w1.heap.size, 1, none⟩ = some (.int .i64 Q) ∧ w'.cell? ⟨w1.heap.size, 2, none⟩ = some (.slice a n c) ∧ w'.cell? ⟨w.heap.size, 1, none⟩ = some (.int .i64 Ri) ∧ w'.cell? ⟨w.heap.size, 2, none⟩ = some (.slice va vn vc)) 9 [(0, true), (1, true), (2, true), (3, true), (6, true), (7, true), (4, false), (5, true), (8, false)] (by kernel_rfl) (by kernel_rfl) ?_
  rw [← hW]
  replace hW := Lib.hid hW
  have hS : W.cell? ⟨w1.heap.size, 0, none⟩ = some (.int .i64 K) ∧ W.cell? ⟨w1.heap.size, 1, none⟩ = some (.int .i64 Q) ∧ W.cell? ⟨w1.heap.size, 2, none⟩ = some (.slice a n c) ∧ W.cell? ⟨w.heap.size, 1, none⟩ = some (.int .i64 Ri) ∧ W.cell? ⟨w.heap.size, 2, none⟩ = some (.slice va vn vc) := ⟨qiW.1.1, qiW.1.2.1, qiW.1.2.2, q1W.1.2.1, q1W.1.2.2⟩
  refine headY (v := ?_) (some 16) rfl rfl (Or.inl ⟨by rfl, ?_⟩) hS ?_
  rotate_left
  · rintro W' ⟨s0, s1, s2, s3, s4⟩; go_simp; try with_reducible rfl
  simp only [Act.put, List.setIfInBounds_toArray, List.set_cons_zero, List.set_cons_succ]
  refine headY (v := ?_) (some 17) rfl rfl (Or.inl ⟨by rfl, ?_⟩) hS ?_
  rotate_left
  · rintro W' ⟨s0, s1, s2, s3, s4⟩; go_simp; try with_reducible rfl
  simp only [Act.put, List.setIfInBounds_toArray, List.set_cons_zero, List.set_cons_succ]
  refine headY (v := ?_) (some 18) rfl rfl (Or.inl ⟨by rfl, ?_⟩) hS ?_
  rotate_left
  · rintro W' ⟨s0, s1, s2, s3, s4⟩; go_simp; try with_reducible rfl
  simp only [Act.put, List.setIfInBounds_toArray, List.set_cons_zero, List.set_cons_succ]
  refine headY (v := ?_) (some 19) rfl rfl (Or.inl ⟨by rfl, ?_⟩) hS ?_
  rotate_left
  · rintro W' ⟨s0, s1, s2, s3, s4⟩; go_simp; try with_reducible rfl
  simp only [Act.put, List.setIfInBounds_toArray, List.set_cons_zero, List.set_cons_succ]
  refine headY (v := ?_) (some 22) rfl rfl (Or.inl ⟨by rfl, ?_⟩) hS ?_
  rotate_left
  · rintro W' ⟨s0, s1, s2, s3, s4⟩; go_simp; try with_reducible rfl
  simp only [Act.put, List.setIfInBounds_toArray, List.set_cons_zero, List.set_cons_succ]
  refine headY (v := ?_) (some 23) rfl rfl (Or.inl ⟨by rfl, ?_⟩) hS ?_
  rotate_left
  · rintro W' ⟨s0, s1, s2, s3, s4⟩; go_simp; try with_reducible rfl
  simp only [Act.put, List.setIfInBounds_toArray, List.set_cons_zero, List.set_cons_succ]
  refine headC rfl (fun KK hK => ?_)
  go_simp
  refine (widened_any K Q 1 a n c (narrT K Q T) W ho2.out.at (narrT_ok hr.out) hR3 Ri hRi.out.symm).mono ?_
  rintro e w3 ⟨x, rfl, b3, a3, n3, c3, rfl, ho3⟩
  have kb : ∀ {p : Addr} {v : Value}, W.cell? p = some v → w3.cell? p = some v := fun {p v} hp => (b3.cell (World.block_lt_of_cell? _ _ hp)).trans hp
  have hS3 : w3.cell? ⟨w1.heap.size, 0, none⟩ = some (.int .i64 K) ∧ w3.cell? ⟨w1.heap.size, 1, none⟩ = some (.int .i64 Q) ∧ w3.cell? ⟨w1.heap.size, 2, none⟩ = some (.slice a n c) ∧ w3.cell? ⟨w.heap.size, 1, none⟩ = some (.int .i64 Ri) ∧ w3.cell? ⟨w.heap.size, 2, none⟩ = some (.slice va vn vc) := ⟨kb hS.1, kb hS.2.1, kb hS.2.2.1, kb hS.2.2.2.1, kb hS.2.2.2.2⟩
  clear kb
  replace ho3 := Lib.hid ho3
  have hfd := field_T
  refine hK _ _ hS3 ?_
  clear hK KK
  refine headY (v := ?_) (some 21) rfl rfl (Or.inl ⟨by rfl, ?_⟩) hS3 ?_
  rotate_left
  · rintro W' ⟨s0, s1, s2, s3, s4⟩; go_simp; try with_reducible rfl
  simp only [Act.put, List.setIfInBounds_toArray, List.set_cons_zero, List.set_cons_succ]
  refine headC rfl (fun KK hK => ?_)
  go_simp
  refine (equal_any (.slice a3 n3 c3) (.slice va vn vc) _ _ w3 ho3.out.at (hTW.out.below b3)).mono ?_
  rintro e w4 h4
  obtain ⟨rfl, b4⟩ := h4.below
  clear h4
  have kb : ∀ {p : Addr} {v : Value}, w3.cell? p = some v → w4.cell? p = some v := fun {p v} hp => (b4.cell (World.block_lt_of_cell? _ _ hp)).trans hp
  have hS4 : w4.cell? ⟨w1.heap.size, 0, none⟩ = some (.int .i64 K) ∧ w4.cell? ⟨w1.heap.size, 1, none⟩ = some (.int .i64 Q) ∧ w4.cell? ⟨w1.heap.size, 2, none⟩ = some (.slice a n c) ∧ w4.cell? ⟨w.heap.size, 1, none⟩ = some (.int .i64 Ri) ∧ w4.cell? ⟨w.heap.size, 2, none⟩ = some (.slice va vn vc) := ⟨kb hS3.1, kb hS3.2.1, kb hS3.2.2.1, kb hS3.2.2.2.1, kb hS3.2.2.2.2⟩
  clear kb
  refine hK _ _ hS4 ?_
  clear hK KK
  refine head0 ?_
  simp only [List.drop_succ_cons, List.drop_zero]
  clear hS hS3 hS4
  have b34 := Below.step b3 b4
  obtain ⟨⟨y0, y1, y2⟩, f0, f1, f2⟩ := q2W.below b34
  have bE := Below.step b0 (Below.step bW b34)
  generalize hdd : decide (wideT K Q 1 (narrT K Q T) = T) = dd
  replace hdd := Lib.hid hdd
  clear q1W qiW q1 q2 qi q12 q22 q2W hfd
  go_wp2
  refine NoPanic.normal ?_
  go_wp2
  refine bodyPost_ret (v := .tuple #[.agg #[.int .i64 K, .int .i64 Q, .slice a n c], .bool dd]) (by simp [results, Tryd.results41, go_sem, y0, y1, y2]) rfl ⟨_, _, rfl, below_set3 bE (Nat.le_succ _) _ _ _, a, n, c, rfl, ?_, by rw [hdd.out]⟩
  have := s0.out
  exact ((((ho2.out.below b34).setBelowBase (a := ⟨w.heap.size + 1, 0, none⟩) (by simp; omega) _).setBelowBase (a := ⟨w.heap.size + 1, 1, none⟩) (by simp; omega) _).setBelowBase (a := ⟨w.heap.size + 1, 2, none⟩) (by simp; omega) _).mono (by omega)

/-- What inner leaves. -/
def InnerPost (B K Q : Nat) (N : List Int) (x y : Value) (w' : World) : Prop :=
  ∃ (Q' : Nat) (a : Option Addr) (n c : Nat), x = .agg #[.int .i64 K, .int .i64 Q', .slice a n c] ∧ ∃ ok, y = .bool ok ∧ (ok = true → ∃ N', Q = Q' + 1 ∧ OwnI B w' (.slice a n c) N' ∧ RuleOk K Q' N' ∧ N = wideT K Q' 1 N') ∧ (ok = false → Least K Q N)
theorem inner_any (K Q : Nat) (va : Option Addr) (vn vc : Nat) (N : List Int) (w : World) (h : IntsAt w (.slice va vn vc) N) (hr : RuleOk K Q N) :
    Calls Tryd.prog 41 #[.agg #[.int .i64 K, .int .i64 Q, .slice va vn vc]] w (Ret2 (InnerPost w.heap.size K Q N) w) := by
  cases Q with
  | zero =>
    refine (inner_zero K va vn vc w).mono ?_
    rintro e w' ⟨x, y, rfl, b, rfl, rfl⟩
    exact ⟨.agg #[.int .i64 K, .int .i64 0, .slice va vn vc], .bool false, rfl, b, 0, va, vn, vc, rfl, false, rfl, (fun h => by cases h), fun _ P M e => by omega⟩
  | succ Q =>
    refine (inner_pos K Q va vn vc N w h hr).mono ?_
    rintro e w' ⟨x, y, rfl, b, a, n, c, rfl, ho, rfl⟩
    refine ⟨_, _, rfl, b, Q, a, n, c, rfl, _, rfl, fun h => ?_, fun h => ?_⟩
    · exact ⟨_, rfl, ho, narrT_ok hr, (of_decide_eq_true h).symm⟩
    · exact least_of (of_decide_eq_false h)

theorem narrow_bad (r : Nat → Addr) (k R : Int) (va : Option Addr) (vn vc : Nat) (T : List Int) (t : Int × List (ByteArray × Int)) (w : World) (hg : Glob r w) (h : IntsAt w (.slice va vn vc) T) (hc : checkP k R T = some t) :
    Calls Tryd.prog 12 #[.agg #[.int .i64 k, .int .i64 R, .slice va vn vc]] w (Ret2 (fun x y w' => x = zR ∧ ErrIs r w' (under sForms 0 (some t)) y) w) := by
  have b0 := Below.step (belowAlloc w (.cells #[.int .i64 k, .int .i64 R, .slice va vn vc] 24)) (belowAlloc _ (.cells #[.int .i64 0, .int .i64 0, .slice none 0 0] 24))
  have q2 : Box3 ((w.alloc (.cells #[.int .i64 k, .int .i64 R, .slice va vn vc] 24)).alloc (.cells #[.int .i64 0, .int .i64 0, .slice none 0 0] 24)) (w.heap.size + 1) (.int .i64 0) (.int .i64 0) (.slice none 0 0) := by simp [Box3, go_sem]
  replace hg := Lib.hid (hg.below b0)
  replace h := Lib.hid (h.below b0)
  replace hc := Lib.hid hc
  go_enter Tryd.func12, Tryd.ntmps12
  go_wp2_with fail
  refine (forms_check r _ k R va vn vc T _ hg.out h.out).mono ?_
  rintro e w1 ⟨x, rfl, hb, he⟩
  rw [hc.out] at he
  obtain ⟨T1, a1, rfl⟩ := ErrIs.some_shape he
  replace he := Lib.hid he
  obtain ⟨⟨y0, y1, y2⟩, f0, f1, f2⟩ := q2.below hb
  go_wp2
  rw [setCell_self3 y0 y1 y2]
  exact bodyPost_ret (v := .tuple #[zR, .iface T1 (.pointer (some a1))]) (by simp [results, Tryd.results12, go_sem, y0, y1, y2]) rfl ⟨_, _, rfl, Below.step b0 hb, rfl, he.out⟩

set_option maxHeartbeats 2000000 in
theorem narrow_ok (r : Nat → Addr) (K R : Nat) (va : Option Addr) (vn vc : Nat) (T : List Int) (w : World) (hg : Glob r w) (h : IntsAt w (.slice va vn vc) T) (hr : RuleOk K R T) :
    Calls Tryd.prog 12 #[.agg #[.int .i64 K, .int .i64 R, .slice va vn vc]] w (Ret2 (fun x y w' => y = .nilIface ∧ ∃ Q N a n c, x = .agg #[.int .i64 K, .int .i64 ((Q : Nat) : Int), .slice a n c] ∧ OwnI w.heap.size w' (.slice a n c) N ∧ NarrIs K R T Q N) w) := by
  have b0 := Below.step (belowAlloc w (.cells #[.int .i64 K, .int .i64 R, .slice va vn vc] 24)) (belowAlloc _ (.cells #[.int .i64 0, .int .i64 0, .slice none 0 0] 24))
  have q2 : Box3 ((w.alloc (.cells #[.int .i64 K, .int .i64 R, .slice va vn vc] 24)).alloc (.cells #[.int .i64 0, .int .i64 0, .slice none 0 0] 24)) (w.heap.size + 1) (.int .i64 0) (.int .i64 0) (.slice none 0 0) := by simp [Box3, go_sem]
  have q1 : Box3 ((w.alloc (.cells #[.int .i64 K, .int .i64 R, .slice va vn vc] 24)).alloc (.cells #[.int .i64 0, .int .i64 0, .slice none 0 0] 24)) w.heap.size (.int .i64 K) (.int .i64 R) (.slice va vn vc) := by simp [Box3, go_sem]
  have hR3 := hr.r3
  have hck := Lib.hid hr.check
  have hwz := wideT_zero hr
  replace hwz := Lib.hid hwz
  obtain ⟨W0, hW0⟩ : ∃ W0 : World, W0 = (w.alloc (.cells #[.int .i64 K, .int .i64 R, .slice va vn vc] 24)).alloc (.cells #[.int .i64 0, .int .i64 0, .slice none 0 0] 24) := ⟨_, rfl⟩
  have s0 : W0.heap.size = w.heap.size + 2 := by rw [hW0]; simp
  rw [← hW0] at b0 q1 q2
  replace hg := Lib.hid (hg.below b0)
  replace h := Lib.hid (h.below b0)
  replace hr := Lib.hid hr
  replace hW0 := Lib.hid hW0
  replace s0 := Lib.hid s0
  go_enter Tryd.func12, Tryd.ntmps12
  go_wp2_with fail
  rw [← hW0.out]
  refine (forms_check r _ K R va vn vc T _ hg.out h.out).mono ?_
  rintro e w1 ⟨x, rfl, hb, he⟩
  rw [hck.out] at he
  obtain rfl := ErrIs.none_eq he
  obtain ⟨⟨z0, z1, z2⟩, f0, f1, f2⟩ := q1.below hb
  go_wp2_with fail
  refine (widened_any K R 0 va vn vc T w1 (h.out.below hb) hr.out (by omega) R rfl).mono ?_
  rintro e w2 ⟨x, rfl, b2, a, n, c, rfl, ho⟩
  rw [hwz.out] at ho
  rw [Nat.add_zero]
  have s1 := hb.size
  have q12 := q1.below (Below.step hb b2)
  have q22 := q2.below (Below.step hb b2)
  obtain ⟨W3, hW3⟩ : ∃ W3 : World, W3 = ((w2.setCell ⟨w.heap.size, 0, none⟩ (.int .i64 K)).setCell ⟨w.heap.size, 1, none⟩ (.int .i64 R)).setCell ⟨w.heap.size, 2, none⟩ (.slice a n c) := ⟨_, rfl⟩
  have q1W : Box3 W3 w.heap.size (.int .i64 K) (.int .i64 R) (.slice a n c) := by rw [hW3]; exact q12.st3 _ _ _
  have q2W : Box3 W3 (w.heap.size + 1) (.int .i64 0) (.int .i64 0) (.slice none 0 0) := by rw [hW3]; exact q22.st3_far (by omega) _ _ _
  have hoW : OwnI (w.heap.size + 2) W3 (.slice a n c) T := by rw [hW3]; exact (ho.mono (by have := s0.out; omega)).set3 (by omega) _ _ _
  have bW : Below w.heap.size w W3 := by rw [hW3]; exact below_st3 (Below.step b0 (Below.step hb b2)) (Nat.le_refl _) _ _ _
  have sW : w.heap.size + 2 ≤ W3.heap.size := by
    have e := b2.size
    have e2 := s0.out
    have e3 : W3.heap.size = w2.heap.size := by rw [hW3]; exact st3_size _ _ _ _ _
    omega
  replace hW3 := Lib.hid hW3
  replace hoW := Lib.hid hoW
  clear z0 z1 z2 f0 f1 f2 q1 q2 q22 ho
  obtain ⟨⟨z0, z1, z2⟩, f0, f1, f2⟩ := q12
  go_wp2_with fail
  rw [← hW3.out]
  refine (inner_any K R a n c T W3 hoW.out.at hr.out).mono ?_
  rintro e w4 ⟨x, y, rfl, b4, Q', a', n', c', rfl, ok, rfl, hyes, hno⟩
  have ba := belowAlloc w4 (.cells #[.int .i64 K, .int .i64 Q', .slice a' n' c'] 24)
  have b4a := Below.step b4 ba
  have qi : Box3 (w4.alloc (.cells #[.int .i64 K, .int .i64 Q', .slice a' n' c'] 24)) w4.heap.size (.int .i64 K) (.int .i64 Q') (.slice a' n' c') := by simp [Box3, go_sem]
  have q1W' : Box3 (w4.alloc (.cells #[.int .i64 K, .int .i64 Q', .slice a' n' c'] 24)) w.heap.size (.int .i64 K) (.int .i64 R) (.slice a n c) := q1W.below b4a
  have q2W' := q2W.below b4a
  have hoW' := hoW.out.below b4a
  have s4 := b4.size
  have bE := bW.trans (b4a.mono bW.size)
  replace hyes := Lib.hid hyes
  replace hno := Lib.hid hno
  replace hoW' := Lib.hid hoW'
  clear z0 z1 z2 f0 f1 f2
  go_wp2_with fail
  go_loopw [5, 6] (fun pv kv wr => ∃ (Q : Nat) (N : List Int) (a : Option Addr) (n c Q' : Nat) (a' : Option Addr) (n' c' : Nat) (ok : Bool) (b5 : Nat), pv = .pointer (some ⟨b5, 0, none⟩) ∧ kv = .bool ok ∧
      Box3 wr w.heap.size (.int .i64 K) (.int .i64 Q) (.slice a n c) ∧ Box3 wr b5 (.int .i64 K) (.int .i64 Q') (.slice a' n' c') ∧ w.heap.size + 2 ≤ b5 ∧ OwnI (w.heap.size + 2) wr (.slice a n c) N ∧ RuleOk K Q N ∧ (∃ d, R = Q + d ∧ T = wideT K Q d N) ∧
      (ok = true → ∃ N', Q = Q' + 1 ∧ OwnI (w.heap.size + 2) wr (.slice a' n' c') N' ∧ RuleOk K Q' N' ∧ N = wideT K Q' 1 N') ∧ (ok = false → Least K Q N) ∧ Box3 wr (w.heap.size + 1) (.int .i64 0) (.int .i64 0) (.slice none 0 0) ∧ Below w.heap.size w wr)
    (fun _ _ wr => match wr.cell? ⟨w.heap.size, 1, none⟩ with | some v => (intOf v).toNat | none => 0)
  case atStart =>
    refine ⟨R, T, a, n, c, Q', a', n', c', ok, _, rfl, rfl, q1W', qi, by omega, hoW'.out, hr.out, ⟨0, rfl, hwz.out.symm⟩, fun h => ?_, hno.out, q2W', bE⟩
    obtain ⟨N', e1, e2, e3, e4⟩ := hyes.out h
    exact ⟨N', e1, (e2.below ba).mono sW, e3, e4⟩
  case round =>
    clear hyes hno hoW' q1W' qi q2W' q2W
    obtain ⟨Q, N, a, n, c, Q', a', n', c', ok, b5, rfl, rfl, qr, qi, hb5, hoN, hrN, hd, hyes, hno, qz, bR⟩ := hrel
    obtain ⟨wo, rfl⟩ : ∃ wo : World, wo = wr := ⟨_, rfl⟩
    cases ok with
    | true =>
      obtain ⟨N', eQ, hoN', hrN', eN⟩ := hyes rfl
      obtain ⟨d, eR, eT⟩ := hd
      have hd' : R = Q' + (1 + d) ∧ T = wideT K Q' (1 + d) N' := ⟨by omega, by rw [eT, eN, eQ, wideT_wideT hrN'.k1]⟩
      have szo : b5 < wo.heap.size := World.block_lt_of_cell? _ _ qi.1.1
      obtain ⟨W5, hW5⟩ : ∃ W5 : World, W5 = ((wo.setCell ⟨w.heap.size, 0, none⟩ (.int .i64 K)).setCell ⟨w.heap.size, 1, none⟩ (.int .i64 Q')).setCell ⟨w.heap.size, 2, none⟩ (.slice a' n' c') := ⟨_, rfl⟩
      have qr5 : Box3 W5 w.heap.size (.int .i64 K) (.int .i64 Q') (.slice a' n' c') := by rw [hW5]; exact qr.st3 _ _ _
      have qz5 : Box3 W5 (w.heap.size + 1) (.int .i64 0) (.int .i64 0) (.slice none 0 0) := by rw [hW5]; exact qz.st3_far (by omega) _ _ _
      have qi5 : Box3 W5 b5 (.int .i64 K) (.int .i64 Q') (.slice a' n' c') := by rw [hW5]; exact qi.st3_far (by omega) _ _ _
      have ho5 : OwnI (w.heap.size + 2) W5 (.slice a' n' c') N' := by rw [hW5]; exact hoN'.set3 (by omega) _ _ _
      have b05 : Below w.heap.size w W5 := by rw [hW5]; exact below_st3 bR (Nat.le_refl _) _ _ _
      have sz0 : W5.heap.size = wo.heap.size := by rw [hW5]; exact st3_size _ _ _ _ _
      have s5 : w.heap.size + 2 ≤ W5.heap.size := by omega
      have ba5 := belowAlloc W5 (.cells #[.int .i64 K, .int .i64 Q', .slice a' n' c'] 24)
      have hoA := ho5.below ba5
      have qrA := qr5.below ba5
      have qj : Box3 (W5.alloc (.cells #[.int .i64 K, .int .i64 Q', .slice a' n' c'] 24)) wo.heap.size (.int .i64 K) (.int .i64 Q') (.slice a' n' c') := by rw [← sz0]; simp [Box3, go_sem]
      replace hW5 := Lib.hid hW5
      replace hoA := Lib.hid hoA
      have hcw := Lib.hid qr.1.2.1
      obtain ⟨⟨i0, i1, i2⟩, -, -, -⟩ := qi
      obtain ⟨⟨z0, z1, z2⟩, f0, f1, f2⟩ := qr
      clear hoN hyes hno eN eR eT hoN'
      replace eQ := Lib.hid eQ
      replace hd' := Lib.hid hd'
      replace hrN' := Lib.hid hrN'
      go_upto_region 9 with fail
      rw [← hW5.out]
      clear z0 z1 z2 f0 f1 f2 i0 i1 i2
      obtain ⟨⟨i0, i1, i2⟩, -, -, -⟩ := qi5
      have qrAx := qrA
      obtain ⟨⟨z0, z1, z2⟩, -, -, -⟩ := qrAx
      go_wp2_with fail
      refine (inner_any K Q' a' n' c' N' _ hoA.out.at hrN'.out).mono ?_
      rintro e w6 ⟨x, y, rfl, b6, Q2, a2, n2, c2, rfl, ok2, rfl, hy2, hn2⟩
      clear z0 z1 z2 i0 i1 i2
      have qj6 := qj.below b6
      have qr6 := qrA.below b6
      have qz6 := (qz5.below ba5).below b6
      have b56 := Below.step ba5 b6
      have ho6 := hoA.out.below b6
      have s6 : wo.heap.size < w6.heap.size := World.block_lt_of_cell? _ _ qj6.1.1
      obtain ⟨W7, hW7⟩ : ∃ W7 : World, W7 = ((w6.setCell ⟨wo.heap.size, 0, none⟩ (.int .i64 K)).setCell ⟨wo.heap.size, 1, none⟩ (.int .i64 Q2)).setCell ⟨wo.heap.size, 2, none⟩ (.slice a2 n2 c2) := ⟨_, rfl⟩
      have qr7 : Box3 W7 w.heap.size (.int .i64 K) (.int .i64 Q') (.slice a' n' c') := by rw [hW7]; exact qr6.st3_far (by omega) _ _ _
      have qz7 : Box3 W7 (w.heap.size + 1) (.int .i64 0) (.int .i64 0) (.slice none 0 0) := by rw [hW7]; exact qz6.st3_far (by omega) _ _ _
      have qj7 : Box3 W7 wo.heap.size (.int .i64 K) (.int .i64 Q2) (.slice a2 n2 c2) := by rw [hW7]; exact qj6.st3 _ _ _
      have b57 : Below W5.heap.size W5 W7 := by rw [hW7]; exact below_st3 b56 (by omega) _ _ _
      have ho7 := ho5.below b57
      have hy7 : ok2 = true → ∃ N'', Q' = Q2 + 1 ∧ OwnI (w.heap.size + 2) W7 (.slice a2 n2 c2) N'' ∧ RuleOk K Q2 N'' ∧ N' = wideT K Q2 1 N'' := fun h => by
        obtain ⟨N'', e1, e2, e3, e4⟩ := hy2 h
        refine ⟨N'', e1, ?_, e3, e4⟩
        rw [hW7]
        exact (e2.set3 (b := wo.heap.size) (by simp; omega) _ _ _).mono (by simp; omega)
      have bE7 := b05.trans (b57.mono b05.size)
      replace hW7 := Lib.hid hW7
      replace hy7 := Lib.hid hy7
      replace hn2 := Lib.hid hn2
      replace ho7 := Lib.hid ho7
      replace ho6 := Lib.hid ho6
      replace hy2 := Lib.hid hy2
      have qr8 := qr7
      obtain ⟨⟨r0, r1, r2⟩, -, -, -⟩ := qr8
      obtain ⟨⟨j0, j1, j2⟩, g0, g1, g2⟩ := qj6
      go_wp2
      go_roundw
      case rel =>
        rw [← hW7.out]
        exact ⟨Q', N', a', n', c', Q2, a2, n2, c2, ok2, wo.heap.size, rfl, rfl, qr7, qj7, by omega, ho7.out, hrN'.out, ⟨_, hd'.out.1, hd'.out.2⟩, hy7.out, hn2.out, qz7, bE7⟩
      case measure =>
        rw [← hW7.out]
        have := eQ.out
        rw [r1, hcw.out]
        simp [intOf]; omega
    | false =>
      obtain ⟨d, eR, eT⟩ := hd
      have hl := hno rfl
      clear hyes hno qi
      replace hl := Lib.hid hl
      replace eR := Lib.hid eR
      replace eT := Lib.hid eT
      replace hrN := Lib.hid hrN
      replace hoN := Lib.hid hoN
      obtain ⟨⟨z0, z1, z2⟩, f0, f1, f2⟩ := qr
      obtain ⟨⟨y0, y1, y2⟩, g0, g1, g2⟩ := qz
      go_wp2
      refine bodyPost_ret (v := .tuple #[.agg #[.int .i64 K, .int .i64 Q, .slice a n c], .nilIface]) (by simp [results, Tryd.results12, go_sem, y0, y1, y2]) rfl ⟨_, _, rfl, below_set3 bR (Nat.le_succ _) _ _ _, rfl, Q, N, a, n, c, rfl, ?_, hrN.out, hl.out, d, eR.out, eT.out⟩
      exact (hoN.out.set3 (b := w.heap.size + 1) (by omega) _ _ _).mono (by omega)
end Go.Proofs.YthnkdiejmclmkaaDoor

namespace Go.Proofs.YthnkdiejmclmkaaDoor
open Go.RowKit
set_option maxRecDepth 100000

/-- What Finite tells: whether there are none, and the least length (0: none). -/
def TwAns (K R : Nat) (T : List Int) (Y : Bool) (n : Nat) : Prop := (Y = true ∧ n = 0 ∧ ∀ a b, ¬ IsTwins K R T a b) ∨ (Y = false ∧ TwinLen K R T n)
theorem TwAns.same {K R K' R' : Nat} {T T' : List Int} {Y Z : Bool} {n m : Nat} (h : TwAns K R T Y n) (k : TwAns K' R' T' Z m) (f : ∀ a b, IsTwins K R T a b → ∃ c d, IsTwins K' R' T' c d ∧ c.length = a.length) (g : ∀ a b, IsTwins K' R' T' a b → ∃ c d, IsTwins K R T c d ∧ c.length = a.length) : Z = Y ∧ m = n := by
  rcases h with ⟨rfl, rfl, h⟩ | ⟨rfl, h⟩ <;> rcases k with ⟨rfl, rfl, k⟩ | ⟨rfl, k⟩
  · exact ⟨rfl, rfl⟩
  · obtain ⟨⟨a, b, t, _⟩, _⟩ := k
    obtain ⟨c, d, t', _⟩ := g a b t
    exact absurd t' (h c d)
  · obtain ⟨⟨a, b, t, _⟩, _⟩ := h
    obtain ⟨c, d, t', _⟩ := f a b t
    exact absurd t' (k c d)
  · exact ⟨rfl, k.unique (twinLen_of f g h)⟩
theorem TwAns.like {K R K' R' : Nat} {T T' : List Int} {Y Z : Bool} {n m : Nat} (h : TwAns K R T Y n) (k : TwAns K' R' T' Z m) (f : ∀ a b, IsTwins K R T a b → ∃ c d, IsTwins K' R' T' c d) (g : ∀ a b, IsTwins K' R' T' a b → ∃ c d, IsTwins K R T c d) : Z = Y := by
  rcases h with ⟨rfl, rfl, h⟩ | ⟨rfl, h⟩ <;> rcases k with ⟨rfl, rfl, k⟩ | ⟨rfl, k⟩
  · rfl
  · obtain ⟨⟨a, b, t, _⟩, _⟩ := k
    obtain ⟨c, d, t'⟩ := g a b t
    exact absurd t' (h c d)
  · obtain ⟨⟨a, b, t, _⟩, _⟩ := h
    obtain ⟨c, d, t'⟩ := f a b t
    exact absurd t' (k c d)
  · rfl
theorem FinPost.ans {w w' : World} {K R : Nat} {T : List Int} {yes a b e : Value} (h : FinPost w K R T yes a b e w') : e = .nilIface ∧ ∃ Y n, yes = .bool Y ∧ TwAns K R T Y n ∧ (∃ xs, IntsAt w' a xs ∧ xs.length = n) ∧ ∃ u m c, b = .slice u m c := by
  obtain ⟨rfl, ⟨rfl, rfl, rfl, hn⟩ | ⟨rfl, x, y, _, t, hl, _, ha, hb, _⟩⟩ := h
  · exact ⟨rfl, true, 0, rfl, .inl ⟨rfl, rfl, hn⟩, ⟨[], (OwnI.nil 0 w').at, rfl⟩, _, _, _, rfl⟩
  · exact ⟨rfl, false, _, rfl, .inr ⟨rfl, hl⟩, ⟨x, ha.at, rfl⟩, hb.at.shape⟩
theorem narr_len {K R Q : Nat} {T N : List Int} (hr : RuleOk K R T) (h : NarrIs K R T Q N) (hl : T.length ≤ 256) : N.length ≤ 256 := by
  obtain ⟨h1, _, d, rfl, _⟩ := h
  rw [hr.len] at hl
  rw [h1.len]
  exact Nat.le_trans (pw_mono h1.k1 (by omega)) hl

theorem twinsForms_bad (r : Nat → Addr) (k R : Int) (va : Option Addr) (vn vc : Nat) (T : List Int) (v : Value) (t : Int × List (ByteArray × Int)) (w : World) (hg : Glob r w) (h : IntsAt w (.slice va vn vc) T) (hc : smallP k R T = some t) :
    Calls Tryd.prog 3 #[.agg #[.int .i64 k, .int .i64 R, .slice va vn vc], v] w (Ret1 (fun x _ => x = .bool true) w) := by
  have b0 := belowAlloc w (.cells #[.int .i64 k, .int .i64 R, .slice va vn vc] 24)
  have q : Box3 (w.alloc (.cells #[.int .i64 k, .int .i64 R, .slice va vn vc] 24)) w.heap.size (.int .i64 k) (.int .i64 R) (.slice va vn vc) := by simp [Box3, go_sem]
  replace hg := Lib.hid (hg.below b0)
  replace h := Lib.hid (h.below b0)
  replace hc := Lib.hid hc
  go_enter Tryd.func3, Tryd.ntmps3
  go_wp2_with fail
  refine (awake15 r _ hg.out).mono ?_
  rintro e w1 ⟨_, rfl, b1, rfl⟩
  obtain ⟨⟨z0, z1, z2⟩, -, -, -⟩ := q.below b1
  go_wp2_with fail
  refine (finite_bad r k R va vn vc T t w1 (hg.out.below b1) (h.out.below b1) hc.out).mono ?_
  rintro e w2 ⟨x, y, z, u, rfl, b2, rfl, rfl, rfl, hu⟩
  obtain ⟨T2, a2, rfl⟩ : ∃ T a, u = .iface T (.pointer (some a)) := by
    unfold under at hu
    exact ErrIs.some_shape hu
  clear z0 z1 z2 hu
  go_wp2
  go_ret
  exact ⟨_, rfl, Below.step b0 (Below.step b1 b2), rfl⟩

set_option maxHeartbeats 2000000 in
theorem twinsForms_ok (r : Nat → Addr) (K R : Nat) (va : Option Addr) (vn vc : Nat) (T : List Int) (pa : Option Addr) (pn pc : Nat) (p : List Int) (w : World) (hg : Glob r w) (h : IntsAt w (.slice va vn vc) T) (hr : RuleOk K R T) (hl : T.length ≤ 256) (hp : IntsAt w (.slice pa pn pc) p) (hpl : p.length ≤ 17592186044416) :
    Calls Tryd.prog 3 #[.agg #[.int .i64 K, .int .i64 R, .slice va vn vc], .slice pa pn pc] w (Ret1 (fun x _ => x = .bool true) w) := by
  have b0 := belowAlloc w (.cells #[.int .i64 K, .int .i64 R, .slice va vn vc] 24)
  have q : Box3 (w.alloc (.cells #[.int .i64 K, .int .i64 R, .slice va vn vc] 24)) w.heap.size (.int .i64 K) (.int .i64 R) (.slice va vn vc) := by simp [Box3, go_sem]
  have hfin := fun (R : Nat) (T : List Int) (hr : RuleOk K R T) (hl : T.length ≤ 256) (va : Option Addr) (vn vc : Nat) (w' : World) (hgl : Glob r w') (hT : IntsAt w' (.slice va vn vc) T) => finite_ok r K R va vn vc T w' hgl hT hr hl
  have hK1 := hr.k1
  replace hfin := Lib.hid hfin
  replace hg := Lib.hid (hg.below b0)
  replace h := Lib.hid (h.below b0)
  replace hp := Lib.hid (hp.below b0)
  have hmr := Lib.hid (mirT_ok hr)
  have hml : Hid ((mirT K (2 * R + 1) T).length ≤ 256) := Lib.hid (by rw [mirT_length]; exact hl)
  replace hr := Lib.hid hr
  replace hl := Lib.hid hl
  go_enter Tryd.func3, Tryd.ntmps3
  go_wp2_with fail
  refine (awake15 r _ hg.out).mono ?_
  rintro e w1 ⟨_, rfl, b1, rfl⟩
  obtain ⟨⟨z0, z1, z2⟩, -, -, -⟩ := q.below b1
  go_wp2_with fail
  refine (hfin.out R T hr.out hl.out va vn vc w1 (hg.out.below b1) (h.out.below b1)).mono ?_
  rintro e w2 ⟨y1, a, b, e1, rfl, b2, hp1⟩
  obtain ⟨rfl, Y, n, rfl, hA, ⟨xs, hxs, hxn⟩, ⟨c1, c2, c3, rfl⟩⟩ := hp1.ans
  have lxs := hxs.len
  obtain ⟨a1, a2, a3, rfl⟩ := hxs.shape
  rw [hxn] at lxs
  have b12 := Below.step b1 b2
  clear z0 z1 z2 hp1
  obtain ⟨⟨z0, z1, z2⟩, -, -, -⟩ := q.below b12
  replace hA := Lib.hid hA
  replace hxs := Lib.hid hxs
  replace hxn := Lib.hid hxn
  go_wp2_with fail
  refine (fmirror_ok r K R va vn vc T _ (hg.out.below b12) (h.out.below b12) hr.out).mono ?_
  rintro e w3 ⟨_, _, rfl, b3, rfl, ma, mn, mc, rfl, hm⟩
  have b3a := Below.step b3 (belowAlloc w3 (.cells #[.int .i64 K, .int .i64 R, .slice ma mn mc] 24))
  have qm : Box3 (w3.alloc (.cells #[.int .i64 K, .int .i64 R, .slice ma mn mc] 24)) w3.heap.size (.int .i64 K) (.int .i64 R) (.slice ma mn mc) := by simp [Box3, go_sem]
  replace hm := Lib.hid (hm.alloc (.cells #[.int .i64 K, .int .i64 R, .slice ma mn mc] 24))
  have b13 := Below.step b12 b3a
  clear z0 z1 z2
  obtain ⟨⟨z0, z1, z2⟩, -, -, -⟩ := q.below b13
  go_wp2_with fail
  refine (narrow_ok r K R va vn vc T _ (hg.out.below b13) (h.out.below b13) hr.out).mono ?_
  rintro e w4 ⟨_, _, rfl, b4, rfl, Q, N, na, nn, nc, rfl, hn, hN⟩
  have b4a := Below.step b4 (belowAlloc w4 (.cells #[.int .i64 K, .int .i64 Q, .slice na nn nc] 24))
  have qn : Box3 (w4.alloc (.cells #[.int .i64 K, .int .i64 Q, .slice na nn nc] 24)) w4.heap.size (.int .i64 K) (.int .i64 Q) (.slice na nn nc) := by simp [Box3, go_sem]
  replace hn := Lib.hid (hn.alloc (.cells #[.int .i64 K, .int .i64 Q, .slice na nn nc] 24))
  have hnl := Lib.hid (narr_len hr.out hN hl.out)
  have b14 := Below.step b13 b4a
  clear z0 z1 z2
  replace hN := Lib.hid hN
  obtain ⟨⟨z0, z1, z2⟩, -, -, -⟩ := qm.below b4a
  go_wp2_with fail
  refine (hfin.out R _ hmr.out hml.out ma mn mc _ (hg.out.below b14) (hm.out.at.below b4a)).mono ?_
  rintro e w5 ⟨y1, a, b, e1, rfl, b5, hp1⟩
  obtain ⟨rfl, Y2, n2, rfl, hA2, ⟨xs2, hxs2, hxn2⟩, ⟨d1, d2, d3, rfl⟩⟩ := hp1.ans
  have lxs2 := hxs2.len
  obtain ⟨e1, e2, e3, rfl⟩ := hxs2.shape
  obtain ⟨rfl, rfl⟩ := hA.out.same hA2 (fun a b t => ⟨_, _, mir_twins hr.out t, by simp⟩) (fun a b t => ⟨_, _, (twins_mir hr.out).1 t, by simp⟩)
  rw [hxn2] at lxs2
  have b15 := Below.step b14 b5
  clear z0 z1 z2 hp1 hA2 hxs2 hxn2
  obtain ⟨⟨z0, z1, z2⟩, -, -, -⟩ := qn.below b5
  go_wp2_with fail
  refine (hfin.out Q N hN.out.1 hnl.out na nn nc _ (hg.out.below b15) (hn.out.at.below b5)).mono ?_
  rintro e w6 ⟨y1, a, b, e4, rfl, b6, hp1⟩
  obtain ⟨rfl, Y3, n3, rfl, hA3, ⟨xs3, hxs3, hxn3⟩, ⟨f1, f2, f3, rfl⟩⟩ := hp1.ans
  obtain ⟨g1, g2, g3, rfl⟩ := hxs3.shape
  obtain rfl : Y3 = Y2 := by
    obtain ⟨_, _, d, rfl, hT⟩ := hN.out
    have hA' := hA.out
    rw [hT] at hA'
    exact hA'.like hA3 (fun a b t => wide_twins hK1 t) (fun a b t => twins_wide hK1 t)
  have b16 := Below.step b15 b6
  clear z0 z1 z2 hp1 hA3 hxs3 hxn3
  obtain ⟨⟨z0, z1, z2⟩, -, -, -⟩ := q.below b16
  have hYY : (Y3 != Y3) = false := by simp
  have hnn : ((n2 : Int) != (n2 : Int)) = false := by simp
  go_wp2_with fail
  refine (frename_any r K R va vn vc T pa pn pc p _ (hg.out.below b16) (h.out.below b16) (hp.out.below b16) hpl).mono ?_
  rintro e w7 ⟨xq, yq, rfl, b7, heq, hq1, hq2⟩
  clear z0 z1 z2
  cases hq : renameP K R T p with
  | some t =>
    rw [hq] at heq
    obtain ⟨T5, a5, rfl⟩ := ErrIs.some_shape heq
    obtain rfl := hq1 (by rw [hq]; simp)
    clear hq1 hq2 heq
    replace hq := Lib.hid hq
    have bC := Below.step b0 (Below.step b16 (Below.step b7 (belowAlloc w7 (.cells #[.int .i64 0, .int .i64 0, .slice none 0 0] 24))))
    go_wp2
    go_ret
    exact ⟨_, rfl, bC, rfl⟩
  | none =>
    rw [hq] at heq
    obtain rfl := heq.none_eq
    obtain ⟨qa, qn', qc, rfl, hoq⟩ := hq2 hq
    have hpo : permOk K p = true := by
      cases hpo : permOk K p with
      | true => rfl
      | false => simp [renameP, hr.out.check, hpo, fresh] at hq
    rw [Int.toNat_natCast, Int.toNat_natCast] at hoq
    clear hq1 hq2 heq
    replace hq := Lib.hid hq
    have hrr := Lib.hid (renT_ok hr.out hpo)
    have hrl : Hid ((renT K (2 * R + 1) T p).length ≤ 256) := Lib.hid (by rw [renT_length, ← hr.out.len]; exact hl.out)
    replace hpo := Lib.hid hpo
    have b7a := Below.step b7 (belowAlloc w7 (.cells #[.int .i64 K, .int .i64 R, .slice qa qn' qc] 24))
    have b17 := Below.step b16 b7a
    replace hoq := Lib.hid (hoq.alloc (.cells #[.int .i64 K, .int .i64 R, .slice qa qn' qc] 24))
    go_wp2_with fail
    refine (hfin.out R _ hrr.out hrl.out qa qn' qc _ (hg.out.below b17) hoq.out.at).mono ?_
    rintro e w8 ⟨y1, a, b, e4, rfl, b8, hp1⟩
    obtain ⟨rfl, Y4, n4, rfl, hA4, ⟨xs4, hxs4, hxn4⟩, ⟨i1, i2, i3, rfl⟩⟩ := hp1.ans
    have lxs4 := hxs4.len
    obtain ⟨j1, j2, j3, rfl⟩ := hxs4.shape
    obtain ⟨rfl, rfl⟩ := hA.out.same hA4 (fun a b t => ⟨_, _, ren_twins hr.out hpo.out t, by simp⟩) (fun a b t => ⟨_, _, twins_ren hr.out hpo.out t, by simp⟩)
    rw [hxn4] at lxs4
    have bE := Below.step b0 (Below.step b17 b8)
    have hY2 : (Y4 == Y4) = true := by simp
    have hn2 : ((n4 : Int) == (n4 : Int)) = true := by simp
    clear hp1 hA4 hxs4 hxn4
    go_wp2
    go_ret
    exact ⟨_, rfl, bE, rfl⟩

theorem twinsForms_any (r : Nat → Addr) (k R : Int) (v : Value) (T : List Int) (u : Value) (p : List Int) (w : World) (hg : Glob r w) (h : IntsAt w v T) (hp : IntsAt w u p) (hpl : p.length ≤ 17592186043904) :
    Calls Tryd.prog 3 #[.agg #[.int .i64 k, .int .i64 R, v], u] w (Ret1 (fun x _ => x = .bool true) w) := by
  obtain ⟨va, vn, vc, rfl⟩ := h.shape
  obtain ⟨pa, pn, pc, rfl⟩ := hp.shape
  cases hc : smallP k R T with
  | some t => exact twinsForms_bad r k R va vn vc T _ t w hg h hc
  | none =>
    obtain ⟨hck, hl⟩ := smallP_none hc
    obtain ⟨K, Q, rfl, rfl, hr⟩ := checkP_none hck
    exact twinsForms_ok r K Q va vn vc T pa pn pc p w hg h hr hl hp (by omega)
end Go.Proofs.YthnkdiejmclmkaaDoor

namespace Go.Proofs.YthnkdiejmclmkaaDoor
open Go.ChangeShapes Go.WideShapes Go.ChangeAt Go.RowKit Go.Joins
set_option maxRecDepth 100000

theorem own : ownKnob Tryd.prog.godebug = none := by kernel_rfl
theorem laidOut : laidOutB Tryd.prog = true := by kernel_rfl
theorem cellsInt : Tryd.prog.cellsOf 3 = 1 := by kernel_rfl
theorem uInt : Tryd.prog.underlying 3 = some (.int .i64) := by kernel_rfl
theorem bytesInt : Tryd.prog.bytesOf 3 = 8 := by kernel_rfl

theorem i64_of_wf {n : Int} (h : (Lit.int .i64 n).wf = true) : I64 n := by
  have := bounds_i64 h
  unfold I64
  omega

/-- A []int that came in. -/
theorem open_intsV {H : Type} {enc : TypeId × Value → H} {W : World} {held : Bool} {fuel : Nat} {v : Value} {y : DataW H × List MemPlace}
    (h : DataW.trod enc Tryd.prog W 0 (fun _ => true) held fuel 22 [v] = some y) (hw : ∀ n ∈ y.1.weights Tryd.prog 22, n ≤ reachBytes) :
    ∃ xs, IntsAt W v xs ∧ xs.length ≤ 17592186043904 ∧ ∀ x ∈ xs, I64 x := by
  rcases open_ints uInts uInt cellsInt h with ⟨hcs, _⟩ | ⟨a, len, cap, zs, hcs, _, hl, hm, hz, hx, hcell, hwz⟩
  · simp at hcs
    subst hcs
    exact ⟨[], (OwnI.nil 0 W).at, by simp, by simp⟩
  · simp at hcs
    subst hcs
    simp only [if_true] at hz
    have hzl : (zs.take len).length = len := by simp; omega
    refine ⟨zs.take len, ⟨some a, cap, by rw [hzl], by rw [hzl]; exact hl, hm, (fun e => by cases e), fun i hi => ?_⟩, ?_, fun x hx => i64_of_wf (hwz x (List.mem_of_mem_take hx))⟩
    · have hi' : i < zs.length := by rw [hzl] at hi; omega
      show W.cell? (a.add i) = _
      rw [hcell i hi']
      simp [List.getD, hi']
    · rw [hx] at hw
      have := hw ((lits (H := H) .i64 (zs.take len)).length * 8 + (lits (H := H) .i64 (zs.drop len)).length * 8) (by
        simp only [DataW.weights, uInts, bytesInt, List.mem_cons]
        left; omega)
      simp only [lits, List.length_map, reachBytes] at this
      omega

theorem open_intsT {H : Type} {enc : TypeId × Value → H} {W : World} {held : Bool} {v : Value} {d : DataW H} {p : List MemPlace} {b0 : Nat}
    (hv : Value.okWide Tryd.prog W .any b0 22 v) (h : DataW.Trod enc Tryd.prog W 0 (fun _ => true) held 22 v d p) (hw : ∀ n ∈ d.weights Tryd.prog 22, n ≤ reachBytes) :
    ∃ xs, IntsAt W v xs ∧ xs.length ≤ 17592186043904 ∧ ∀ x ∈ xs, I64 x := by
  obtain ⟨a, l, c, rfl⟩ := okWide_slice uInts hv
  obtain ⟨fuel, hf⟩ := h
  exact open_intsV (y := (d, p)) (by simpa [Value.cells] using hf) hw

theorem weights_each3 {H : Type} {t0 t1 t2 : TypeId} {y0 y1 y2 : DataW H} {n : Nat} (h : n ∈ y2.weights Tryd.prog t2) : n ∈ DataW.weightsEach Tryd.prog [t0, t1, t2] [y0, y1, y2] := by
  simp only [DataW.weightsEach, List.mem_append]
  exact .inr (.inr (.inl h))

/-- A rule that came in. -/
theorem open_ruleV {H : Type} {enc : TypeId × Value → H} {W : World} {held : Bool} {v : Value} {d : DataW H} {p : List MemPlace} {b0 : Nat}
    (hv : Value.okWide Tryd.prog W .any b0 24 v) (h : DataW.Trod enc Tryd.prog W 0 (fun _ => true) held 24 v d p) (hw : ∀ n ∈ d.weights Tryd.prog 24, n ≤ reachBytes) :
    ∃ (k R : Int) (u : Value) (xs : List Int), v = .agg #[.int .i64 k, .int .i64 R, u] ∧ IntsAt W u xs ∧ xs.length ≤ 17592186043904 ∧ (∀ x ∈ xs, I64 x) ∧ I64 k ∧ I64 R := by
  obtain ⟨v0, v1, v2, y0, y1, y2, n, rfl, rfl, rfl, h0, h1, h2⟩ := open_agg3 Tryd.underlying24 (by kernel_rfl) (by kernel_rfl) hv h
  obtain ⟨a, e0, _, wa⟩ := DataW.trod_int uInt h0
  obtain ⟨b, e1, _, wb⟩ := DataW.trod_int uInt h1
  simp at e0 e1
  subst e0 e1
  obtain ⟨xs, hx, hl, hb⟩ := open_intsV h2 fun n hn => hw n (by
    simp only [DataW.weights, Tryd.underlying24]
    exact weights_each3 (t0 := 3) (t1 := 3) (t2 := 22) hn)
  exact ⟨a, b, v2, xs, rfl, hx, hl, hb, i64_of_wf wa, i64_of_wf wb⟩

/-! The package-level errors. -/
theorem star : "*" ++ "errors.errorString" = "*errors.errorString" := by decide
theorem rowES (u : TypeId) (h : Tryd.prog.typeName? 3 u = some "*errors.errorString") : u = 168 :=
  typeName_ptr_named (nm := "errors.errorString") (by rw [star]; kernel_rfl) (by kernel_rfl) (by decide) u (by rw [star]; exact h)
theorem pES : Tryd.prog.underlying 168 = some (.pointer 185) := by kernel_rfl
theorem cES : Tryd.prog.cellsOf 185 = 1 := by kernel_rfl
theorem cStr : Tryd.prog.cellsOf 9 = 1 := by kernel_rfl

def laid12 : List (String × DataW Unit) := [("eden/api.BadRule", Rows.laid_eden_api_BadRule), ("eden/api.BadWord", Rows.laid_eden_api_BadWord), ("eden/api.BadArg", Rows.laid_eden_api_BadArg), ("eden/api.TooBig", Rows.laid_eden_api_TooBig), ("eden/api.NoBudget", Rows.laid_eden_api_NoBudget), ("eden/api.BadText", Rows.laid_eden_api_BadText), ("eden/api.BadPatch", Rows.laid_eden_api_BadPatch), ("eden/api.BadCert", Rows.laid_eden_api_BadCert), ("eden/api.NoInverse", Rows.laid_eden_api_NoInverse), ("eden/api.BadLine", Rows.laid_eden_api_BadLine), ("eden/api.BadState", Rows.laid_eden_api_BadState), ("eden/api.Unknown", Rows.laid_eden_api_Unknown)]

theorem sentinel {n : String} {text : List UInt8} {r : List (String × DataW Unit)} {W : World} {g : Nat}
    (h : laidMet Tryd.prog ((n, .iface "*errors.errorString" (.ptr (.agg [.lit (.string text)]))) :: r) W)
    (hg : Tryd.prog.globalNamed n = some g) (ht : (Tryd.prog.globals[g]?).map (·.type) = some 27) :
    (∃ a : Addr, W.cell? ⟨g, 0, none⟩ = some (.iface 168 (.pointer (some a))) ∧ ∃ s, W.cell? a = some (.string s) ∧ s.data.toList = text) ∧ laidMet Tryd.prog r W := by
  refine ⟨?_, h.tail⟩
  obtain ⟨a, s, hv, hc, hs, _⟩ := laid_sentinel h hg ht Tryd.underlying27 rowES pES Tryd.underlying185 rfl rfl Tryd.underlying9 cES cStr
  exact ⟨a, by simpa using World.var?_cell hg hv 0, s, hc, hs⟩

def txt : Nat → List UInt8
  | 1 => [98, 97, 100, 32, 114, 117, 108, 101]
  | 2 => [98, 97, 100, 32, 119, 111, 114, 100]
  | 3 => [98, 97, 100, 32, 97, 114, 103, 117, 109, 101, 110, 116]
  | 4 => [116, 111, 111, 32, 98, 105, 103]
  | 5 => [110, 111, 32, 98, 117, 100, 103, 101, 116]
  | 6 => [98, 97, 100, 32, 116, 101, 120, 116]
  | 7 => [98, 97, 100, 32, 112, 97, 116, 99, 104]
  | 8 => [98, 97, 100, 32, 99, 101, 114, 116, 105, 102, 105, 99, 97, 116, 101]
  | 9 => [110, 111, 32, 105, 110, 118, 101, 114, 115, 101]
  | 10 => [98, 97, 100, 32, 108, 105, 110, 101]
  | 11 => [98, 97, 100, 32, 115, 116, 97, 116, 101]
  | 99 => [117, 110, 107, 110, 111, 119, 110]
  | _ => []
theorem txt_apart : ∀ m n : Fin 12, 1 ≤ m.val → 1 ≤ n.val → txt m.val = txt n.val → m = n := by decide

theorem glob_of_laid {W : World} (h : laidMet Tryd.prog laid12 W) : ∃ r, Glob r W := by
  obtain ⟨⟨a1, c1, s1, e1, t1⟩, h⟩ := sentinel (text := txt 1) h (g := 0) (by kernel_rfl) (by kernel_rfl)
  obtain ⟨⟨a2, c2, s2, e2, t2⟩, h⟩ := sentinel (text := txt 2) h (g := 1) (by kernel_rfl) (by kernel_rfl)
  obtain ⟨⟨a3, c3, s3, e3, t3⟩, h⟩ := sentinel (text := txt 3) h (g := 2) (by kernel_rfl) (by kernel_rfl)
  obtain ⟨⟨a4, c4, s4, e4, t4⟩, h⟩ := sentinel (text := txt 4) h (g := 3) (by kernel_rfl) (by kernel_rfl)
  obtain ⟨⟨a5, c5, s5, e5, t5⟩, h⟩ := sentinel (text := txt 5) h (g := 4) (by kernel_rfl) (by kernel_rfl)
  obtain ⟨⟨a6, c6, s6, e6, t6⟩, h⟩ := sentinel (text := txt 6) h (g := 5) (by kernel_rfl) (by kernel_rfl)
  obtain ⟨⟨a7, c7, s7, e7, t7⟩, h⟩ := sentinel (text := txt 7) h (g := 6) (by kernel_rfl) (by kernel_rfl)
  obtain ⟨⟨a8, c8, s8, e8, t8⟩, h⟩ := sentinel (text := txt 8) h (g := 7) (by kernel_rfl) (by kernel_rfl)
  obtain ⟨⟨a9, c9, s9, e9, t9⟩, h⟩ := sentinel (text := txt 9) h (g := 8) (by kernel_rfl) (by kernel_rfl)
  obtain ⟨⟨a10, c10, s10, e10, t10⟩, h⟩ := sentinel (text := txt 10) h (g := 9) (by kernel_rfl) (by kernel_rfl)
  obtain ⟨⟨a11, c11, s11, e11, t11⟩, h⟩ := sentinel (text := txt 11) h (g := 10) (by kernel_rfl) (by kernel_rfl)
  obtain ⟨⟨a99, c99, s99, e99, t99⟩, h⟩ := sentinel (text := txt 99) h (g := 11) (by kernel_rfl) (by kernel_rfl)
  clear h
  have key : ∀ n : Nat, (1 ≤ n ∧ n ≤ 11) ∨ n = 99 → ∃ s, W.cell? ((fun n : Nat => match n with | 1 => a1 | 2 => a2 | 3 => a3 | 4 => a4 | 5 => a5 | 6 => a6 | 7 => a7 | 8 => a8 | 9 => a9 | 10 => a10 | 11 => a11 | _ => a99) n) = some (.string s) ∧ s.data.toList = txt n := by
    intro n hn
    have : n = 1 ∨ n = 2 ∨ n = 3 ∨ n = 4 ∨ n = 5 ∨ n = 6 ∨ n = 7 ∨ n = 8 ∨ n = 9 ∨ n = 10 ∨ n = 11 ∨ n = 99 := by omega
    rcases this with rfl | rfl | rfl | rfl | rfl | rfl | rfl | rfl | rfl | rfl | rfl | rfl
    · exact ⟨s1, e1, t1⟩
    · exact ⟨s2, e2, t2⟩
    · exact ⟨s3, e3, t3⟩
    · exact ⟨s4, e4, t4⟩
    · exact ⟨s5, e5, t5⟩
    · exact ⟨s6, e6, t6⟩
    · exact ⟨s7, e7, t7⟩
    · exact ⟨s8, e8, t8⟩
    · exact ⟨s9, e9, t9⟩
    · exact ⟨s10, e10, t10⟩
    · exact ⟨s11, e11, t11⟩
    · exact ⟨s99, e99, t99⟩
  refine ⟨(fun n : Nat => match n with | 1 => a1 | 2 => a2 | 3 => a3 | 4 => a4 | 5 => a5 | 6 => a6 | 7 => a7 | 8 => a8 | 9 => a9 | 10 => a10 | 11 => a11 | _ => a99), c1, c2, c3, c4, c5, c6, c7, c8, c9, c10, c11, c99, (fun n hn => ?_), fun m n hm1 hm2 hn1 hn2 he => ?_⟩
  · obtain ⟨s, hs, _⟩ := key n hn
    exact ⟨s, hs⟩
  · obtain ⟨s, hs, ts⟩ := key m.toNat (by omega)
    obtain ⟨s', hs', ts'⟩ := key n.toNat (by omega)
    have hss : s = s' := by
      have := hs.symm.trans ((congrArg W.cell? he).trans hs')
      simpa using this
    subst hss
    have := txt_apart ⟨m.toNat, by omega⟩ ⟨n.toNat, by omega⟩ (by simp; omega) (by simp; omega) (ts.symm.trans ts')
    have := congrArg Fin.val this
    simp at this
    omega
end Go.Proofs.YthnkdiejmclmkaaDoor

namespace Go.Proofs.YthnkdiejmclmkaaDoor
open Go.ChangeShapes Go.WideShapes Go.ChangeAt Go.RowKit Go.Joins
namespace TwinsFormsP

set_option maxRecDepth 100000 in
theorem door_met (os : Os) (args : Array Value) : laidMetH Tryd.prog Rows.twinsFormsRow.laid ((World.doorLaid Tryd.prog 400 os).forCall (fun _ _ => 0) ⟨#[], args, []⟩).memory :=
  laidMetH_of_parts3 (fuel := 8) (laidMet_of_run' 8 (by kernel_rfl) (by kernel_rfl)) (by kernel_rfl) (by kernel_rfl)

set_option maxRecDepth 100000 in
theorem lifted (os : Os) (started : os.Started) (H : Type) (enc : TypeId × Value → H) :
    ReturnsInHanded {} Tryd.checked os 3 .any (fun w args => (Rows.twinsFormsSpec.pre enc Tryd.prog Tryd.f3 [] false w args ∧ laidMetH Tryd.prog Rows.twinsFormsRow.laid w) ∧ sizedMet enc Tryd.prog Tryd.f3 (OpenSpec.ofChange Rows.twinsFormsSpec) false w args)
      (Rows.twinsFormsSpec.post enc Tryd.prog Tryd.f3 false true false false) := by
  refine returnsInHanded_of_change_and (C := Tryd.checked) (X := fun w _ => laidMetH Tryd.prog Rows.twinsFormsRow.laid w) (fun _ _ _ hh h => h.of_heap hh) own started (by kernel_rfl) Tryd.func3
    (ChangeSpec.witness_shaped (enc := enc) (C := Tryd.checked) (os := os) (X := fun w _ => laidMetH Tryd.prog Rows.twinsFormsRow.laid w) false (World.doorLaid Tryd.prog 400 os) #[.agg #[.int .i64 0, .int .i64 0, .slice none 0 0], .slice none 0 0] 8 rfl (World.shaped_of_RefB (by kernel_rfl) (by kernel_rfl)) (by kernel_rfl) (by kernel_rfl) (by kernel_rfl) (door_met os _)) ?_
  intro W base args ds gs before hval0 hW _ hsz hL _
  have hval : ∀ (j : Nat) t v, Tryd.f3.params[j]? = some t → args[j]? = some v → Value.okWide Tryd.prog W .any base t v := hval0
  have hW' := hW
  obtain ⟨p, q, hA0, hV, rfl, hfz, hnd⟩ := hW
  have hA : DataW.TrodAll enc Tryd.prog W 0 (fun _ => true) true Tryd.f3.params.toList args.toList ds p := hA0
  rw [Tryd.params3] at hA hval hsz
  obtain ⟨v0, vs0, d0, ds0, p0, q0, hargs, rfl, rfl, g0, t0⟩ := trodAll_cons hA
  obtain ⟨v1, vs1, d1, ds1, p1, q1, rfl, rfl, rfl, g1, t1⟩ := trodAll_cons t0
  obtain ⟨rfl, rfl, rfl⟩ := trodAll_nil t1
  obtain rfl : args = #[v0, v1] := by cases args; simp_all
  obtain ⟨rfl, rfl⟩ := trodVars_none hV
  have kk0 := g0
  have lt0 : ∀ x ∈ p0, x.block < W.heap.size := by obtain ⟨m, hm⟩ := kk0; exact DataW.trod_lt m _ _ _ hm
  obtain ⟨kr0, rr0, u0, x0, rfl, h0, l0, b0, bk0, br0⟩ := open_ruleV (hval 0 24 v0 rfl rfl) g0 (fun n hn => by
    have := List.all_eq_true.1 hsz n (DataW.weights_mem_each (j := 0) (t := 24) rfl rfl n hn)
    simpa using this)
  have kk1 := g1
  have lt1 : ∀ x ∈ p1, x.block < W.heap.size := by obtain ⟨m, hm⟩ := kk1; exact DataW.trod_lt m _ _ _ hm
  obtain ⟨x1, h1, l1, b1⟩ := open_intsT (hval 1 22 v1 rfl rfl) g1 (fun n hn => by
    have := List.all_eq_true.1 hsz n (DataW.weights_mem_each (j := 1) (t := 22) rfl rfl n hn)
    simpa using this)
  obtain ⟨r, hg⟩ := glob_of_laid (W := W) (by
    rw [MakeChecks.laidMetH_plain _ _ _ (by kernel_rfl)] at hL
    exact hL)
  clear hA0 hval0
  refine ((twinsForms_any r kr0 rr0 u0 x0 v1 x1 W hg h0 h1 l1)).mono fun e W' ⟨x, he, bel, hxx⟩ => ?_
  subst he; subst hxx
  exact ⟨_, rfl, _, _, _, [], _, [], hW', trodAll_mk1 (shut_bool Tryd.underlying4 _), (trodAll_cons_mk (Below.trod laidOut (by kernel_rfl) (of_decide_eq_true (by kernel_rfl)) kk0 bel lt0) (trodAll_cons_mk (Below.trod laidOut (by kernel_rfl) (of_decide_eq_true (by kernel_rfl)) kk1 bel lt1) trodAll_mk0)), rfl, bel.frame _, fun h => by cases h⟩

theorem over : Rows.TwinsFormsSaid :=
  OpenClaim.holds_of_wide 3 Tryd.f3 rfl rfl rfl rfl rfl rfl rfl ⟨rfl, rfl, rfl, rfl, rfl⟩ rfl rfl rfl rfl rfl (by kernel_rfl) Tryd.func3 (by kernel_rfl)
    (of_decide_eq_true (by kernel_rfl)) (by unfold Func.isWrapper; first | (rw [if_pos (by decide +kernel)]; kernel_rfl) | (rw [if_neg (by decide +kernel)]; exact ⟨rfl, rfl⟩))
    (fun os started H enc _ => lifted os started H enc)

/-- The tied card. -/
theorem card_holds : Rows.TwinsFormsCardSaid :=
  Claim7.holds_tied_plain_at .later [] [.sentinel, .sentinel, .sentinel, .sentinel, .sentinel, .sentinel, .sentinel, .sentinel, .sentinel, .sentinel, .sentinel, .sentinel] true _ _
    over (fun _ h => by cases h) (by kernel_rfl) (fun _ h => by cases h) twinsForms_row_tie rfl ⟨rfl, rfl⟩ (by kernel_rfl) rfl
    (fun f fn hf hfn => by
      obtain rfl : f = 3 := Option.some.inj ((show Tryd.prog.funcNamed Rows.twinsFormsRow.func = some 3 by kernel_rfl).symm.trans hf) |>.symm
      obtain rfl : fn = Tryd.f3 := (Option.some.inj (Tryd.func3.symm.trans hfn)).symm
      exact ⟨by kernel_rfl, fun j t ht => by
        rw [Tryd.params3] at ht
        have hm : t ∈ [24, 22] := by simpa using Array.mem_of_getElem? ht
        have hall : ([24, 22].all fun u => !Tryd.prog.wantsStandIn u) = true := by kernel_rfl
        exact (show Tryd.prog.wantsStandIn t = false by simpa using List.all_eq_true.1 hall t hm)⟩)
    (by kernel_rfl)
end TwinsFormsP
#print axioms TwinsFormsP.card_holds
end Go.Proofs.YthnkdiejmclmkaaDoor
