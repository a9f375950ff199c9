/-
  Proved: the law edenlaw13.PairsWords as its tied card: it returns true and never panics, for any rule and any three lists. No conditions beyond the card's own.
  Walk: pairs.look.
  Walk: forms.made at a function that has captured one variable.
  Walks: forms.Mirror and the function that it hands to forms.made.
  Walks: slices.Index, forms.Rename and the function that it hands to forms.made.
  Walk: pairs.Way.
  Plain mathematics of layer 7: the symbol of a row at a place, pieces of rows, twins in a row.
  Plain mathematics of layers 7 and 15: a row's fault, that of two words that are no twins.
  pairs.Graph, pairs.Apart, edenref13.Graph, edenref13.Apart at any rule: one name for what both answer.
  Walks: edenref13.Way; what pairs.Way and edenref13.Way answer at any rule.
  Walk: edenraw.Lists at equal lists.
  Walk: graph.Path.
  Walk: graph.Loop.
  The chapter's graph: its parts, its live vertices, its way from 0 to 4, as plain mathematics; the walk that makes it.
  Walks: the helpers of edenlaw12: awake, heavy, vertex, leads, goes.
  Walk: edenlaw13.awake.
  Walks: edenraw.LentRule, KeptRule.
  Walk: edenlaw13.PairsGraphs returns true.
  Walk: edenlaw13.PairsWords returns true.
  Opening what a call is handed: []int, api.Rule, the package-level errors.
  From a card's list of laid variables that holds the handle of the type error: the package errors and errors.errorType.
-/
import Derived.Test.YtilpckngghffoaaGreatDoorMPw7
import Derived.Deep.DeepCutAuto
import Derived.Deep.RegionHeld3
import Derived.Test.YtilpckngghffoaaGreatDoorRows
import Derived.ProofKit
import Derived.OpenShut
import Derived.ShutString
import Derived.ChangeOld
import Derived.LaidMore
import Derived.Stop.Joined
import Derived.Stop.LaidErr
import Derived.Lib.SmallJoins
import Derived.LaidHandle
import Derived.Test.YtilpckngghffoaaGreatDoorCards
import Derived.Test.YtilpckngghffoaaGreatDoorTie
import Derived.SevenTiedAt
namespace Go.Proofs.YtilpckngghffoaaGreatDoor
open Go.RowKit
set_option maxRecDepth 100000

theorem look1_any (x k : Int) (b : Nat) (w : World) (hb : w.cell? ⟨b, 0, none⟩ = some (.int .i64 k)) :
    Calls Tryz.prog 117 #[.int .i64 x, .pointer (some ⟨b, 0, none⟩)] w fun e w' => e = .returned (.bool (odd1 k x)) ∧ w = w' := by
  by_cases h : x < 0
  · have e : odd1 k x = true := by simp [odd1, h]
    rw [e]
    go_enter Tryz.func117, Tryz.ntmps117
    go_wp2
    go_ret
    exact ⟨rfl, rfl⟩
  · have e : odd1 k x = decide (k ≤ x) := by simp [odd1, h]
    rw [e]
    go_enter Tryz.func117, Tryz.ntmps117
    go_wp2
    go_ret
    exact ⟨ret_bool (by simp), rfl⟩
theorem eg_look1 (args : Array Value) (w : World) : (callFunc 117 args).run Tryz.prog w = .ok (.enter 117 args) w := by kernel_rfl

/-- pairs.look's answer. -/
def lookP (k : Int) (ws : List Int) (which from_ : Int) : PErr :=
  if 4096 < ws.length then fresh sPairs which 4 else if idxOf (odd1 k) ws = -1 then none else fresh sPairs (from_ + idxOf (odd1 k) ws) 2
theorem lookP_none {k : Int} {ws : List Int} {which from_ : Int} (h : lookP k ws which from_ = none) : ws.length ≤ 4096 ∧ Syms k ws := by
  unfold lookP at h
  by_cases hl : 4096 < ws.length
  · rw [if_pos hl] at h; cases h
  · rw [if_neg hl] at h
    refine ⟨by omega, ?_⟩
    rcases syms_or k ws with hs | ⟨i, hi, _⟩
    · exact hs
    · rw [if_neg (by omega)] at h; cases h
set_option maxHeartbeats 1000000 in
theorem look_any (r : Nat → Addr) (k : Int) (u : Value) (ws : List Int) (which : Int) (from_ : Nat) (w : World) (hg : Glob r w) (hu : IntsAt w u ws) (hf : from_ ≤ 1000000) :
    Calls Tryz.prog 69 #[.int .i64 k, u, .int .i64 which, .int .i64 from_] w (Ret1 (fun x w' => ErrIs r w' (lookP k ws which from_) x) w) := by
  have b0 := belowAlloc w (.cells #[.int .i64 k] 3)
  have z0 : (w.alloc (.cells #[.int .i64 k] 3)).cell? ⟨w.heap.size, 0, none⟩ = some (.int .i64 k) := by simp [go_sem]
  have l1 := hu.len
  have lm := hu.len_le
  obtain ⟨a1, n1, c1, rfl⟩ := hu.shape
  replace hg := Lib.hid (hg.below b0)
  replace hu := Lib.hid (hu.below b0)
  obtain ⟨e0, he0⟩ : ∃ e0, lookP k ws which from_ = e0 := ⟨_, rfl⟩
  rw [he0]
  unfold lookP at he0
  by_cases hl : 4096 < ws.length
  · rw [if_pos hl] at he0
    replace he0 := Lib.hid he0
    have hd : decide ((4096 : Int) < (ws.length : Int)) = true := decide_eq_true (by omega)
    go_enter Tryz.func69, Tryz.ntmps69
    go_wp2_with fail
    refine (pairs_wrong r _ _ _ hg.out (by decide) (by decide)).mono ?_
    rintro e w2 ⟨x, rfl, b2, he⟩
    go_wp2
    go_ret
    exact ⟨_, rfl, Below.step b0 b2, by rw [← he0.out]; exact he⟩
  · rw [if_neg hl] at he0
    have hd : decide ((4096 : Int) < (ws.length : Int)) = false := decide_eq_false (by omega)
    have hf2 : (from_ : Int) ≤ 1000000 := by omega
    rcases idxOf_cases (odd1 k) ws with ⟨hi, _⟩ | ⟨i, hi, hi', _⟩
    · rw [if_pos hi] at he0
      replace hi := Lib.hid hi
      replace he0 := Lib.hid he0
      go_enter Tryz.func69, Tryz.ntmps69
      go_wp2_with fail
      refine (indexFunc_any _ _ 117 ws (odd1 k) _ hu.out eg_look1 (fun x _ => look1_any x k _ _ z0)).mono ?_
      rintro e w2 ⟨rfl, rfl⟩
      rw [hi.out]
      go_wp2
      go_ret
      exact ⟨_, rfl, b0, by rw [← he0.out]; rfl⟩
    · have hws : ws.length ≤ 4096 := by omega
      have hwr : IntKind.i64.wrap ((from_ : Int) + (i : Int)) = (from_ : Int) + (i : Int) := wrapK (by omega) (by omega)
      rw [if_neg (by omega), hi] at he0
      replace hi := Lib.hid hi
      replace he0 := Lib.hid he0
      go_enter Tryz.func69, Tryz.ntmps69
      go_wp2_with fail
      refine (indexFunc_any _ _ 117 ws (odd1 k) _ hu.out eg_look1 (fun x _ => look1_any x k _ _ z0)).mono ?_
      rintro e w2 ⟨rfl, rfl⟩
      rw [hi.out]
      go_wp2_with fail
      refine (pairs_wrong r _ _ _ hg.out (by decide) (by decide)).mono ?_
      rintro e w2 ⟨x, rfl, b2, he⟩
      go_wp2
      go_ret
      exact ⟨_, rfl, Below.step b0 b2, by rw [← he0.out]; exact he⟩
end Go.Proofs.YtilpckngghffoaaGreatDoor

namespace Go.Proofs.YtilpckngghffoaaGreatDoor
open Go.RowKit
set_option maxRecDepth 100000

end Go.Proofs.YtilpckngghffoaaGreatDoor

namespace Go.Proofs.YtilpckngghffoaaGreatDoor
open Go.RowKit
set_option maxRecDepth 100000

end Go.Proofs.YtilpckngghffoaaGreatDoor

namespace Go.Proofs.YtilpckngghffoaaGreatDoor
open Go.RowKit
set_option maxRecDepth 100000

theorem fill_front' (A B : List Int) (j : Nat) (hj : j < A.length) (hl : B.length = A.length) : (A.take j ++ B.drop j).set j A[j] = A.take (j + 1) ++ B.drop (j + 1) := by
  have e : (A.take j).length = j := by simp; omega
  rw [List.set_append_right _ _ (by omega), e, Nat.sub_self, List.drop_eq_getElem_cons (show j < B.length by omega), List.set_cons_zero, take_snoc A j hj, List.append_assoc, List.singleton_append]
end Go.Proofs.YtilpckngghffoaaGreatDoor

namespace Go.Proofs.YtilpckngghffoaaGreatDoor
open Go.RowKit
set_option maxRecDepth 100000

theorem pway_bad (r : Nat → Addr) (k R : Int) (va : Option Addr) (vn vc : Nat) (T : List Int) (u v : Value) (t : Int × List (ByteArray × Int)) (w : World) (hg : Glob r w) (h : IntsAt w (.slice va vn vc) T) (hc : smallP k R T = some t) :
    Calls Tryz.prog 27 #[.agg #[.int .i64 k, .int .i64 R, .slice va vn vc], u, v] w (Ret2 (fun x y w' => x = .slice none 0 0 ∧ ErrIs r w' (under sPairs 0 (some t)) y) w) := by
  have b0 := belowAlloc w (.cells #[.int .i64 k, .int .i64 R, .slice va vn vc] 24)
  replace hg := Lib.hid (hg.below b0)
  replace h := Lib.hid (h.below b0)
  replace hc := Lib.hid hc
  go_enter Tryz.func27, Tryz.ntmps27
  go_wp2_with fail
  refine (working_bad r k R va vn vc T t _ hg.out h.out hc.out).mono ?_
  rintro e w1 ⟨x, y, rfl, b1, rfl, hy⟩
  obtain ⟨T2, a2, rfl⟩ : ∃ T a, y = .iface T (.pointer (some a)) := by
    unfold under at hy
    exact ErrIs.some_shape hy
  have ba := belowAlloc w1 (.cells #[.int .i64 0, .int .i64 0, .slice none 0 0] 24)
  have hy2 := hy.below ba
  replace hy := Lib.hid hy
  replace hy2 := Lib.hid hy2
  go_wp2
  go_ret2
  exact ⟨_, _, rfl, Below.step b0 (Below.step b1 ba), rfl, hy2.out⟩

/-- Way's answer at a small rule. -/
def wayP (K R : Nat) (T x y : List Int) : PErr :=
  match lookP K x 1 0 with
  | some t => some t
  | none => match lookP K y 2 x.length with
    | some t => some t
    | none => if x.length ≠ y.length ∨ x.length < 2 * R then fresh sPairs 1 3 else if imgP K R T x = imgP K R T y then none else fresh sPairs 2 3
theorem wayP_none {K R : Nat} {T x y : List Int} (h : wayP K R T x y = none) : Syms K x ∧ Syms K y ∧ x.length ≤ 4096 ∧ x.length = y.length ∧ 2 * R ≤ x.length ∧ imgP K R T x = imgP K R T y := by
  unfold wayP at h
  cases h1 : lookP K x 1 0 with
  | some t => rw [h1] at h; cases h
  | none =>
    rw [h1] at h
    cases h2 : lookP K y 2 x.length with
    | some t => simp only [h2] at h; cases h
    | none =>
      simp only [h2] at h
      by_cases h3 : x.length ≠ y.length ∨ x.length < 2 * R
      · rw [if_pos h3] at h; cases h
      · rw [if_neg h3] at h
        by_cases h4 : imgP K R T x = imgP K R T y
        · exact ⟨(lookP_none h1).2, (lookP_none h2).2, (lookP_none h1).1, by omega, by omega, h4⟩
        · rw [if_neg h4] at h; cases h

theorem pathN_all {K m : Nat} {x : List Int} {j : Nat} (hj : j < (pathN K m x x.length).length) : (castI (pathN K m x x.length)).getD j 0 = ((nodeAt K m x j : Nat) : Int) := by
  rw [pathN_len] at hj
  simp [castI, pathN, List.getD, hj]
theorem wayW_all {K m : Nat} {x y : List Int} {j : Nat} (hj : j < x.length - m + 1) : (castI (wayW K m x y)).getD j 0 = ((nodeAt K m x j * pw K m + nodeAt K m y j : Nat) : Int) := by
  simp [castI, wayW, List.getD, hj]

set_option maxHeartbeats 4000000 in
theorem pway_ok (r : Nat → Addr) (K R : Nat) (va : Option Addr) (vn vc : Nat) (T : List Int) (u v : Value) (x y : List Int) (w : World) (hg : Glob r w) (h : IntsAt w (.slice va vn vc) T) (hu : IntsAt w u x) (hv : IntsAt w v y) (hr : RuleOk K R T) (hl : T.length ≤ 256) :
    Calls Tryz.prog 27 #[.agg #[.int .i64 K, .int .i64 R, .slice va vn vc], u, v] w (Ret2 (fun z e w' => ErrIs r w' (wayP K (wkR R) (wkT K R T) x y) e ∧ (wayP K (wkR R) (wkT K R T) x y ≠ none → z = .slice none 0 0) ∧ (wayP K (wkR R) (wkT K R T) x y = none → OwnI w.heap.size w' z (castI (wayW K (2 * wkR R) x y)))) w) := by
  have b0 := belowAlloc w (.cells #[.int .i64 K, .int .i64 R, .slice va vn vc] 24)
  have q : Box3 (w.alloc (.cells #[.int .i64 K, .int .i64 R, .slice va vn vc] 24)) w.heap.size (.int .i64 K) (.int .i64 R) (.slice va vn vc) := by simp [Box3, go_sem]
  have hk1 := hr.k1
  have hk4 := hr.k4
  have hokW := wk_ok hr
  have hlW := wk_small hr hl
  have hRW := wk_pos R
  have hN81 := nodes_le hokW hRW hlW
  obtain ⟨hdiv, hlen⟩ := hokW.half
  have hR3 := hokW.r3
  have hN1 := pw_pos (K := K) (2 * wkR R) hk1
  have hwork := fun (w' : World) (hgl : Glob r w') (hT : IntsAt w' (.slice va vn vc) T) => working_ok r K R va vn vc T w' hgl hT hr hl
  have hNodes := fun (a : Option Addr) (n c : Nat) (w' : World) (hgl : Glob r w') (hT : IntsAt w' (.slice a n c) (wkT K R T)) => over_Nodes r K (wkR R) a n c (wkT K R T) w' hgl hT hokW hlW
  have hPath := fun (a : Option Addr) (n c : Nat) (u : Value) (x : List Int) (w' : World) (hgl : Glob r w') (hT : IntsAt w' (.slice a n c) (wkT K R T)) (hu : IntsAt w' u x) (hx : Syms K x) (hxl : x.length ≤ 4096) => over_path r K (wkR R) a n c (wkT K R T) u x w' hgl hT hu hokW hlW hRW hx hxl
  rw [hdiv] at hNodes
  generalize wkT K R T = T' at *
  generalize wkR R = R' at *
  have lu := hu.len
  have lv := hv.len
  have lum := hu.len_le
  have lvm := hv.len_le
  obtain ⟨ua, un, uc, rfl⟩ := hu.shape
  obtain ⟨wa, wn, wc, rfl⟩ := hv.shape
  obtain ⟨E, hE⟩ : ∃ E, wayP K R' T' x y = E := ⟨_, rfl⟩
  have hEn := @wayP_none K R' T' x y
  rw [hE] at hEn ⊢
  unfold wayP at hE
  obtain ⟨m, hm⟩ : ∃ m, 2 * R' = m := ⟨_, rfl⟩
  have hm2 : 2 * (R' : Int) = (m : Int) := by omega
  have hm6 : m ≤ 6 := by omega
  rw [hm] at hNodes hPath hN81 hN1 hdiv hlen hE hEn ⊢
  obtain ⟨N, hN⟩ : ∃ N, pw K m = N := ⟨_, rfl⟩
  rw [hN] at hNodes hN81 hN1 hdiv hlen
  have hwm : IntKind.i64.wrap (m : Int) = m := wrapK (by omega) (by omega)
  replace hwork := Lib.hid hwork
  replace hNodes := Lib.hid hNodes
  replace hPath := Lib.hid hPath
  replace hg := Lib.hid (hg.below b0)
  replace h := Lib.hid (h.below b0)
  replace hu := Lib.hid (hu.below b0)
  replace hv := Lib.hid (hv.below b0)
  replace hokW := Lib.hid hokW
  replace hr := Lib.hid hr
  replace hdiv := Lib.hid hdiv
  replace hlen := Lib.hid hlen
  replace hEn := Lib.hid hEn
  replace hE := Lib.hid hE
  replace hm := Lib.hid hm
  replace hN := Lib.hid hN
  go_enter Tryz.func27, Tryz.ntmps27
  go_wp2_with fail
  refine (hwork.out _ hg.out h.out).mono ?_
  rintro e w1 ⟨z, e1, rfl, b1, rfl, a, n, c, rfl, hT1⟩
  have b01 := Below.step b0 b1
  have ba := belowAlloc w1 (.cells #[.int .i64 K, .int .i64 R', .slice a n c] 24)
  have qw : Box3 (w1.alloc (.cells #[.int .i64 K, .int .i64 R', .slice a n c] 24)) w1.heap.size (.int .i64 K) (.int .i64 R') (.slice a n c) := by simp [Box3, go_sem]
  obtain ⟨W2, hW2⟩ : ∃ W2 : World, W2 = w1.alloc (.cells #[.int .i64 K, .int .i64 R', .slice a n c] 24) := ⟨_, rfl⟩
  rw [← hW2] at ba qw
  have b12 := Below.step b1 ba
  have b02 := Below.step b01 ba
  have hT2 := hT1.below ba
  obtain ⟨⟨z0, z1, z2⟩, -, -, -⟩ := q.below b12
  replace hT1 := Lib.hid hT1
  replace hT2 := Lib.hid hT2
  replace qw := Lib.hid qw
  go_upto_region 2 with fail
  rw [← hW2]
  replace hW2 := Lib.hid hW2
  go_wp2_with fail
  refine (look_any r K (.slice ua un uc) x 1 0 W2 (hg.out.below b12) (hu.out.below b12) (by omega)).mono ?_
  rintro e w3 ⟨e3, rfl, b3, he3⟩
  have he3' : ErrIs r w3 (lookP K x 1 0) e3 := he3
  have b03 := Below.step b02 b3
  have b13 := Below.step b12 b3
  clear z0 z1 z2 he3
  cases hk : lookP K x 1 0 with
  | some t =>
    rw [hk] at he3'
    have hEe : E = some t := by have := hE.out; rw [hk] at this; exact this.symm
    obtain ⟨T3, a3, rfl⟩ := he3'.some_shape
    replace he3' := Lib.hid he3'
    replace hEe := Lib.hid hEe
    go_wp2
    go_ret2
    exact ⟨_, _, rfl, b03, by rw [hEe.out]; exact he3'.out, fun _ => rfl, fun e => by rw [hEe.out] at e; cases e⟩
  | none =>
    rw [hk] at he3'
    obtain rfl := he3'.none_eq
    have hE2 := hE.out
    rw [hk] at hE2
    simp only at hE2
    obtain ⟨hxl, hxs⟩ := lookP_none hk
    obtain ⟨⟨z0, z1, z2⟩, -, -, -⟩ := q.below b13
    have hl2 := look_any r K (.slice wa wn wc) y 2 x.length w3 (hg.out.below b13) (hv.out.below b13) (by omega)
    replace hl2 := Lib.hid hl2
    replace hE2 := Lib.hid hE2
    replace hxs := Lib.hid hxs
    clear he3' hk hE
    go_wp2_with fail
    refine hl2.out.mono ?_
    rintro e w4 ⟨e4, rfl, b4, he4⟩
    have b04 := Below.step b03 b4
    have b14 := Below.step b13 b4
    have b24 := Below.step b3 b4
    clear z0 z1 z2 hl2
    cases hk : lookP K y 2 x.length with
    | some t =>
      rw [hk] at he4
      have hEe : E = some t := by have := hE2.out; rw [hk] at this; exact this.symm
      obtain ⟨T3, a3, rfl⟩ := he4.some_shape
      replace he4 := Lib.hid he4
      replace hEe := Lib.hid hEe
      go_wp2
      go_ret2
      exact ⟨_, _, rfl, b04, by rw [hEe.out]; exact he4.out, fun _ => rfl, fun e => by rw [hEe.out] at e; cases e⟩
    | none =>
      rw [hk] at he4
      obtain rfl := he4.none_eq
      have hE3 := hE2.out
      rw [hk] at hE3
      simp only at hE3
      obtain ⟨hyl, hys⟩ := lookP_none hk
      obtain ⟨⟨y0, y1, y2⟩, -, -, -⟩ := qw.out.below b24
      replace hys := Lib.hid hys
      clear he4 hk hE2
      by_cases hlen2 : x.length = y.length
      · have hne : ((x.length : Int) != (y.length : Int)) = false := by rw [bne_eq_false_iff_eq]; omega
        have hne2 : (x.length != y.length) = false := by rw [bne_eq_false_iff_eq]; omega
        have hle2 := Lib.hid hlen2
        by_cases hxm : x.length < m
        · have hd : decide ((x.length : Int) < (m : Int)) = true := decide_eq_true (by omega)
          rw [if_pos (.inr hxm)] at hE3
          replace hE3 := Lib.hid hE3
          clear hlen2
          go_wp2_with fail
          refine (pairs_wrong r 1 3 _ (hg.out.below b14) (by decide) (by decide)).mono ?_
          rintro e w5 ⟨e5, rfl, b5, he5⟩
          replace he5 := Lib.hid he5
          go_wp2
          go_ret2
          exact ⟨_, _, rfl, Below.step b04 b5, by rw [← hE3.out]; exact he5.out, fun _ => rfl, fun e => by rw [← hE3.out] at e; cases e⟩
        · have hd : decide ((x.length : Int) < (m : Int)) = false := decide_eq_false (by omega)
          rw [if_neg (by omega)] at hE3
          replace hE3 := Lib.hid hE3
          have hxm2 := Lib.hid hxm
          clear hlen2
          go_wp2_with fail
          refine (hNodes.out a n c w4 (hg.out.below b14) (hT2.out.below b24)).mono ?_
          rintro e w5 ⟨z, e5, rfl, b5, rfl, rfl⟩
          have b15 := Below.step b14 b5
          have b25 := Below.step b24 b5
          have b05 := Below.step b04 b5
          clear y0 y1 y2
          obtain ⟨⟨y0, y1, y2⟩, -, -, -⟩ := qw.out.below b25
          go_wp2_with fail
          refine (hPath.out a n c _ x w5 (hg.out.below b15) (hT2.out.below b25) (hu.out.below b15) hxs.out hxl).mono ?_
          rintro e w6 ⟨pv, ov, e6, rfl, b6, rfl, hop, hoo, _⟩
          have b16 := Below.step b15 b6
          have b26 := Below.step b25 b6
          have b06 := Below.step b05 b6
          clear y0 y1 y2
          obtain ⟨⟨y0, y1, y2⟩, -, -, -⟩ := qw.out.below b26
          replace hop := Lib.hid hop
          replace hoo := Lib.hid hoo
          go_wp2_with fail
          refine (hPath.out a n c _ y w6 (hg.out.below b16) (hT2.out.below b26) (hv.out.below b16) hys.out hyl).mono ?_
          rintro e w7 ⟨qv, tv, e7, rfl, b7, rfl, hoq, hot, _⟩
          have b17 := Below.step b16 b7
          have b07 := Below.step b06 b7
          clear y0 y1 y2
          replace hoq := Lib.hid hoq
          replace hot := Lib.hid hot
          go_wp2_with fail
          refine (equal_any ov tv _ _ w7 (hoo.out.below b7).at hot.out.at).mono ?_
          rintro e w8 h8
          obtain ⟨rfl, b8⟩ := h8.below
          clear h8
          have b08 := Below.step b07 b8
          have b18 := Below.step b17 b8
          by_cases himg : imgP K R' T' x = imgP K R' T' y
          · rw [if_pos himg] at hE3
            rw [decide_eq_true himg]
            replace hE3 := Lib.hid hE3
            have hmx : m ≤ x.length := by have := hxm2.out; omega
            have hPl : (pathN K m x x.length).length = x.length + 1 - m := pathN_len _ _ _ _
            have hQl : (pathN K m y y.length).length = x.length + 1 - m := by rw [pathN_len, hle2.out]
            have hWl : (wayW K m x y).length = x.length + 1 - m := by rw [wayW_len]; omega
            have hPg : ∀ j, j < x.length + 1 - m → (castI (pathN K m x x.length)).getD j 0 = ((nodeAt K m x j : Nat) : Int) := fun j hj => pathN_all (by rw [hPl]; exact hj)
            have hQg : ∀ j, j < x.length + 1 - m → (castI (pathN K m y y.length)).getD j 0 = ((nodeAt K m y j : Nat) : Int) := fun j hj => pathN_all (by rw [hQl]; exact hj)
            have hWg : ∀ j, j < x.length + 1 - m → (castI (wayW K m x y)).getD j 0 = ((nodeAt K m x j * N + nodeAt K m y j : Nat) : Int) := fun j hj => by rw [wayW_all (by omega), hN.out]
            have hPn : ∀ j, j < x.length + 1 - m → nodeAt K m x j < N := fun j hj => by rw [← hN.out]; exact node_lt hxs.out (by omega)
            have hQn : ∀ j, j < x.length + 1 - m → nodeAt K m y j < N := fun j hj => by rw [← hN.out]; exact node_lt hys.out (by have := hle2.out; omega)
            have r1 := (Rows.void w5.heap.size w5).add (i := (1, 0)) (r' := rowI pv (castI (pathN K m x x.length))) b6 hop.out (fun k hk => (hop.out.lt k hk).1)
            have r2 := r1.add (i := (2, 0)) (r' := rowI qv (castI (pathN K m y y.length))) b7 (hoq.out.mono b6.size) (fun k hk => (hoq.out.lt k hk).1)
            obtain ⟨f, hf⟩ : ∃ f, f = upd (upd (fun _ => none) (1, 0) (some (rowI pv (castI (pathN K m x x.length))))) (2, 0) (some (rowI qv (castI (pathN K m y y.length)))) := ⟨_, rfl⟩
            have hfa : f (1, 0) = some (rowI pv (castI (pathN K m x x.length))) := by rw [hf, upd_ne _ _ (by simp), upd_same]
            have hfb : f (2, 0) = some (rowI qv (castI (pathN K m y y.length))) := by rw [hf, upd_same]
            rw [← hf] at r2
            have r3 := r2.below b8
            have b58 : Below w5.heap.size w5 w8 := Below.step b6 (Below.step b7 b8)
            have hs5 := b05.size
            have lq := (r3.ownI hfb).at.len
            have hcQ : (castI (pathN K m y y.length)).length = x.length + 1 - m := by rw [castI_len, hQl]
            have hcP : (castI (pathN K m x x.length)).length = x.length + 1 - m := by rw [castI_len, hPl]
            have hcW : (castI (wayW K m x y)).length = x.length + 1 - m := by rw [castI_len, hWl]
            rw [hcQ] at lq
            obtain ⟨L, hL⟩ : ∃ L, x.length + 1 - m = L := ⟨_, rfl⟩
            have hLb : L ≤ 4097 := by omega
            rw [hL] at hPg hQg hWg hPn hQn hcQ hcP hcW lq
            obtain ⟨p1, p2, p3, rfl⟩ := hop.out.at.shape
            obtain ⟨q1, q2, q3, rfl⟩ := hoq.out.at.shape
            generalize castI (pathN K m x x.length) = P at *
            generalize castI (pathN K m y y.length) = Q at *
            obtain ⟨Z, hZ⟩ : ∃ Z, castI (wayW K m x y) = Z := ⟨_, rfl⟩
            rw [hZ] at hcW hWg
            replace hZ := Lib.hid hZ
            replace r3 := Lib.hid r3
            replace hfa := Lib.hid hfa
            replace hfb := Lib.hid hfb
            replace hPg := Lib.hid hPg
            replace hQg := Lib.hid hQg
            replace hWg := Lib.hid hWg
            replace hPn := Lib.hid hPn
            replace hQn := Lib.hid hQn
            replace hcQ := Lib.hid hcQ
            replace hcP := Lib.hid hcP
            replace hcW := Lib.hid hcW
            replace hL := Lib.hid hL
            clear r1 r2 hf hop hoq hoo hot hPl hQl hWl
            go_wp2_with fail
            go_loopw [86] (fun jv wr => ∃ (j : Nat) (f : Names), j ≤ L ∧ jv = .int .i64 j ∧ Rows w5.heap.size wr f ∧ Below w5.heap.size w5 wr ∧ f (1, 0) = some (rowI (.slice p1 p2 p3) (Z.take j ++ P.drop j)) ∧ f (2, 0) = some (rowI (.slice q1 q2 q3) Q)) (fun jv _ => L - (intOf jv).toNat)
            case atStart => exact ⟨0, f, by omega, rfl, r3.out, b58, by simpa using hfa.out, hfb.out⟩
            case round =>
              clear r3 hfa hfb b58
              obtain ⟨j, f2, hj, rfl, hr2, bI, hfa, hfb⟩ := hrel
              obtain ⟨wo, rfl⟩ : ∃ wo : World, wo = wr := ⟨_, rfl⟩
              have hst : (Z.take j ++ P.drop j).length = L := by
                rw [List.length_append, List.length_take, List.length_drop, hcW.out, hcP.out]; omega
              have hoa := hr2.ownI hfa
              have hob := hr2.ownI hfb
              by_cases hjl : j < L
              · obtain ⟨pj, hpj⟩ : ∃ z, nodeAt K m x j = z := ⟨_, rfl⟩
                obtain ⟨qj, hqj⟩ : ∃ z, nodeAt K m y j = z := ⟨_, rfl⟩
                have hpl := hPn.out j hjl
                have hql := hQn.out j hjl
                have hP1 := hPg.out j hjl
                have hQ1 := hQg.out j hjl
                have hW1 := hWg.out j hjl
                rw [hpj] at hpl hP1 hW1
                rw [hqj] at hql hQ1 hW1
                obtain ⟨pn, hpn⟩ : ∃ z, pj * N = z := ⟨_, rfl⟩
                have hpn2 : (pj : Int) * (N : Int) = (pn : Int) := by rw [← hpn]; simp
                have hpnl : pn ≤ 6561 := by rw [← hpn]; exact Nat.le_trans (Nat.mul_le_mul (show pj ≤ 81 by omega) hN81) (by decide)
                obtain ⟨s, hs⟩ : ∃ z, pn + qj = z := ⟨_, rfl⟩
                have hs2 : (pn : Int) + (qj : Int) = (s : Int) := by omega
                have hw1 : IntKind.i64.wrap (pn : Int) = pn := wrapK (by omega) (by omega)
                have hw2 : IntKind.i64.wrap (s : Int) = s := wrapK (by omega) (by omega)
                rw [hpn, hs] at hW1
                have iP := fun w' => hoa.at.idx j (by rw [hst]; exact hjl) w'
                have cP := hoa.at.cellD j (by rw [hst]; exact hjl)
                have eP : (Z.take j ++ P.drop j).getD j 0 = (pj : Int) := by
                  rw [← hP1, List.getD_eq_getElem?_getD, List.getElem?_append_right (by rw [List.length_take]; omega), List.length_take, List.getElem?_drop, hcW.out, show j + (j - min j L) = j by omega, ← List.getD_eq_getElem?_getD]
                rw [eP] at cP
                have fP := hoa.frz j (by rw [hst]; exact hjl)
                have kP := (hoa.toV.blkB j (by rw [List.length_map, hst]; exact hjl)).2
                have iQ := fun w' => hob.at.idx j (by rw [hcQ.out]; exact hjl) w'
                have cQ := hob.at.cellD j (by rw [hcQ.out]; exact hjl)
                rw [hQ1] at cQ
                have hr8 := hr2.setI hfa j (by rw [hst]; exact hjl) (s : Int)
                have eZ : (Z.take j ++ P.drop j).set j (s : Int) = Z.take (j + 1) ++ P.drop (j + 1) := by
                  have hjZ : j < Z.length := by rw [hcW.out]; exact hjl
                  have := fill_front' Z P j hjZ (by rw [hcP.out, hcW.out])
                  rw [← this]
                  congr 1
                  rw [← hW1]; simp [List.getD, hjZ]
                rw [eZ] at hr8
                obtain ⟨f8, hf8⟩ : ∃ f8, f8 = upd f2 (1, 0) (some (rowI (.slice p1 p2 p3) (Z.take (j + 1) ++ P.drop (j + 1)))) := ⟨_, rfl⟩
                rw [← hf8] at hr8
                have hfa8 : f8 (1, 0) = some (rowI (.slice p1 p2 p3) (Z.take (j + 1) ++ P.drop (j + 1))) := by rw [hf8, upd_same]
                have hfb8 : f8 (2, 0) = some (rowI (.slice q1 q2 q3) Q) := by rw [hf8, upd_ne _ _ (by simp)]; exact hfb
                have b8' := bI.setCell kP (.int .i64 (s : Int))
                have hjl2 := Lib.hid hjl
                generalize valAt (.slice p1 p2 p3) j = pa at *
                generalize valAt (.slice q1 q2 q3) j = qa at *
                replace hpj := Lib.hid hpj
                replace hqj := Lib.hid hqj
                replace hpn := Lib.hid hpn
                replace hs := Lib.hid hs
                replace hr8 := Lib.hid hr8
                replace hfa8 := Lib.hid hfa8
                replace hfb8 := Lib.hid hfb8
                replace b8' := Lib.hid b8'
                clear hf8 eP eZ hoa hob hr2 hfa hfb hP1 hQ1 hW1 hst
                go_wp2
                go_roundw
                case measure => have := hjl2.out; simp [intOf]; omega
                case rel => exact ⟨j + 1, f8, by have := hjl2.out; omega, by go_num, hr8.out, by first | exact b8'.out | exact b8'.out.drew, hfa8.out, hfb8.out⟩
              · obtain rfl : j = L := by omega
                rw [List.take_of_length_le (by rw [hcW.out]; omega), List.drop_of_length_le (by rw [hcP.out]; omega), List.append_nil] at hoa
                have bE := Lib.hid (b05.trans (bI.mono hs5))
                have hoE := Lib.hid (hoa.mono hs5)
                clear hr2 hfa hfb hoa hob
                go_wp2
                go_ret2
                exact ⟨_, _, rfl, bE.out, by rw [← hE3.out]; rfl, fun e => absurd hE3.out.symm e, fun _ => by rw [hZ.out]; exact hoE.out⟩
          · rw [if_neg himg] at hE3
            rw [decide_eq_false himg]
            replace hE3 := Lib.hid hE3
            go_wp2_with fail
            refine (pairs_wrong r 2 3 _ (hg.out.below b18) (by decide) (by decide)).mono ?_
            rintro e w9 ⟨e9, rfl, b9, he9⟩
            replace he9 := Lib.hid he9
            go_wp2
            go_ret2
            exact ⟨_, _, rfl, Below.step b08 b9, by rw [← hE3.out]; exact he9.out, fun _ => rfl, fun e => by rw [← hE3.out] at e; cases e⟩
      · have hne : ((x.length : Int) != (y.length : Int)) = true := by rw [bne_iff_ne]; omega
        have hne2 : (x.length != y.length) = true := by rw [bne_iff_ne]; omega
        rw [if_pos (.inl hlen2)] at hE3
        replace hE3 := Lib.hid hE3
        go_wp2_with fail
        refine (pairs_wrong r 1 3 _ (hg.out.below b14) (by decide) (by decide)).mono ?_
        rintro e w5 ⟨e5, rfl, b5, he5⟩
        replace he5 := Lib.hid he5
        go_wp2
        go_ret2
        exact ⟨_, _, rfl, Below.step b04 b5, by rw [← hE3.out]; exact he5.out, fun _ => rfl, fun e => by rw [← hE3.out] at e; cases e⟩
end Go.Proofs.YtilpckngghffoaaGreatDoor

namespace Go.Proofs.YtilpckngghffoaaGreatDoor

end Go.Proofs.YtilpckngghffoaaGreatDoor

namespace Go.Proofs.YtilpckngghffoaaGreatDoor

def sRow : ByteArray := ⟨#[114, 111, 119]⟩
/-- The fault of a row. -/
def rowP (k p : Int) (L C Q : List Int) : PErr :=
  if k < 1 ∨ 4 < k then fresh sRow 0 3
  else if p < -4096 ∨ 4096 < p then fresh sRow 1 3
  else if L.length = 0 then fresh sRow 2 3
  else if Q.length = 0 then fresh sRow 3 3
  else if 8192 < L.length then fresh sRow 2 4
  else if 8192 < Q.length then fresh sRow 3 4
  else if 16384 < C.length then fresh sRow 4 4
  else if 0 ≤ idxOf (odd1 k) (L ++ C ++ Q) then fresh sRow (idxOf (odd1 k) (L ++ C ++ Q)) 2
  else none
structure RowOk (K : Nat) (p : Int) (L C Q : List Int) : Prop where
  k1 : 1 ≤ K
  k4 : K ≤ 4
  p1 : -4096 ≤ p
  p2 : p ≤ 4096
  l1 : 1 ≤ L.length
  l2 : L.length ≤ 8192
  q1 : 1 ≤ Q.length
  q2 : Q.length ≤ 8192
  c2 : C.length ≤ 16384
  sL : Syms K L
  sC : Syms K C
  sQ : Syms K Q
theorem syms_odd {k : Int} {x : List Int} : Syms k x ↔ ∀ y ∈ x, odd1 k y = false := by
  refine ⟨fun h y hy => ?_, fun h y hy => ?_⟩
  · have := h y hy
    unfold odd1
    simp only [Bool.or_eq_false_iff, decide_eq_false_iff_not]
    omega
  · have := h y hy
    unfold odd1 at this
    simp only [Bool.or_eq_false_iff, decide_eq_false_iff_not] at this
    omega
theorem idxOf_syms {k : Int} {x : List Int} : ¬ 0 ≤ idxOf (odd1 k) x ↔ Syms k x := by
  rw [syms_odd]
  rcases idxOf_cases (odd1 k) x with ⟨h1, h2⟩ | ⟨m, h1, h2, h3, _⟩
  · rw [h1]; exact ⟨fun _ => h2, fun _ => by omega⟩
  · rw [h1]
    refine ⟨fun h => by omega, fun h => ?_⟩
    have := h _ (List.getElem_mem h2)
    rw [h3] at this; cases this
theorem RowOk.none {K : Nat} {p : Int} {L C Q : List Int} (h : RowOk K p L C Q) : rowP K p L C Q = Option.none := by
  have hs : Syms K (L ++ C ++ Q) := fun x hx => by
    rcases List.mem_append.1 hx with hx | hx
    · rcases List.mem_append.1 hx with hx | hx
      · exact h.sL x hx
      · exact h.sC x hx
    · exact h.sQ x hx
  have h1 := h.k1
  have h2 := h.k4
  have h3 := h.p1
  have h4 := h.p2
  have h5 := h.l1
  have h6 := h.l2
  have h7 := h.q1
  have h8 := h.q2
  have h9 := h.c2
  unfold rowP
  rw [if_neg (by omega), if_neg (by omega), if_neg (by omega), if_neg (by omega), if_neg (by omega), if_neg (by omega), if_neg (by omega), if_neg (idxOf_syms.2 hs)]

/-- What twins.Check tells of two words, the rule being small. -/
def twinsP (op : ByteArray) (k : Int) (R : Nat) (img : List Int → List Int) (a b : List Int) : PErr :=
  if 16384 < a.length ∨ 16384 < b.length then fresh op 1 4
  else if 0 ≤ idxOf (odd1 k) a then fresh op (idxOf (odd1 k) a) 2
  else if 0 ≤ idxOf (odd1 k) b then fresh op (a.length + idxOf (odd1 k) b) 2
  else if a.length ≠ b.length ∨ a = b then fresh op 1 3
  else if a.length < 2 * R ∨ a.take (2 * R) ≠ b.take (2 * R) ∨ a.drop (a.length - 2 * R) ≠ b.drop (b.length - 2 * R) then fresh op 2 3
  else if img a ≠ img b then fresh op 3 3
  else none
theorem IsTwins.p {op : ByteArray} {K R : Nat} {T a b : List Int} (h : IsTwins K R T a b) (hl : a.length ≤ 16384) : twinsP op K R (imgP K R T) a b = none := by
  have e := h.len
  have e2 := h.low
  unfold twinsP
  rw [if_neg (by omega), if_neg (idxOf_syms.2 h.sa), if_neg (idxOf_syms.2 h.sb), if_neg (fun q => q.elim (fun q => q e) h.ne), if_neg, if_neg (fun q => q h.img)]
  rintro (q | q | q)
  · omega
  · exact q h.front
  · exact q h.back
end Go.Proofs.YtilpckngghffoaaGreatDoor

namespace Go.Proofs.YtilpckngghffoaaGreatDoor
open Go.RowKit
set_option maxRecDepth 100000

/-- The pairs that both answer. -/
def pgA (k R : Int) (T : List Int) (xs : List Int) : Prop :=
  match smallP k R T with
  | some _ => xs = []
  | none => ∃ L, LiveList (pw k.toNat (2 * wkR R.toNat) * pw k.toNat (2 * wkR R.toNat)) (adjOf (pairG k.toNat (pw k.toNat (2 * wkR R.toNat)) (wkT k.toNat R.toNat T))) L ∧ xs = castI (L.filter fun p => !decide (Diag (pw k.toNat (2 * wkR R.toNat)) p))
theorem pgA.unique {k R : Int} {T xs ys : List Int} (h : pgA k R T xs) (h' : pgA k R T ys) : xs = ys := by
  unfold pgA at h h'
  cases hc : smallP k R T with
  | some t =>
    rw [hc] at h h'
    exact h.trans h'.symm
  | none =>
    rw [hc] at h h'
    obtain ⟨L, h1, rfl⟩ := h
    obtain ⟨M, h2, rfl⟩ := h'
    rw [h1.unique h2]
end Go.Proofs.YtilpckngghffoaaGreatDoor

namespace Go.Proofs.YtilpckngghffoaaGreatDoor
open Go.RowKit
set_option maxRecDepth 100000

section
variable {K R : Nat} {T x y : List Int}
theorem look_big {k : Int} {ws : List Int} {a b : Int} (h : 4096 < ws.length) : lookP k ws a b = fresh sPairs a 4 := by unfold lookP; rw [if_pos h]
theorem look_odd {k : Int} {ws : List Int} {a b : Int} (h : ¬ 4096 < ws.length) (h2 : 0 ≤ idxOf (odd1 k) ws) : lookP k ws a b = fresh sPairs (b + idxOf (odd1 k) ws) 2 := by unfold lookP; rw [if_neg h, if_neg (by omega)]
theorem look_ok {K : Nat} {ws : List Int} {a b : Int} (h : ¬ 4096 < ws.length) (h2 : Syms K ws) : lookP K ws a b = none := by unfold lookP; rw [if_neg h, if_pos h2.odd]
theorem wayP_e1 (h : 4096 < x.length) : wayP K R T x y = fresh sPairs 1 4 := by unfold wayP; rw [look_big h]; rfl
theorem wayP_e2 (h : ¬ 4096 < x.length) (h2 : 0 ≤ idxOf (odd1 K) x) : wayP K R T x y = fresh sPairs (idxOf (odd1 K) x) 2 := by unfold wayP; rw [look_odd h h2, Int.zero_add]; rfl
theorem wayP_e3 (h : ¬ 4096 < x.length) (h2 : Syms K x) (h3 : 4096 < y.length) : wayP K R T x y = fresh sPairs 2 4 := by unfold wayP; rw [look_ok h h2, look_big h3]; rfl
theorem wayP_e4 (h : ¬ 4096 < x.length) (h2 : Syms K x) (h3 : ¬ 4096 < y.length) (h4 : 0 ≤ idxOf (odd1 K) y) : wayP K R T x y = fresh sPairs (x.length + idxOf (odd1 K) y) 2 := by unfold wayP; rw [look_ok h h2, look_odd h3 h4]; rfl
theorem wayP_e5 (h : ¬ 4096 < x.length) (h2 : Syms K x) (h3 : ¬ 4096 < y.length) (h4 : Syms K y) (h5 : x.length ≠ y.length ∨ x.length < 2 * R) : wayP K R T x y = fresh sPairs 1 3 := by unfold wayP; rw [look_ok h h2, look_ok h3 h4]; exact if_pos h5
theorem wayP_e6 (h : ¬ 4096 < x.length) (h2 : Syms K x) (h3 : ¬ 4096 < y.length) (h4 : Syms K y) (h5 : ¬ (x.length ≠ y.length ∨ x.length < 2 * R)) (h6 : imgP K R T x ≠ imgP K R T y) : wayP K R T x y = fresh sPairs 2 3 := by unfold wayP; rw [look_ok h h2, look_ok h3 h4]; exact (if_neg h5).trans (if_neg h6)
theorem wayP_e7 (h : ¬ 4096 < x.length) (h2 : Syms K x) (h3 : ¬ 4096 < y.length) (h4 : Syms K y) (h5 : ¬ (x.length ≠ y.length ∨ x.length < 2 * R)) (h6 : imgP K R T x = imgP K R T y) : wayP K R T x y = none := by unfold wayP; rw [look_ok h h2, look_ok h3 h4]; exact (if_neg h5).trans (if_pos h6)
end
theorem take_nat {ns : List Nat} {i : Nat} (h : i < ns.length) : ns.take (i + 1) = ns.take i ++ [ns.getD i 0] := by
  rw [List.take_add_one, List.getElem?_eq_getElem h]
  simp [List.getD, h]

set_option maxHeartbeats 2000000 in
theorem ref13_path_bad (k R : Int) (va : Option Addr) (vn vc : Nat) (T : List Int) (u v : Value) (t : Int × List (ByteArray × Int)) (w : World) (h : IntsAt w (.slice va vn vc) T) (hc : smallP k R T = some t) :
    Calls Tryz.prog 28 #[.agg #[.int .i64 k, .int .i64 R, .slice va vn vc], u, v] w (Ret2 (fun x y w' => x = .slice none 0 0 ∧ EOwn w.heap.size w' (under sPairs 0 (some t)) y) w) := by
  have bA := Below.step (belowAlloc w (.cells #[.int .i64 k, .int .i64 R, .slice va vn vc] 24)) (belowAlloc _ (.cells #[.int .i64 0, .slice none 0 0, .slice none 0 0] 33))
  have qA : Box3 ((w.alloc (.cells #[.int .i64 k, .int .i64 R, .slice va vn vc] 24)).alloc (.cells #[.int .i64 0, .slice none 0 0, .slice none 0 0] 33)) w.heap.size (.int .i64 k) (.int .i64 R) (.slice va vn vc) := by simp [Box3, go_sem]
  have q4 : Box3 ((w.alloc (.cells #[.int .i64 k, .int .i64 R, .slice va vn vc] 24)).alloc (.cells #[.int .i64 0, .slice none 0 0, .slice none 0 0] 33)) (w.heap.size + 1) (.int .i64 0) (.slice none 0 0) (.slice none 0 0) := by simp [Box3, go_sem]
  have s0 : ((w.alloc (.cells #[.int .i64 k, .int .i64 R, .slice va vn vc] 24)).alloc (.cells #[.int .i64 0, .slice none 0 0, .slice none 0 0] 33)).heap.size = w.heap.size + 2 := by simp
  obtain ⟨WA, hWA⟩ : ∃ W : World, ((w.alloc (.cells #[.int .i64 k, .int .i64 R, .slice va vn vc] 24)).alloc (.cells #[.int .i64 0, .slice none 0 0, .slice none 0 0] 33)) = W := ⟨_, rfl⟩
  replace h := h.below bA
  rw [hWA] at h bA qA q4 s0
  replace h := Lib.hid h
  replace s0 := Lib.hid s0
  replace hWA := Lib.hid hWA
  have qA0 := qA
  obtain ⟨⟨z0, z1, z2⟩, -, -, -⟩ := qA0
  replace hc := Lib.hid hc
  go_enter Tryz.func28, Tryz.ntmps28
  go_upto_region 1 with fail
  rw [hWA.out]
  go_wp2_with fail
  refine (ref08_fault _ k R va vn vc T WA h.out).mono ?_
  rintro e w1 ⟨x, rfl, b1, he⟩
  rw [hc.out] at he
  obtain ⟨n, l⟩ := t
  have hn := smallP_num hc.out
  have he' := he
  obtain ⟨a1, n1, c1, a2, n2, c2, rfl, _, _⟩ := he'
  obtain ⟨be, ⟨⟨y0, y1, y2⟩, -, -, -⟩⟩ := err_box8 w1 (.int .i64 n) (.slice a1 n1 c1) (.slice a2 n2 c2)
  have c1e := Below.step b1 be
  have hs1 := b1.size
  rw [s0.out] at hs1
  have hn0 : (n != 0) = true := by rw [bne_iff_ne]; omega
  have heb := he.below be
  obtain ⟨W2, hW2⟩ : ∃ W2 : World, w1.alloc (.cells #[.int .i64 n, .slice a1 n1 c1, .slice a2 n2 c2] 33) = W2 := ⟨_, rfl⟩
  rw [hW2] at be c1e heb y0 y1 y2
  replace hW2 := Lib.hid hW2
  replace he := Lib.hid he
  replace heb := Lib.hid heb
  clear z0 z1 z2
  go_upto_region 2 with fail
  rw [hW2.out]
  go_wp2_with fail
  refine (err_bad _ _ _ _ _ _ _ W2).mono ?_
  rintro e w3 ⟨_, rfl, b3, rfl⟩
  rw [hn0]
  have hey := heb.out.below b3
  have c3 := Below.step c1e b3
  obtain ⟨W, hW⟩ : ∃ W : World, w3.drew = W := ⟨_, rfl⟩
  have c4 : Below WA.heap.size WA W := by rw [← hW]; exact c3.drew
  have heW : EOwn WA.heap.size W (under sPairs 0 (some (n, l))) (.agg #[.int .i64 n, .slice a1 n1 c1, .slice a2 n2 c2]) := by rw [← hW]; exact hey.drew
  have hS : W.cell? ⟨w1.heap.size, 0, none⟩ = some (.int .i64 n) ∧ W.cell? ⟨w1.heap.size, 1, none⟩ = some (.slice a1 n1 c1) ∧ W.cell? ⟨w1.heap.size, 2, none⟩ = some (.slice a2 n2 c2) := by
    rw [← hW]
    exact ⟨(b3.cell (World.block_lt_of_cell? _ _ y0)).trans y0, (b3.cell (World.block_lt_of_cell? _ _ y1)).trans y1, (b3.cell (World.block_lt_of_cell? _ _ y2)).trans y2⟩
  obtain ⟨⟨u0, u1, u2⟩, f0, f1, f2⟩ := q4.below c4
  have sW := c4.size
  rw [s0.out] at sW
  replace hW := Lib.hid hW
  replace hey := Lib.hid hey
  replace heW := Lib.hid heW
  clear y0 y1 y2
  go_upto_region 3 with fail
  refine wp_region_plan (fun w' => w'.cell? ⟨w1.heap.size, 0, none⟩ = some (.int .i64 n) ∧ w'.cell? ⟨w1.heap.size, 1, none⟩ = some (.slice a1 n1 c1) ∧ w'.cell? ⟨w1.heap.size, 2, none⟩ = some (.slice a2 n2 c2)) 2 [(0, true), (1, true)] (by kernel_rfl) (by kernel_rfl) ?_
  rw [hW.out]
  refine headY (v := ?_) (some 18) rfl rfl (Or.inl ⟨by rfl, ?_⟩) hS ?_
  rotate_left
  · rintro W' ⟨s0, s1, s2⟩; go_simp; try with_reducible rfl
  simp only [Act.put, List.setIfInBounds_toArray, List.set_cons_zero, List.set_cons_succ]
  refine headY (v := ?_) (some 6) rfl rfl (Or.inl ⟨by rfl, ?_⟩) hS ?_
  rotate_left
  · rintro W' ⟨s0, s1, s2⟩; go_simp; try with_reducible rfl
  simp only [Act.put, List.setIfInBounds_toArray, List.set_cons_zero, List.set_cons_succ]
  refine head0 ?_
  simp only [List.drop_succ_cons, List.drop_zero]
  clear hS
  go_wp2
  refine NoPanic.normal ?_
  go_wp2
  (try simp only [Exit.inBlock, Exit.then])
  refine bodyPost_ret (v := .tuple #[.slice none 0 0, .agg #[.int .i64 n, .slice a1 n1 c1, .slice a2 n2 c2]]) (by simp [results, Tryz.results28, go_sem, u0, u1, u2]) rfl ⟨_, _, rfl, below_set3 (Below.step bA c4) (by omega) _ _ _, rfl, ?_⟩
  have := s0.out
  exact (heW.out.set3 (by omega) _ _ _).mono (by omega)

set_option maxHeartbeats 8000000 in
theorem ref13_path_ok (K R : Nat) (va : Option Addr) (vn vc : Nat) (T : List Int) (u v : Value) (x y : List Int) (w : World) (h : IntsAt w (.slice va vn vc) T) (hu : IntsAt w u x) (hv : IntsAt w v y) (hr : RuleOk K R T) (hl : T.length ≤ 256) :
    Calls Tryz.prog 28 #[.agg #[.int .i64 K, .int .i64 R, .slice va vn vc], u, v] w (Ret2 (fun z e w' => EOwn w.heap.size w' (wayP K (wkR R) (wkT K R T) x y) e ∧ (wayP K (wkR R) (wkT K R T) x y ≠ none → z = .slice none 0 0) ∧ (wayP K (wkR R) (wkT K R T) x y = none → IntsAt w' z (castI (wayW K (2 * wkR R) x y)))) w) := by
  have bA := Below.step (belowAlloc w (.cells #[.int .i64 K, .int .i64 R, .slice va vn vc] 24)) (belowAlloc _ (.cells #[.int .i64 0, .slice none 0 0, .slice none 0 0] 33))
  have qA : Box3 ((w.alloc (.cells #[.int .i64 K, .int .i64 R, .slice va vn vc] 24)).alloc (.cells #[.int .i64 0, .slice none 0 0, .slice none 0 0] 33)) w.heap.size (.int .i64 K) (.int .i64 R) (.slice va vn vc) := by simp [Box3, go_sem]
  have q4A : Box3 ((w.alloc (.cells #[.int .i64 K, .int .i64 R, .slice va vn vc] 24)).alloc (.cells #[.int .i64 0, .slice none 0 0, .slice none 0 0] 33)) (w.heap.size + 1) (.int .i64 0) (.slice none 0 0) (.slice none 0 0) := by simp [Box3, go_sem]
  have sA0 : ((w.alloc (.cells #[.int .i64 K, .int .i64 R, .slice va vn vc] 24)).alloc (.cells #[.int .i64 0, .slice none 0 0, .slice none 0 0] 33)).heap.size = w.heap.size + 2 := by simp
  obtain ⟨WA, hWA⟩ : ∃ W : World, ((w.alloc (.cells #[.int .i64 K, .int .i64 R, .slice va vn vc] 24)).alloc (.cells #[.int .i64 0, .slice none 0 0, .slice none 0 0] 33)) = W := ⟨_, rfl⟩
  have lA := hu.len
  have lB := hv.len
  have mA := hu.len_le
  have mB := hv.len_le
  have hk1 := hr.k1
  have hk4 := hr.k4
  have hokW := wk_ok hr
  have hN81 := nodes_le hokW (wk_pos R) (wk_small hr hl)
  have hR3 := hokW.r3
  obtain ⟨ua, un, uc, rfl⟩ := hu.shape
  obtain ⟨wa, wn, wc, rfl⟩ := hv.shape
  have hsm : smallP K R T = none := by rw [smallP_ok hr, if_neg (by omega)]
  have hwork := fun (w' : World) (h' : IntsAt w' (.slice va vn vc) T) => ref_working K R va vn vc T w' h' hr
  have hcnt := fun (a : Option Addr) (n c : Nat) (w' : World) => ref_count K (wkR R) a n c w' hk1 hk4 hR3
  replace h := h.below bA
  replace hu := hu.below bA
  replace hv := hv.below bA
  rw [hWA] at h hu hv bA qA q4A sA0
  obtain ⟨m, hm⟩ : ∃ m, 2 * wkR R = m := ⟨_, rfl⟩
  obtain ⟨N, hN⟩ : ∃ N, pw K m = N := ⟨_, rfl⟩
  rw [hm, hN] at hN81 hcnt
  rw [hm]
  generalize wkT K R T = T' at *
  generalize wkR R = R' at *
  have hW2 : IntKind.i64.wrap (2 * (R' : Int)) = (m : Int) := by rw [← hm]; rw [show (2 * (R' : Int)) = ((2 * R' : Nat) : Int) by simp]; exact wrapK (by omega) (by omega)
  have qs3 : wrap64 (2 * (R' : Int)) = (m : Int) := by rw [show (2 * (R' : Int)) = (m : Int) by omega]; exact wrap64_id (by omega) (by omega)
  have hm6 : m ≤ 6 := by omega
  replace h := Lib.hid h
  replace hu := Lib.hid hu
  replace hv := Lib.hid hv
  replace hr := Lib.hid hr
  replace hokW := Lib.hid hokW
  replace hsm := Lib.hid hsm
  replace hwork := Lib.hid hwork
  replace hcnt := Lib.hid hcnt
  replace hl := Lib.hid hl
  replace hWA := Lib.hid hWA
  replace sA0 := Lib.hid sA0
  replace hm := Lib.hid hm
  replace hN := Lib.hid hN
  have qA0 := qA
  obtain ⟨⟨z0, z1, z2⟩, -, -, -⟩ := qA0
  go_enter Tryz.func28, Tryz.ntmps28
  go_upto_region 1 with fail
  rw [hWA.out]
  go_wp2_with fail
  refine (ref08_fault _ K R va vn vc T WA h.out).mono ?_
  rintro e w1 ⟨_, rfl, b1, he⟩
  rw [hsm.out] at he
  obtain rfl := he
  obtain ⟨be, ⟨⟨y0, y1, y2⟩, -, -, -⟩⟩ := err_box8 w1 (.int .i64 0) (.slice none 0 0) (.slice none 0 0)
  have c1e := Below.step b1 be
  obtain ⟨W2, hW2'⟩ : ∃ W2 : World, w1.alloc (.cells #[.int .i64 0, .slice none 0 0, .slice none 0 0] 33) = W2 := ⟨_, rfl⟩
  rw [hW2'] at be c1e y0 y1 y2
  replace hW2' := Lib.hid hW2'
  clear z0 z1 z2
  go_upto_region 2 with fail
  rw [hW2'.out]
  go_wp2_with fail
  refine (err_bad _ _ _ _ _ _ _ W2).mono ?_
  rintro e W0 ⟨_, rfl, b3, rfl⟩
  rw [show ((0 : Int) != 0) = false from rfl]
  have cA := Below.step c1e b3
  have b0 := Below.step bA cA
  have q := qA.below cA
  have q4 := q4A.below cA
  have s0 := cA.size
  rw [sA0.out] at s0
  replace h := Lib.hid (h.out.below cA)
  replace hu := Lib.hid (hu.out.below cA)
  replace hv := Lib.hid (hv.out.below cA)
  clear y0 y1 y2 qA q4A
  have q0 := q
  obtain ⟨⟨z0, z1, z2⟩, -, -, -⟩ := q0
  by_cases hA : 4096 < x.length
  · have d1 : decide ((4096 : Int) < (x.length : Int)) = true := decide_eq_true (by omega)
    have he : wayP K R' T' x y = fresh sPairs 1 4 := wayP_e1 hA
    replace he := Lib.hid he
    go_wp2_with fail
    refine (raw_new _ 1 4 W0).mono ?_
    rintro e w9 ⟨z, rfl, b9, hy⟩
    obtain ⟨q9, a9, n9, c9, a8, n8, c8, rfl⟩ := hy.shape
    obtain ⟨⟨v0, v1, v2⟩, g0, g1, g2⟩ := q4.below (Below.step (Below.refl W0.heap.size W0) b9)
    have sW := (Below.refl W0.heap.size W0).size
    replace hy := Lib.hid hy
    clear z0 z1 z2
    go_wp2
    (try simp only [Exit.inBlock, Exit.then])
    refine bodyPost_ret (v := .tuple #[.slice none 0 0, .agg #[.int .i64 q9, .slice a9 n9 c9, .slice a8 n8 c8]]) (by simp [results, Tryz.results28, go_sem, v0, v1, v2]) rfl ⟨_, _, rfl, below_set3 (Below.step (b0) b9) (by omega) _ _ _, ?_, fun _ => rfl, fun h => ?_⟩
    · rw [he.out]
      exact (hy.out.set3 (by omega) _ _ _).mono (by omega)
    · rw [he.out] at h; cases h
  have d1 : decide ((4096 : Int) < (x.length : Int)) = false := decide_eq_false (by omega)
  go_wp2_with fail
  refine (ref_bad K _ x W0 hu.out).mono ?_
  rintro e w2 ⟨rfl, rfl⟩
  by_cases hi : 0 ≤ idxOf (odd1 K) x
  · have d3 : decide ((0 : Int) ≤ idxOf (odd1 K) x) = true := decide_eq_true hi
    have he' : wayP K R' T' x y = fresh sPairs (idxOf (odd1 K) x) 2 := wayP_e2 hA hi
    generalize idxOf (odd1 K) x = i at *
    have he : wayP K R' T' x y = fresh sPairs i 2 := he'
    replace he := Lib.hid he
    clear he'
    go_wp2_with fail
    refine (raw_new _ i 2 W0).mono ?_
    rintro e w9 ⟨z, rfl, b9, hy⟩
    obtain ⟨q9, a9, n9, c9, a8, n8, c8, rfl⟩ := hy.shape
    obtain ⟨⟨v0, v1, v2⟩, g0, g1, g2⟩ := q4.below (Below.step (Below.refl W0.heap.size W0) b9)
    have sW := (Below.refl W0.heap.size W0).size
    replace hy := Lib.hid hy
    clear z0 z1 z2
    go_wp2
    (try simp only [Exit.inBlock, Exit.then])
    refine bodyPost_ret (v := .tuple #[.slice none 0 0, .agg #[.int .i64 q9, .slice a9 n9 c9, .slice a8 n8 c8]]) (by simp [results, Tryz.results28, go_sem, v0, v1, v2]) rfl ⟨_, _, rfl, below_set3 (Below.step (b0) b9) (by omega) _ _ _, ?_, fun _ => rfl, fun h => ?_⟩
    · rw [he.out]
      exact (hy.out.set3 (by omega) _ _ _).mono (by omega)
    · rw [he.out] at h; cases h
  have sA := idxOf_syms.1 hi
  have eA := sA.odd
  rw [eA]
  replace sA := Lib.hid sA
  replace eA := Lib.hid eA
  clear hi
  by_cases hB : 4096 < y.length
  · have d2 : decide ((4096 : Int) < (y.length : Int)) = true := decide_eq_true (by omega)
    have he : wayP K R' T' x y = fresh sPairs 2 4 := wayP_e3 hA sA.out hB
    replace he := Lib.hid he
    go_wp2_with fail
    refine (raw_new _ 2 4 W0).mono ?_
    rintro e w9 ⟨z, rfl, b9, hy⟩
    obtain ⟨q9, a9, n9, c9, a8, n8, c8, rfl⟩ := hy.shape
    obtain ⟨⟨v0, v1, v2⟩, g0, g1, g2⟩ := q4.below (Below.step (Below.refl W0.heap.size W0) b9)
    have sW := (Below.refl W0.heap.size W0).size
    replace hy := Lib.hid hy
    clear z0 z1 z2
    go_wp2
    (try simp only [Exit.inBlock, Exit.then])
    refine bodyPost_ret (v := .tuple #[.slice none 0 0, .agg #[.int .i64 q9, .slice a9 n9 c9, .slice a8 n8 c8]]) (by simp [results, Tryz.results28, go_sem, v0, v1, v2]) rfl ⟨_, _, rfl, below_set3 (Below.step (b0) b9) (by omega) _ _ _, ?_, fun _ => rfl, fun h => ?_⟩
    · rw [he.out]
      exact (hy.out.set3 (by omega) _ _ _).mono (by omega)
    · rw [he.out] at h; cases h
  have d2 : decide ((4096 : Int) < (y.length : Int)) = false := decide_eq_false (by omega)
  go_wp2_with fail
  refine (ref_bad K _ y W0 hv.out).mono ?_
  rintro e w2 ⟨rfl, rfl⟩
  by_cases hi : 0 ≤ idxOf (odd1 K) y
  · have hib : idxOf (odd1 K) y < y.length := by
      rcases idxOf_cases (odd1 K) y with ⟨k1, _⟩ | ⟨k, k1, k2, _⟩ <;> omega
    have d3 : decide ((0 : Int) ≤ idxOf (odd1 K) y) = true := decide_eq_true hi
    have he' : wayP K R' T' x y = fresh sPairs ((x.length : Int) + idxOf (odd1 K) y) 2 := wayP_e4 hA sA.out hB hi
    generalize idxOf (odd1 K) y = i at *
    have he : wayP K R' T' x y = fresh sPairs ((x.length : Int) + i) 2 := he'
    replace he := Lib.hid he
    clear he'
    go_wp2_with fail
    refine (raw_new _ ((x.length : Int) + i) 2 W0).mono ?_
    rintro e w9 ⟨z, rfl, b9, hy⟩
    obtain ⟨q9, a9, n9, c9, a8, n8, c8, rfl⟩ := hy.shape
    obtain ⟨⟨v0, v1, v2⟩, g0, g1, g2⟩ := q4.below (Below.step (Below.refl W0.heap.size W0) b9)
    have sW := (Below.refl W0.heap.size W0).size
    replace hy := Lib.hid hy
    clear z0 z1 z2
    go_wp2
    (try simp only [Exit.inBlock, Exit.then])
    refine bodyPost_ret (v := .tuple #[.slice none 0 0, .agg #[.int .i64 q9, .slice a9 n9 c9, .slice a8 n8 c8]]) (by simp [results, Tryz.results28, go_sem, v0, v1, v2]) rfl ⟨_, _, rfl, below_set3 (Below.step (b0) b9) (by omega) _ _ _, ?_, fun _ => rfl, fun h => ?_⟩
    · rw [he.out]
      exact (hy.out.set3 (by omega) _ _ _).mono (by omega)
    · rw [he.out] at h; cases h
  have sB := idxOf_syms.1 hi
  have eB := sB.odd
  rw [eB]
  replace sB := Lib.hid sB
  replace eB := Lib.hid eB
  clear hi
  go_wp2_with fail
  refine (hwork.out W0 h.out).mono ?_
  rintro e w4 ⟨_, rfl, b4, a, n, c, rfl, hT⟩
  have c4 := Below.step (Below.refl W0.heap.size W0) b4
  obtain ⟨bb, qb⟩ : Below w4.heap.size w4 (w4.alloc (.cells #[.int .i64 K, .int .i64 R', .slice a n c] 24)) ∧ Box3 (w4.alloc (.cells #[.int .i64 K, .int .i64 R', .slice a n c] 24)) w4.heap.size (.int .i64 K) (.int .i64 R') (.slice a n c) := ⟨belowAlloc _ _, by simp [Box3, go_sem]⟩
  have c5 := Below.step c4 bb
  have hT5 := hT.below bb
  obtain ⟨W5, hW5⟩ : ∃ W : World, w4.alloc (.cells #[.int .i64 K, .int .i64 R', .slice a n c] 24) = W := ⟨_, rfl⟩
  obtain ⟨gb, hgb⟩ : ∃ g, w4.heap.size = g := ⟨_, rfl⟩
  rw [hW5] at bb qb c5 hT5
  rw [hgb] at qb
  have b5 := Below.step b0 c5
  replace hW5 := Lib.hid hW5
  replace hgb := Lib.hid hgb
  replace hT5 := Lib.hid hT5
  clear z0 z1 z2 hT
  have qb0 := qb
  obtain ⟨⟨z0, z1, z2⟩, -, -, -⟩ := qb0
  go_upto_region 15 with fail
  rw [hW5.out, hgb.out]
  by_cases hbad : x.length ≠ y.length ∨ x.length < m
  · have he' : wayP K R' T' x y = fresh sPairs 1 3 := wayP_e5 hA sA.out hB sB.out (by rw [hm.out]; exact hbad)
    by_cases hlen : x.length = y.length
    · have d3 : ((x.length : Int) != (y.length : Int)) = false := by simp; omega
      have d4' : x.length < m := by omega
      have d4 : decide ((x.length : Int) < (m : Int)) = true := decide_eq_true (by omega)
      clear hbad
      replace hlen := Lib.hid hlen
      have he : wayP K R' T' x y = fresh sPairs 1 3 := he'
      replace he := Lib.hid he
      clear he'
      go_wp2_with fail
      refine (raw_new _ 1 3 W5).mono ?_
      rintro e w9 ⟨z, rfl, b9, hy⟩
      obtain ⟨q9, a9, n9, c9, a8, n8, c8, rfl⟩ := hy.shape
      obtain ⟨⟨v0, v1, v2⟩, g0, g1, g2⟩ := q4.below (Below.step (c5) b9)
      have sW := (c5).size
      replace hy := Lib.hid hy
      clear z0 z1 z2
      go_wp2
      (try simp only [Exit.inBlock, Exit.then])
      refine bodyPost_ret (v := .tuple #[.slice none 0 0, .agg #[.int .i64 q9, .slice a9 n9 c9, .slice a8 n8 c8]]) (by simp [results, Tryz.results28, go_sem, v0, v1, v2]) rfl ⟨_, _, rfl, below_set3 (Below.step (b5) b9) (by omega) _ _ _, ?_, fun _ => rfl, fun h => ?_⟩
      · rw [he.out]
        exact (hy.out.set3 (by omega) _ _ _).mono (by omega)
      · rw [he.out] at h; cases h
    · have d3 : ((x.length : Int) != (y.length : Int)) = true := by simp; omega
      clear hbad
      replace hlen := Lib.hid hlen
      have he : wayP K R' T' x y = fresh sPairs 1 3 := he'
      replace he := Lib.hid he
      clear he'
      go_wp2_with fail
      refine (raw_new _ 1 3 W5).mono ?_
      rintro e w9 ⟨z, rfl, b9, hy⟩
      obtain ⟨q9, a9, n9, c9, a8, n8, c8, rfl⟩ := hy.shape
      obtain ⟨⟨v0, v1, v2⟩, g0, g1, g2⟩ := q4.below (Below.step (c5) b9)
      have sW := (c5).size
      replace hy := Lib.hid hy
      clear z0 z1 z2
      go_wp2
      (try simp only [Exit.inBlock, Exit.then])
      refine bodyPost_ret (v := .tuple #[.slice none 0 0, .agg #[.int .i64 q9, .slice a9 n9 c9, .slice a8 n8 c8]]) (by simp [results, Tryz.results28, go_sem, v0, v1, v2]) rfl ⟨_, _, rfl, below_set3 (Below.step (b5) b9) (by omega) _ _ _, ?_, fun _ => rfl, fun h => ?_⟩
      · rw [he.out]
        exact (hy.out.set3 (by omega) _ _ _).mono (by omega)
      · rw [he.out] at h; cases h
  have hlen : x.length = y.length := by omega
  have hxm : m ≤ x.length := by omega
  have d3 : ((x.length : Int) != (y.length : Int)) = false := by simp; omega
  have d4 : decide ((x.length : Int) < (m : Int)) = false := decide_eq_false (by omega)
  have hgood := wayP_e7 (R := R') (T := T') hA sA.out hB sB.out (by rw [hm.out]; exact hbad)
  have hevil := wayP_e6 (R := R') (T := T') hA sA.out hB sB.out (by rw [hm.out]; exact hbad)
  have hyl : y.length ≤ 4096 := by omega
  clear hbad
  replace hgood := Lib.hid hgood
  replace hevil := Lib.hid hevil
  replace hlen := Lib.hid hlen
  obtain ⟨W6, hW6⟩ : ∃ W : World, W5.drew = W := ⟨_, rfl⟩
  have c6 : Below W0.heap.size W0 W6 := by rw [← hW6]; exact c5.drew
  have c56 : Below W5.heap.size W5 W6 := by rw [← hW6]; exact (Below.refl _ _).drew
  have hT6 : IntsAt W6 (.slice a n c) T' := hT5.out.below c56
  have hS : W6.cell? ⟨gb, 0, none⟩ = some (.int .i64 K) ∧ W6.cell? ⟨gb, 1, none⟩ = some (.int .i64 R') ∧ W6.cell? ⟨gb, 2, none⟩ = some (.slice a n c) := (qb.below c56).1
  have call1 := ref_image K R' a n c T' (.slice ua un uc) x W6 hT6 hokW.out (hu.out.below c6) sA.out (by omega)
  replace hW6 := Lib.hid hW6
  replace call1 := Lib.hid call1
  replace hT6 := Lib.hid hT6
  go_upto_region 17 with fail
  refine wp_region_plan (fun w' => w'.cell? ⟨gb, 0, none⟩ = some (.int .i64 K) ∧ w'.cell? ⟨gb, 1, none⟩ = some (.int .i64 R') ∧ w'.cell? ⟨gb, 2, none⟩ = some (.slice a n c)) 7 [(0, true), (1, true), (3, true), (4, true), (2, false), (5, false), (6, false)] (by kernel_rfl) (by kernel_rfl) ?_
  rw [hW6.out]
  refine headY (v := ?_) (some 62) rfl rfl (Or.inl ⟨by rfl, ?_⟩) hS ?_
  rotate_left
  · rintro W' ⟨s0, s1, s2⟩; go_simp; try with_reducible rfl
  simp only [Act.put, List.setIfInBounds_toArray, List.set_cons_zero, List.set_cons_succ]
  refine headY (v := ?_) (some 63) rfl rfl (Or.inl ⟨by rfl, ?_⟩) hS ?_
  rotate_left
  · rintro W' ⟨s0, s1, s2⟩; go_simp; try with_reducible rfl
  simp only [Act.put, List.setIfInBounds_toArray, List.set_cons_zero, List.set_cons_succ]
  refine headY (v := ?_) (some 65) rfl rfl (Or.inl ⟨by rfl, ?_⟩) hS ?_
  rotate_left
  · rintro W' ⟨s0, s1, s2⟩; go_simp; try with_reducible rfl
  simp only [Act.put, List.setIfInBounds_toArray, List.set_cons_zero, List.set_cons_succ]
  refine headY (v := ?_) (some 66) rfl rfl (Or.inl ⟨by rfl, ?_⟩) hS ?_
  rotate_left
  · rintro W' ⟨s0, s1, s2⟩; go_simp; try with_reducible rfl
  simp only [Act.put, List.setIfInBounds_toArray, List.set_cons_zero, List.set_cons_succ]
  refine headC rfl (fun KK hK => ?_)
  go_simp
  refine call1.out.mono ?_
  rintro e w7 ⟨xv, rfl, b7, ho7⟩
  have hS7 : w7.cell? ⟨gb, 0, none⟩ = some (.int .i64 K) ∧ w7.cell? ⟨gb, 1, none⟩ = some (.int .i64 R') ∧ w7.cell? ⟨gb, 2, none⟩ = some (.slice a n c) := keep3 b7 hS
  have c7 := Below.step c6 b7
  obtain ⟨xva, xvn, xvc, rfl⟩ := ho7.at.shape
  refine hK _ _ hS7 ?_
  clear hK KK
  refine headC rfl (fun KK hK => ?_)
  go_simp
  refine (ref_image K R' a n c T' (.slice wa wn wc) y w7 (hT6.out.below b7) hokW.out (hv.out.below c7) sB.out (by omega)).mono ?_
  rintro e w8 ⟨yv, rfl, b8, ho8⟩
  have hS8 : w8.cell? ⟨gb, 0, none⟩ = some (.int .i64 K) ∧ w8.cell? ⟨gb, 1, none⟩ = some (.int .i64 R') ∧ w8.cell? ⟨gb, 2, none⟩ = some (.slice a n c) := keep3 b8 hS7
  have c8 := Below.step c7 b8
  obtain ⟨yva, yvn, yvc, rfl⟩ := ho8.at.shape
  refine hK _ _ hS8 ?_
  clear hK KK
  refine headC rfl (fun KK hK => ?_)
  go_simp
  refine (ints_any _ _ _ _ w8 (ho7.at.below b8) ho8.at).mono ?_
  rintro e w9 ⟨n9, rfl, rfl⟩
  refine hK _ _ hS8 ?_
  clear hK KK ho7 ho8 hS hS7
  have cN := below_drewN c8 n9
  obtain ⟨W9, hW9⟩ : ∃ W : World, w8.drewN n9 = W := ⟨_, rfl⟩
  have hS9 : W9.cell? ⟨gb, 0, none⟩ = some (.int .i64 K) ∧ W9.cell? ⟨gb, 1, none⟩ = some (.int .i64 R') ∧ W9.cell? ⟨gb, 2, none⟩ = some (.slice a n c) := by rw [← hW9]; exact hS8
  rw [hW9] at cN ⊢
  clear hW9 hS8
  have b09 := Below.step b0 cN
  refine head0 ?_
  simp only [List.drop_succ_cons, List.drop_zero]
  clear z0 z1 z2
  obtain ⟨z0, z1, z2⟩ := hS9
  by_cases himg : imgP K R' T' x = imgP K R' T' y
  case neg =>
    have he' := hevil.out himg
    rw [decide_eq_false himg]
    clear himg
    go_wp2
    refine NoPanic.normal ?_
    have he : wayP K R' T' x y = fresh sPairs 2 3 := he'
    replace he := Lib.hid he
    clear he'
    go_wp2_with fail
    refine (raw_new _ 2 3 W9).mono ?_
    rintro e w9 ⟨z, rfl, b9, hy⟩
    obtain ⟨q9, a9, n9, c9, a8, n8, c8, rfl⟩ := hy.shape
    obtain ⟨⟨v0, v1, v2⟩, g0, g1, g2⟩ := q4.below (Below.step (cN) b9)
    have sW := (cN).size
    replace hy := Lib.hid hy
    clear z0 z1 z2
    go_wp2
    (try simp only [Exit.inBlock, Exit.then])
    refine bodyPost_ret (v := .tuple #[.slice none 0 0, .agg #[.int .i64 q9, .slice a9 n9 c9, .slice a8 n8 c8]]) (by simp [results, Tryz.results28, go_sem, v0, v1, v2]) rfl ⟨_, _, rfl, below_set3 (Below.step (b09) b9) (by omega) _ _ _, ?_, fun _ => rfl, fun h => ?_⟩
    · rw [he.out]
      exact (hy.out.set3 (by omega) _ _ _).mono (by omega)
    · rw [he.out] at h; cases h
  have hP := hgood.out himg
  rw [decide_eq_true himg]
  replace hP := Lib.hid hP
  replace himg := Lib.hid himg
  go_wp2
  refine NoPanic.normal ?_
  go_wp2_with fail
  refine (hcnt.out a n c W9).mono ?_
  rintro e W ⟨_, rfl, bW, rfl⟩
  have hb3 : W.cell? ⟨gb, 0, none⟩ = some (.int .i64 K) ∧ W.cell? ⟨gb, 1, none⟩ = some (.int .i64 R') ∧ W.cell? ⟨gb, 2, none⟩ = some (.slice a n c) := keep3 bW ⟨z0, z1, z2⟩
  have cW := Below.step cN bW
  have b0W := Below.step b0 cW
  have sW := cW.size
  replace hb3 := Lib.hid hb3
  obtain ⟨ws, hws⟩ : ∃ ws, wayW K m x y = ws := ⟨_, rfl⟩
  have hwl : ws.length = x.length - m + 1 := by rw [← hws, wayW_len]
  have hxW := hu.out.below cW
  have hyW := hv.out.below cW
  replace hxW := Lib.hid hxW
  replace hyW := Lib.hid hyW
  replace hws := Lib.hid hws
  clear z0 z1 z2
  go_wp2_with fail
  go_loopw [12, 13] (fun ov iv wr => ∃ (i : Nat) (ow : Value), ow = ov ∧ iv = .int .i64 i ∧ i ≤ ws.length ∧ OwnI W.heap.size wr ow (castI (ws.take i)) ∧ Below W.heap.size W wr) (fun _ iv _ => 10000 - (intOf iv).toNat)
  case atStart => exact ⟨0, _, rfl, rfl, Nat.zero_le _, OwnI.nil _ _, Below.refl _ _⟩
  case round =>
    obtain ⟨i, ow, rfl, rfl, hi, hO, hB'⟩ := hrel
    obtain ⟨wo, rfl⟩ : ∃ wo : World, wo = wr := ⟨_, rfl⟩
    obtain ⟨z0, z1, z2⟩ := keep3 hB' hb3.out
    have hi9 : i ≤ 4097 := by omega
    by_cases him : i + m ≤ x.length
    · have dI : decide ((i : Int) + (m : Int) ≤ (x.length : Int)) = true := decide_eq_true (by omega)
      obtain ⟨V, hV⟩ : ∃ V : World, wo.drew = V := ⟨_, rfl⟩
      have bV : Below W.heap.size W V := by rw [← hV]; exact hB'.drew
      have hOV : OwnI W.heap.size V ow (castI (ws.take i)) := by rw [← hV]; exact hO.drew
      have boxes : ∀ W' : World, Below W.heap.size W W' → W'.cell? ⟨gb, 0, none⟩ = some (.int .i64 K) ∧ W'.cell? ⟨gb, 1, none⟩ = some (.int .i64 R') := fun W' q => ⟨(keep3 q hb3.out).1, (keep3 q hb3.out).2.1⟩
      have hxV := hxW.out.below bV
      have hyV := hyW.out.below bV
      obtain ⟨xs, hxr, hxI⟩ := hxV.mid i (i + m) (by omega) him
      obtain ⟨ys, hyr, hyI⟩ := hyV.mid i (i + m) (by omega) (by have := hlen.out; omega)
      rw [List.drop_take, Nat.add_sub_cancel_left] at hxI hyI
      obtain ⟨xsa, xsn, xsc, rfl⟩ := hxI.shape
      obtain ⟨ysa, ysn, ysc, rfl⟩ := hyI.shape
      have hxr2 : ∀ w', (Instr.slice 22 (.slice ua un uc) (some (.int .i64 (i : Int))) (some (.int .i64 ((i : Int) + (m : Int)))) none).run Tryz.prog w' = .ok (.slice xsa xsn xsc) w' := fun w' => by have := hxr w'; rwa [show (((i + m : Nat) : Nat) : Int) = (i : Int) + (m : Int) by omega] at this
      have hyr2 : ∀ w', (Instr.slice 22 (.slice wa wn wc) (some (.int .i64 (i : Int))) (some (.int .i64 ((i : Int) + (m : Int)))) none).run Tryz.prog w' = .ok (.slice ysa ysn ysc) w' := fun w' => by have := hyr w'; rwa [show (((i + m : Nat) : Nat) : Int) = (i : Int) + (m : Int) by omega] at this
      have hwim : IntKind.i64.wrap ((i : Int) + (m : Int)) = (i : Int) + (m : Int) := wrapK (by omega) (by omega)
      have call1 := ref_value K _ ((x.drop i).take m) V hk1 hk4 hxI (syms_take (syms_drop sA.out i) m) (by rw [List.length_take]; omega)
      have call2 := ref_value K _ ((y.drop i).take m) V hk1 hk4 hyI (syms_take (syms_drop sB.out i) m) (by rw [List.length_take]; omega)
      have hnx := node_lt (K := K) (m := m) sA.out him
      have hny := node_lt (K := K) (m := m) (i := i) sB.out (by have := hlen.out; omega)
      have hget := wayW_get (K := K) (m := m) (x := x) (y := y) (i := i) (by omega)
      unfold nodeAt at hnx hny hget
      rw [hN.out] at hnx hny hget
      rw [hws.out] at hget
      obtain ⟨nx, hnxe⟩ : ∃ z, numW K ((x.drop i).take m) = z := ⟨_, rfl⟩
      obtain ⟨ny, hnye⟩ : ∃ z, numW K ((y.drop i).take m) = z := ⟨_, rfl⟩
      rw [hnxe] at call1 hnx hget
      rw [hnye] at call2 hny hget
      obtain ⟨p, hp⟩ : ∃ z, nx * N = z := ⟨_, rfl⟩
      have hpl : p ≤ 6561 := by rw [← hp]; exact Nat.mul_le_mul (show nx ≤ 81 by omega) hN81
      have hp2 : (nx : Int) * (N : Int) = (p : Int) := by rw [← hp]; simp
      have hwp : IntKind.i64.wrap (p : Int) = (p : Int) := wrapK (by omega) (by omega)
      rw [hp] at hget
      obtain ⟨z, hz⟩ : ∃ z, p + ny = z := ⟨_, rfl⟩
      have hz2 : (p : Int) + (ny : Int) = (z : Int) := by omega
      have hwz : IntKind.i64.wrap (z : Int) = (z : Int) := wrapK (by omega) (by omega)
      rw [hz] at hget
      have htk : castI (ws.take i) ++ [(z : Int)] = castI (ws.take (i + 1)) := by rw [take_nat (by omega), hget, castI_snoc]
      have hlq : (castI (ws.take i)).length ≤ 5000 := by rw [castI_len, List.length_take]; omega
      have bla := belowAlloc V (.cells #[.int .i64 (z : Int)] 3)
      have hlita := OwnI.lit V.heap.size V (Nat.le_refl _) [(z : Int)] (by simp [maxLen]) #[.int .i64 (z : Int)] rfl 1 rfl
      have hOla := hOV.below bla
      have sV := bV.size
      have hBla : W.heap.size ≤ (V.alloc (.cells #[.int .i64 (z : Int)] 3)).heap.size := by simp; omega
      have hSla := boxes _ (bV.trans (bla.mono bV.size))
      have hS := boxes V bV
      have him2 := Lib.hid him
      have bla2 := Lib.hid bla
      replace hV := Lib.hid hV
      replace hOV := Lib.hid hOV
      replace hO := Lib.hid hO
      replace hxV := Lib.hid hxV
      replace hyV := Lib.hid hyV
      replace hxI := Lib.hid hxI
      replace hyI := Lib.hid hyI
      replace call1 := Lib.hid call1
      replace call2 := Lib.hid call2
      replace hnxe := Lib.hid hnxe
      replace hnye := Lib.hid hnye
      replace hp := Lib.hid hp
      replace hz := Lib.hid hz
      replace hget := Lib.hid hget
      replace htk := Lib.hid htk
      replace hlita := Lib.hid hlita
      replace hOla := Lib.hid hOla
      replace boxes := Lib.hid boxes
      clear hxr hyr bla
      go_upto_region 24 with fail
      refine wp_region_plan (fun w' => w'.cell? ⟨gb, 0, none⟩ = some (.int .i64 K) ∧ w'.cell? ⟨gb, 1, none⟩ = some (.int .i64 R')) 28 [(0, true), (1, true), (2, true), (3, true), (4, true), (5, true), (6, true), (7, true), (8, true), (9, true), (10, true), (12, true), (14, true), (15, true), (16, true), (17, true), (18, true), (19, true), (20, true), (21, true), (22, true), (23, true), (11, false), (13, true), (24, false), (25, true), (26, false), (27, false)] (by kernel_rfl) (by kernel_rfl) ?_
      rw [hV.out]
      clear z0 z1 z2
      refine headY (v := ?_) (some 83) rfl rfl (Or.inl ⟨by rfl, ?_⟩) hS ?_
      rotate_left
      · rintro W' ⟨s0, s1⟩; go_simp; try with_reducible rfl
      simp only [Act.put, List.setIfInBounds_toArray, List.set_cons_zero, List.set_cons_succ]
      refine headY (v := ?_) (some 84) rfl rfl (Or.inl ⟨by rfl, ?_⟩) hS ?_
      rotate_left
      · rintro W' ⟨s0, s1⟩; go_simp; try with_reducible rfl
      simp only [Act.put, List.setIfInBounds_toArray, List.set_cons_zero, List.set_cons_succ]
      refine headY (v := ?_) (some 85) rfl rfl (Or.inl ⟨by rfl, ?_⟩) hS ?_
      rotate_left
      · rintro W' ⟨s0, s1⟩; go_simp; try with_reducible rfl
      simp only [Act.put, List.setIfInBounds_toArray, List.set_cons_zero, List.set_cons_succ]
      refine headY (v := ?_) (some 86) rfl rfl (Or.inl ⟨by rfl, ?_⟩) hS ?_
      rotate_left
      · rintro W' ⟨s0, s1⟩; go_simp; try with_reducible rfl
      simp only [Act.put, List.setIfInBounds_toArray, List.set_cons_zero, List.set_cons_succ]
      refine headY (v := ?_) (some 87) rfl rfl (Or.inl ⟨by rfl, ?_⟩) hS ?_
      rotate_left
      · rintro W' ⟨s0, s1⟩; go_simp; try with_reducible rfl
      simp only [Act.put, List.setIfInBounds_toArray, List.set_cons_zero, List.set_cons_succ]
      refine headY (v := ?_) (some 88) rfl rfl (Or.inl ⟨by rfl, ?_⟩) hS ?_
      rotate_left
      · rintro W' ⟨s0, s1⟩; go_simp; try with_reducible rfl
      simp only [Act.put, List.setIfInBounds_toArray, List.set_cons_zero, List.set_cons_succ]
      refine headY (v := ?_) (some 89) rfl rfl (Or.inl ⟨by rfl, ?_⟩) hS ?_
      rotate_left
      · rintro W' ⟨s0, s1⟩; go_simp; try with_reducible rfl
      simp only [Act.put, List.setIfInBounds_toArray, List.set_cons_zero, List.set_cons_succ]
      refine headY (v := ?_) (some 90) rfl rfl (Or.inl ⟨by rfl, ?_⟩) hS ?_
      rotate_left
      · rintro W' ⟨s0, s1⟩; go_simp; try with_reducible rfl
      simp only [Act.put, List.setIfInBounds_toArray, List.set_cons_zero, List.set_cons_succ]
      refine headY (v := ?_) (some 91) rfl rfl (Or.inl ⟨by rfl, ?_⟩) hS ?_
      rotate_left
      · rintro W' ⟨s0, s1⟩; go_simp; try with_reducible rfl
      simp only [Act.put, List.setIfInBounds_toArray, List.set_cons_zero, List.set_cons_succ]
      refine headY (v := ?_) (some 92) rfl rfl (Or.inl ⟨by rfl, ?_⟩) hS ?_
      rotate_left
      · rintro W' ⟨s0, s1⟩; go_simp; try with_reducible rfl
      simp only [Act.put, List.setIfInBounds_toArray, List.set_cons_zero, List.set_cons_succ]
      refine headY (v := ?_) (some 93) rfl rfl (Or.inl ⟨by rfl, ?_⟩) hS ?_
      rotate_left
      · rintro W' ⟨s0, s1⟩; go_simp; try with_reducible rfl
      simp only [Act.put, List.setIfInBounds_toArray, List.set_cons_zero, List.set_cons_succ]
      refine headY (v := ?_) (some 95) rfl rfl (Or.inl ⟨by rfl, ?_⟩) hS ?_
      rotate_left
      · rintro W' ⟨s0, s1⟩; go_simp; try with_reducible rfl
      simp only [Act.put, List.setIfInBounds_toArray, List.set_cons_zero, List.set_cons_succ]
      refine headY (v := ?_) (some 97) rfl rfl (Or.inl ⟨by rfl, ?_⟩) hS ?_
      rotate_left
      · rintro W' ⟨s0, s1⟩; go_simp; try with_reducible rfl
      simp only [Act.put, List.setIfInBounds_toArray, List.set_cons_zero, List.set_cons_succ]
      refine headY (v := ?_) (some 98) rfl rfl (Or.inl ⟨by rfl, ?_⟩) hS ?_
      rotate_left
      · rintro W' ⟨s0, s1⟩; go_simp; try with_reducible rfl
      simp only [Act.put, List.setIfInBounds_toArray, List.set_cons_zero, List.set_cons_succ]
      refine headY (v := ?_) (some 99) rfl rfl (Or.inl ⟨by rfl, ?_⟩) hS ?_
      rotate_left
      · rintro W' ⟨s0, s1⟩; go_simp; try with_reducible rfl
      simp only [Act.put, List.setIfInBounds_toArray, List.set_cons_zero, List.set_cons_succ]
      refine headY (v := ?_) (some 100) rfl rfl (Or.inl ⟨by rfl, ?_⟩) hS ?_
      rotate_left
      · rintro W' ⟨s0, s1⟩; go_simp; try with_reducible rfl
      simp only [Act.put, List.setIfInBounds_toArray, List.set_cons_zero, List.set_cons_succ]
      refine headY (v := ?_) (some 101) rfl rfl (Or.inl ⟨by rfl, ?_⟩) hS ?_
      rotate_left
      · rintro W' ⟨s0, s1⟩; go_simp; try with_reducible rfl
      simp only [Act.put, List.setIfInBounds_toArray, List.set_cons_zero, List.set_cons_succ]
      refine headY (v := ?_) (some 102) rfl rfl (Or.inl ⟨by rfl, ?_⟩) hS ?_
      rotate_left
      · rintro W' ⟨s0, s1⟩; go_simp; try with_reducible rfl
      simp only [Act.put, List.setIfInBounds_toArray, List.set_cons_zero, List.set_cons_succ]
      refine headY (v := ?_) (some 103) rfl rfl (Or.inl ⟨by rfl, ?_⟩) hS ?_
      rotate_left
      · rintro W' ⟨s0, s1⟩; go_simp; try with_reducible rfl
      simp only [Act.put, List.setIfInBounds_toArray, List.set_cons_zero, List.set_cons_succ]
      refine headY (v := ?_) (some 104) rfl rfl (Or.inl ⟨by rfl, ?_⟩) hS ?_
      rotate_left
      · rintro W' ⟨s0, s1⟩; go_simp; try with_reducible rfl
      simp only [Act.put, List.setIfInBounds_toArray, List.set_cons_zero, List.set_cons_succ]
      refine headY (v := ?_) (some 105) rfl rfl (Or.inl ⟨by rfl, ?_⟩) hS ?_
      rotate_left
      · rintro W' ⟨s0, s1⟩; go_simp; try with_reducible rfl
      simp only [Act.put, List.setIfInBounds_toArray, List.set_cons_zero, List.set_cons_succ]
      refine headY (v := ?_) (some 106) rfl rfl (Or.inl ⟨by rfl, ?_⟩) hS ?_
      rotate_left
      · rintro W' ⟨s0, s1⟩; go_simp; try with_reducible rfl
      simp only [Act.put, List.setIfInBounds_toArray, List.set_cons_zero, List.set_cons_succ]
      refine headC rfl (fun KK hK => ?_)
      go_simp
      refine call1.out.mono ?_
      rintro e w' ⟨rfl, rfl⟩
      refine hK _ _ hS ?_
      clear hK KK
      refine headY (v := ?_) (some 96) rfl rfl (Or.inl ⟨by rfl, ?_⟩) hS ?_
      rotate_left
      · rintro W' ⟨s0, s1⟩; go_simp; try with_reducible rfl
      simp only [Act.put, List.setIfInBounds_toArray, List.set_cons_zero, List.set_cons_succ]
      refine headC rfl (fun KK hK => ?_)
      go_simp
      refine call2.out.mono ?_
      rintro e w' ⟨rfl, rfl⟩
      refine hK _ _ hS ?_
      clear hK KK
      refine headY (v := ?_) (some 108) rfl rfl (Or.inl ⟨by rfl, ?_⟩) hS ?_
      rotate_left
      · rintro W' ⟨s0, s1⟩; go_simp; try with_reducible rfl
      simp only [Act.put, List.setIfInBounds_toArray, List.set_cons_zero, List.set_cons_succ]
      refine headC rfl (fun KK hK => ?_)
      go_simp
      refine hK _ _ hSla ?_
      clear hK KK
      refine headC rfl (fun KK hK => ?_)
      refine step_appIG rfl _ _ rfl W.heap.size ow (.slice (some ⟨V.heap.size, 0, none⟩) 1 1) _ [(z : Int)] rfl rfl hOla.out hlita.out.at (by simp only [List.length_cons, List.length_nil]; omega) hBla ?_
      intro va' wA hoA bA' _ _
      have bEnd : Below W.heap.size W wA := (bV.trans (bla2.out.mono bV.size)).trans bA'
      have hSx := boxes.out wA bEnd
      rw [htk.out] at hoA
      obtain ⟨vaa, van, vac, rfl⟩ := hoA.at.shape
      replace hoA := Lib.hid hoA
      refine hK _ _ hSx ?_
      clear hK KK
      refine head0 ?_
      simp only [List.drop_succ_cons, List.drop_zero]
      clear hS hSx hSla
      go_wp2
      refine NoPanic.normal ?_
      go_wp2
      go_roundw
      case measure => have := him2.out; simp [intOf]; omega
      case rel => exact ⟨i + 1, _, rfl, by go_num, by have := him2.out; omega, hoA.out, bEnd⟩
    · have dI : decide ((i : Int) + (m : Int) ≤ (x.length : Int)) = false := decide_eq_false (by omega)
      have hie : i = ws.length := by omega
      have hO9 := hO
      rw [hie, List.take_length, ← hws.out] at hO9
      obtain ⟨ya, yn, yc, rfl⟩ := hO9.at.shape
      have c10 := Below.step cW hB'
      obtain ⟨⟨v0, v1, v2⟩, g0, g1, g2⟩ := q4.below c10
      have h9 := (hO9.set3 (b := w.heap.size + 1) (by omega) (.int .i64 0) (.slice none 0 0) (.slice none 0 0)).at
      replace hO := Lib.hid hO
      replace hO9 := Lib.hid hO9
      replace h9 := Lib.hid h9
      replace hie := Lib.hid hie
      go_wp2
      (try simp only [Exit.inBlock, Exit.then])
      refine bodyPost_ret (v := .tuple #[.slice ya yn yc, .agg #[.int .i64 0, .slice none 0 0, .slice none 0 0]]) (by simp [results, Tryz.results28, go_sem, v0, v1, v2]) rfl ⟨_, _, rfl, below_set3 (Below.step b0 c10) (by omega) _ _ _, ?_, fun h => absurd hP.out h, fun _ => h9.out⟩
      rw [hP.out]; rfl

/-- The error and the way that both answer. -/
def wyE (k R : Int) (T x y : List Int) : PErr :=
  match smallP k R T with
  | some t => under sPairs 0 (some t)
  | none => wayP k.toNat (wkR R.toNat) (wkT k.toNat R.toNat T) x y
def WyIs (k R : Int) (T x y zs : List Int) : Prop :=
  (wyE k R T x y ≠ none ∧ zs = []) ∨ (wyE k R T x y = none ∧ zs = castI (wayW k.toNat (2 * wkR R.toNat) x y))
theorem WyIs.unique {k R : Int} {T x y zs us : List Int} (h : WyIs k R T x y zs) (g : WyIs k R T x y us) : us = zs := by
  rcases h with ⟨h1, rfl⟩ | ⟨h1, rfl⟩ <;> rcases g with ⟨g1, rfl⟩ | ⟨g1, rfl⟩
  · rfl
  · exact absurd g1 h1
  · exact absurd h1 g1
  · rfl
theorem wyE_fine (k R : Int) (T x y : List Int) : (wyE k R T x y).Fine := by
  unfold wyE
  cases h : smallP k R T with
  | some t =>
    obtain ⟨n, l⟩ := t
    have := smallP_num h
    refine ⟨by omega, by omega, ?_⟩
    simp only [List.length_cons]
    omega
  | none =>
    have f : ∀ a n, 1 ≤ n → n ≤ 11 → (fresh sPairs a n).Fine := fun a n h1 h2 => ⟨h1, h2, (show 1 ≤ 1000 by decide)⟩
    have g : ∀ (k : Int) ws a b t, lookP k ws a b = some t → PErr.Fine (some t) := fun k ws a b t h => by
      unfold lookP at h
      split at h
      · rw [← h]; exact f _ _ (by decide) (by decide)
      · split at h
        · cases h
        · rw [← h]; exact f _ _ (by decide) (by decide)
    show (wayP _ _ _ _ _).Fine
    unfold wayP
    split
    · rename_i t ht; exact g _ _ _ _ _ ht
    · split
      · rename_i t ht; exact g _ _ _ _ _ ht
      · split
        · exact f _ _ (by decide) (by decide)
        · split
          · trivial
          · exact f _ _ (by decide) (by decide)

theorem pway_any (r : Nat → Addr) (k R : Int) (va : Option Addr) (vn vc : Nat) (T : List Int) (u v : Value) (x y : List Int) (w : World) (hg : Glob r w) (h : IntsAt w (.slice va vn vc) T) (hu : IntsAt w u x) (hv : IntsAt w v y) :
    Calls Tryz.prog 27 #[.agg #[.int .i64 k, .int .i64 R, .slice va vn vc], u, v] w (Ret2 (fun z e w' => ErrIs r w' (wyE k R T x y) e ∧ ∃ zs, WyIs k R T x y zs ∧ IntsAt w' z zs) w) := by
  cases hc : smallP k R T with
  | some t =>
    have hE : wyE k R T x y = under sPairs 0 (some t) := by unfold wyE; rw [hc]
    refine (pway_bad r k R va vn vc T u v t w hg h hc).mono ?_
    rintro e w1 ⟨z, e, rfl, b1, rfl, he⟩
    exact ⟨_, _, rfl, b1, by rw [hE]; exact he, [], .inl ⟨by rw [hE]; exact fun q => (by cases q), rfl⟩, (OwnI.nil 0 _).at⟩
  | none =>
    obtain ⟨hck, hl⟩ := smallP_none hc
    obtain ⟨K, Q, rfl, rfl, hr⟩ := checkP_none hck
    have hE : wyE K Q T x y = wayP K (wkR Q) (wkT K Q T) x y := by unfold wyE; rw [hc]; rfl
    refine (pway_ok r K Q va vn vc T u v x y w hg h hu hv hr hl).mono ?_
    rintro e w1 ⟨z, e, rfl, b1, he, h1, h2⟩
    refine ⟨_, _, rfl, b1, by rw [hE]; exact he, ?_⟩
    rw [← hE] at h1 h2
    by_cases hn : wyE K Q T x y = none
    · exact ⟨_, .inr ⟨hn, rfl⟩, (h2 hn).at⟩
    · obtain rfl := h1 hn
      exact ⟨[], .inl ⟨hn, rfl⟩, (OwnI.nil 0 _).at⟩
theorem rway_any (k R : Int) (va : Option Addr) (vn vc : Nat) (T : List Int) (u v : Value) (x y : List Int) (w : World) (h : IntsAt w (.slice va vn vc) T) (hu : IntsAt w u x) (hv : IntsAt w v y) :
    Calls Tryz.prog 28 #[.agg #[.int .i64 k, .int .i64 R, .slice va vn vc], u, v] w (Ret2 (fun z e w' => EOwn w.heap.size w' (wyE k R T x y) e ∧ ∃ zs, WyIs k R T x y zs ∧ IntsAt w' z zs) w) := by
  cases hc : smallP k R T with
  | some t =>
    have hE : wyE k R T x y = under sPairs 0 (some t) := by unfold wyE; rw [hc]
    refine (ref13_path_bad k R va vn vc T u v t w h hc).mono ?_
    rintro e w1 ⟨z, e, rfl, b1, rfl, he⟩
    exact ⟨_, _, rfl, b1, by rw [hE]; exact he, [], .inl ⟨by rw [hE]; exact fun q => (by cases q), rfl⟩, (OwnI.nil 0 _).at⟩
  | none =>
    obtain ⟨hck, hl⟩ := smallP_none hc
    obtain ⟨K, Q, rfl, rfl, hr⟩ := checkP_none hck
    have hE : wyE K Q T x y = wayP K (wkR Q) (wkT K Q T) x y := by unfold wyE; rw [hc]; rfl
    refine (ref13_path_ok K Q va vn vc T u v x y w h hu hv hr hl).mono ?_
    rintro e w1 ⟨z, e, rfl, b1, he, h1, h2⟩
    refine ⟨_, _, rfl, b1, by rw [hE]; exact he, ?_⟩
    rw [← hE] at h1 h2
    by_cases hn : wyE K Q T x y = none
    · exact ⟨_, .inr ⟨hn, rfl⟩, h2 hn⟩
    · obtain rfl := h1 hn
      exact ⟨[], .inl ⟨hn, rfl⟩, (OwnI.nil 0 _).at⟩
end Go.Proofs.YtilpckngghffoaaGreatDoor

namespace Go.Proofs.YtilpckngghffoaaGreatDoor
open Go.RowKit
set_option maxRecDepth 100000

end Go.Proofs.YtilpckngghffoaaGreatDoor

namespace Go.Proofs.YtilpckngghffoaaGreatDoor
open Go.RowKit
set_option maxRecDepth 100000

/-- No vertex of G. -/
def outG (G : List (List Int)) (a : Int) : Prop := a < 0 ∨ (G.length : Int) ≤ a
instance (G : List (List Int)) (a : Int) : Decidable (outG G a) := by unfold outG; infer_instance
theorem FirstPost.step {w1 w2 w3 : World} {adj : Nat → List Nat} {a b : Nat} {x : Value} (h : FirstPost w2 adj a b x w3) (hs : w1.heap.size ≤ w2.heap.size) : FirstPost w1 adj a b x w3 := by
  rcases h with ⟨u, h1, h2⟩ | h
  · exact .inl ⟨u, h1, h2.mono hs⟩
  · exact .inr h
theorem FirstPost.shape {w w' : World} {adj : Nat → List Nat} {a b : Nat} {x : Value} (h : FirstPost w adj a b x w') : ∃ p n c, x = .slice p n c := by
  rcases h with ⟨u, _, h2⟩ | ⟨_, h⟩
  · exact h2.at.shape
  · exact ⟨_, _, _, h⟩

end Go.Proofs.YtilpckngghffoaaGreatDoor

namespace Go.Proofs.YtilpckngghffoaaGreatDoor
open Go.RowKit
set_option maxRecDepth 100000

/-- One's own slice, cut at its end. -/
theorem OwnI.cut {B : Nat} {w : World} {g m c : Nat} {xs : List Int} (h : OwnI B w (.slice (some ⟨g, 0, none⟩) (m + 1) c) xs) (hl : xs.length = m + 1) : OwnI B w (.slice (some ⟨g, 0, none⟩) m c) (xs.take m) := by
  rcases h.2 with ⟨e, _⟩ | ⟨g', cap', cur, e, hB, hg, hn, hm, hs, ht⟩
  · cases e
  · injection e with e1 e2 e3
    injection e1 with e1
    injection e1 with e1
    subst e1; subst e3
    have hml : (xs.take m).length = m := by simp; omega
    refine ⟨by simp, .inr ⟨g, c, cur, by rw [hml], hB, hg, by rw [hml]; omega, hm, hs, ?_⟩⟩
    rw [hml]
    rw [hl] at ht
    have := congrArg (List.take m) ht
    rw [List.take_take] at this
    simp only [Nat.mul_one] at this ⊢
    rw [Nat.min_eq_left (by omega)] at this
    rw [this, List.map_take]

end Go.Proofs.YtilpckngghffoaaGreatDoor

namespace Go.Proofs.YtilpckngghffoaaGreatDoor
open Go.RowKit
set_option maxRecDepth 100000

end Go.Proofs.YtilpckngghffoaaGreatDoor

namespace Go.Proofs.YtilpckngghffoaaGreatDoor
open Go.RowKit
set_option maxRecDepth 100000

theorem lit_ints (w : World) (xs : List Int) (cs : Array Value) (hc : cs.toList = xs.map (Value.int .i64)) (hl : xs.length ≤ 10) : IntsAt (w.alloc (.cells cs 3)) (.slice (some ⟨w.heap.size, 0, none⟩) xs.length xs.length) xs :=
  (OwnI.lit w.heap.size w (Nat.le_refl _) xs (by unfold maxLen; omega) cs hc xs.length rfl).at

end Go.Proofs.YtilpckngghffoaaGreatDoor

namespace Go.Proofs.YtilpckngghffoaaGreatDoor
open Go.RowKit
set_option maxRecDepth 100000

def zT : List Int := List.replicate 8 0
theorem zT_ok : RuleOk 2 1 zT := ⟨by decide, by decide, by decide, by decide, fun x hx => by rw [List.eq_of_mem_replicate hx]; decide⟩
theorem zT_two : ∀ p, p < 16 → ∀ q, q < 16 → ∃ t ∈ pairL 2 4 zT p, q ∈ pairL 2 4 zT t := by decide +kernel
theorem zT_goes {p q : Nat} (hp : p < 16) (hq : q < 16) : Goes (adjOf (pairG 2 4 zT)) p q := by
  obtain ⟨t, ht, hqt⟩ := zT_two p hp q hq
  exact (pairG_goes (by decide) (.step (.one ht) hqt) hp).1
theorem zT_loop {p : Nat} (hp : p < 16) : OnLoop (adjOf (pairG 2 4 zT)) p := by
  obtain ⟨t, ht, hqt⟩ := zT_two p hp p hp
  refine ⟨t, by rw [pairG_adj (N := 4) hp]; exact ht, ?_⟩
  have htl : t < 16 := ((mem_pairL (N := 4) (by decide)).1 ht).lt (by decide)
  exact zT_goes htl hp
theorem zT_live {L : List Nat} (h : LiveList 16 (adjOf (pairG 2 4 zT)) L) : L = List.range 16 :=
  h.unique ⟨List.pairwise_lt_range, fun v => by
    rw [List.mem_range]
    exact ⟨fun q => ⟨q, ⟨v, q, zT_loop q, .refl _⟩, ⟨v, q, zT_loop q, .refl _⟩⟩, fun q => q.1⟩⟩
theorem zT_words : AllFit 2 4 zT [1, 6, 13] := by
  intro i hi
  have : i = 0 ∨ i = 1 := by simp at hi; omega
  rcases this with rfl | rfl <;> decide

theorem zT_wkR : wkR 1 = 1 := rfl
theorem zT_wkT : wkT 2 1 zT = zT := rfl
theorem zT_pw : pw 2 (2 * 1) = 4 := by decide
theorem zT_pwords (r : Nat → Addr) (ta : Option Addr) (tn tc : Nat) (u : Value) (w : World) (hg : Glob r w) (h : IntsAt w (.slice ta tn tc) zT) (hu : IntsAt w u [1, 6, 13]) :
    Calls Tryz.prog 25 #[.agg #[.int .i64 2, .int .i64 1, .slice ta tn tc], u] w (Ret3 (fun x y z w' => z = .nilIface ∧ IntsAt w' x [0, 0, 1, 1] ∧ IntsAt w' y [0, 1, 0, 1]) w) := by
  have hc := pwords_way r 2 1 ta tn tc zT u [1, 6, 13] w hg h zT_ok (by decide) hu (by simp)
  rw [zT_wkR, zT_pw] at hc
  refine (hc (by decide) (by decide)).mono ?_
  rintro e w' ⟨x, y, z, rfl, b, hp⟩
  refine ⟨x, y, z, rfl, b, ?_⟩
  unfold WordsPost at hp
  rw [zT_wkT, zT_pw] at hp
  rcases hp with ⟨_, h1, h2, h3, _⟩ | ⟨hno, _⟩
  · have exa : alongW 2 (2 * 1) (· / 4) [1, 6, 13] = [0, 0, 1, 1] := by decide
    have exb : alongW 2 (2 * 1) (· % 4) [1, 6, 13] = [0, 1, 0, 1] := by decide
    rw [exa] at h2
    rw [exb] at h3
    exact ⟨h1, h2.at, h3.at⟩
  · exact absurd zT_words hno
theorem zT_papart (r : Nat → Addr) (ta : Option Addr) (tn tc : Nat) (w : World) (hg : Glob r w) (h : IntsAt w (.slice ta tn tc) zT) :
    Calls Tryz.prog 55 #[.agg #[.int .i64 2, .int .i64 1, .slice ta tn tc]] w (Ret2 (fun x y w' => y = .nilIface ∧ IntsAt w' x [1, 2, 3, 4, 6, 7, 8, 9, 11, 12, 13, 14]) w) := by
  have hc := papart_ok r 2 1 ta tn tc zT w hg h zT_ok (by decide)
  rw [zT_wkR, zT_wkT, zT_pw] at hc
  refine hc.mono ?_
  rintro e w' ⟨x, y, rfl, b, h1, L, hL, ho⟩
  have hLe : L = List.range 16 := zT_live hL
  subst hLe
  refine ⟨x, y, rfl, b, h1, ?_⟩
  have hF : castI ((List.range 16).filter (fun p => !decide (Diag 4 p))) = [1, 2, 3, 4, 6, 7, 8, 9, 11, 12, 13, 14] := by decide
  rw [hF] at ho
  exact ho.at

set_option maxHeartbeats 400000 in
theorem awake13 (r : Nat → Addr) (w : World) (hg : Glob r w) : Calls Tryz.prog 23 #[] w (Ret1 (fun x _ => x = .bool true) w) := by
  obtain ⟨tv, w1, mk, ho, b1⟩ := run_makeI (8 : Int) 8 w rfl (by omega)
  have hT : IntsAt w1 tv zT := ho.at
  obtain ⟨ta, tn, tc, rfl⟩ := ho.at.shape
  have ba := belowAlloc w1 (.cells #[.int .i64 2, .int .i64 1, .slice ta tn tc] 24)
  have q : Box3 (w1.alloc (.cells #[.int .i64 2, .int .i64 1, .slice ta tn tc] 24)) w1.heap.size (.int .i64 2) (.int .i64 1) (.slice ta tn tc) := by simp [Box3, go_sem]
  have b02 := Below.step b1 ba
  have hT2 := hT.below ba
  obtain ⟨W2, hW2⟩ : ∃ W2 : World, W2 = w1.alloc (.cells #[.int .i64 2, .int .i64 1, .slice ta tn tc] 24) := ⟨_, rfl⟩
  rw [← hW2] at b02 hT2 q
  have bl := belowAlloc W2 (.cells #[.int .i64 1, .int .i64 6, .int .i64 13] 3)
  have hlit := lit_ints W2 [1, 6, 13] #[.int .i64 1, .int .i64 6, .int .i64 13] rfl (by decide)
  have b03 := Below.step b02 bl
  replace hg := Lib.hid hg
  replace ho := Lib.hid ho
  replace hT := Lib.hid hT
  replace hT2 := Lib.hid hT2
  replace q := Lib.hid q
  replace hlit := Lib.hid hlit
  go_enter Tryz.func23, Tryz.ntmps23
  go_upto_region 2 with fail
  rw [← hW2]
  replace hW2 := Lib.hid hW2
  obtain ⟨⟨y0, y1, y2⟩, -, -, -⟩ := q.out
  go_wp2_with fail
  clear y0 y1 y2
  refine (zT_pwords r ta tn tc _ _ (hg.out.below b03) (hT2.out.below bl) hlit.out).mono ?_
  rintro e w4 ⟨xa, xb, z, rfl, b4, rfl, hxa, hxb⟩
  have b24 := Below.step bl b4
  have b04 := Below.step b03 b4
  obtain ⟨⟨z0, z1, z2⟩, -, -, -⟩ := q.out.below b24
  replace hxa := Lib.hid hxa
  replace hxb := Lib.hid hxb
  clear mk
  go_wp2_with fail
  refine (zT_papart r ta tn tc w4 (hg.out.below b04) (hT2.out.below b24)).mono ?_
  rintro e w5 ⟨lv, y, rfl, b5, rfl, hlo⟩
  have ll := hlo.len
  have i4 : ∀ w', (Instr.indexAt 22 lv (.int .i64 4)).run Tryz.prog w' = .ok (.pointer (some (valAt lv 4))) w' := fun w' => hlo.idx 4 (by decide) w'
  have c4 := hlo.cellD 4 (by decide)
  rw [show ([1, 2, 3, 4, 6, 7, 8, 9, 11, 12, 13, 14] : List Int).getD 4 0 = 6 by decide] at c4
  rw [show ([1, 2, 3, 4, 6, 7, 8, 9, 11, 12, 13, 14] : List Int).length = 12 by decide] at ll
  clear z0 z1 z2
  generalize valAt lv 4 = la at *
  obtain ⟨l1, l2, l3, rfl⟩ := hlo.shape
  replace hlo := Lib.hid hlo
  have b05 := Below.step b04 b5
  have bl1 := belowAlloc w5 (.cells #[.int .i64 0, .int .i64 0, .int .i64 1, .int .i64 1] 3)
  have hlit1 := lit_ints w5 [0, 0, 1, 1] #[.int .i64 0, .int .i64 0, .int .i64 1, .int .i64 1] rfl (by decide)
  replace hlit1 := Lib.hid hlit1
  go_wp2_with fail
  refine (ints_any xa _ _ _ _ ((hxa.out.below b5).below bl1) hlit1.out).mono ?_
  rintro e w7 h7
  obtain ⟨rfl, b7⟩ := h7.below
  clear h7
  rw [show decide (([0, 0, 1, 1] : List Int) = [0, 0, 1, 1]) = true by decide]
  have b57 := Below.step bl1 b7
  have bl2 := belowAlloc w7 (.cells #[.int .i64 0, .int .i64 1, .int .i64 0, .int .i64 1] 3)
  have hlit2 := lit_ints w7 [0, 1, 0, 1] #[.int .i64 0, .int .i64 1, .int .i64 0, .int .i64 1] rfl (by decide)
  replace hlit2 := Lib.hid hlit2
  go_wp2_with fail
  refine (ints_any xb _ _ _ _ ((hxb.out.below (Below.step b5 b57)).below bl2) hlit2.out).mono ?_
  rintro e w8 h8
  obtain ⟨rfl, b8⟩ := h8.below
  clear h8
  rw [show decide (([0, 1, 0, 1] : List Int) = [0, 1, 0, 1]) = true by decide]
  have b58 := Below.step b57 (Below.step bl2 b8)
  have c8 := (b58.cell (World.block_lt_of_cell? _ _ c4)).trans c4
  go_wp2
  go_ret
  exact ⟨_, rfl, Below.step b05 b58, rfl⟩
end Go.Proofs.YtilpckngghffoaaGreatDoor

namespace Go.Proofs.YtilpckngghffoaaGreatDoor
open Go.RowKit
set_option maxRecDepth 100000

theorem LentI.setBelow {B : Nat} {w : World} {m : Value} {xs : List Int} (h : LentI B w m xs) {a : Addr} (ha : a.block < B) (u : Value) : LentI B (w.setCell a u) m xs := by
  obtain ⟨v, e, ho⟩ := h
  exact ⟨v, e, ho.setBelowBase ha u⟩
theorem LentI.mono {B B' : Nat} {w : World} {m : Value} {xs : List Int} (h : LentI B w m xs) (hB : B' ≤ B) : LentI B' w m xs := by
  obtain ⟨v, e, ho⟩ := h
  exact ⟨v, e, ho.mono hB⟩

theorem lentRule_any (k R : Int) (va : Option Addr) (vn vc : Nat) (T : List Int) (w : World) (h : IntsAt w (.slice va vn vc) T) (hl : T.length ≤ 17592186044414) :
    Calls Tryz.prog 9 #[.agg #[.int .i64 k, .int .i64 R, .slice va vn vc]] w (Ret1 (fun x w' => ∃ a n c, x = .agg #[.int .i64 k, .int .i64 R, .slice a n c] ∧ LentI w.heap.size w' (.slice a n c) T) w) := by
  have b0 := Below.step (belowAlloc w (.cells #[.int .i64 k, .int .i64 R, .slice va vn vc] 24)) (belowAlloc _ (.cells #[.int .i64 0, .int .i64 0, .slice none 0 0] 24))
  have q6 : Box3 ((w.alloc (.cells #[.int .i64 k, .int .i64 R, .slice va vn vc] 24)).alloc (.cells #[.int .i64 0, .int .i64 0, .slice none 0 0] 24)) w.heap.size (.int .i64 k) (.int .i64 R) (.slice va vn vc) := by simp [Box3, go_sem]
  have q7 : Box3 ((w.alloc (.cells #[.int .i64 k, .int .i64 R, .slice va vn vc] 24)).alloc (.cells #[.int .i64 0, .int .i64 0, .slice none 0 0] 24)) (w.heap.size + 1) (.int .i64 0) (.int .i64 0) (.slice none 0 0) := by simp [Box3, go_sem]
  replace h := Lib.hid (h.below b0)
  go_enter Tryz.func9, Tryz.ntmps9
  go_wp2
  have hWs : w.heap.size + 2 ≤ ((w.alloc (.cells #[.int .i64 k, .int .i64 R, .slice va vn vc] 24)).alloc (.cells #[.int .i64 0, .int .i64 0, .slice none 0 0] 24)).heap.size := by simp
  obtain ⟨W, hW⟩ : ∃ W : World, W = ((w.alloc (.cells #[.int .i64 k, .int .i64 R, .slice va vn vc] 24)).alloc (.cells #[.int .i64 0, .int .i64 0, .slice none 0 0] 24)) := ⟨_, rfl⟩
  rw [← hW] at b0 q6 q7 h hWs ⊢
  clear hW
  have q6' := q6
  obtain ⟨⟨z0, z1, z2⟩, -, -, -⟩ := q6'
  go_region_held3 (fun w' => w'.cell? ⟨w.heap.size, 0, none⟩ = some (.int .i64 k) ∧ w'.cell? ⟨w.heap.size, 1, none⟩ = some (.int .i64 R) ∧ w'.cell? ⟨w.heap.size, 2, none⟩ = some (.slice va vn vc)) (first | exact ⟨z0, z1, z2⟩ | exact ⟨s0, s1, s2⟩ | (simp [s0, s1, s2, World.cell?_setCell_far]; done))
    (first | (go_at_call 24; refine (lent_any (.slice va vn vc) T _ ?_ hl).mono ?_
              · exact h.out.drew
              rintro e w1 ⟨x, rfl, b1, hx⟩
              have b1' : Below W.heap.size W w1 := (Below.refl W.heap.size W).drew.trans b1
              obtain ⟨a, n, c, rfl⟩ := hx.at.shape
              have s0 := cell_keep b1' z0
              have s1 := cell_keep b1' z1
              have s2 := cell_keep b1' z2
              have q7n := q7.below b1'
              obtain ⟨⟨y0, y1, y2⟩, g0, g1, g2⟩ := q7n))
  have hE := Lib.hid (((hx.setBelow (a := ⟨w.heap.size + 1, 0, none⟩) (show w.heap.size + 1 < W.heap.size by omega) (.int .i64 k)).setBelow (a := ⟨w.heap.size + 1, 1, none⟩) (show w.heap.size + 1 < W.heap.size by omega) (.int .i64 R)).setBelow (a := ⟨w.heap.size + 1, 2, none⟩) (show w.heap.size + 1 < W.heap.size by omega) (.slice a n c))
  have hBf := Lib.hid (below_set3 (Below.stepL b0 b1') (Nat.le_succ w.heap.size) (.int .i64 k) (.int .i64 R) (.slice a n c))
  clear hx b1 b1'
  go_wp2
  exact bodyPost_ret (v := .agg #[.int .i64 k, .int .i64 R, .slice a n c]) (by simp [results, Tryz.results9, go_sem, y0, y1, y2]) rfl ⟨_, rfl, hBf.out, a, n, c, rfl, hE.out.mono (show w.heap.size ≤ W.heap.size by omega)⟩

/-- edenraw.KeptRule at a lent rule. -/
theorem keptRule_any (B : Nat) (k R : Int) (a : Option Addr) (n c : Nat) (va : Option Addr) (vn vc : Nat) (T : List Int) (w : World) (h : LentI B w (.slice a n c) T) (h' : IntsAt w (.slice va vn vc) T) (hl : T.length ≤ 17592186044414) :
    Calls Tryz.prog 13 #[.agg #[.int .i64 k, .int .i64 R, .slice a n c], .agg #[.int .i64 k, .int .i64 R, .slice va vn vc]] w (Ret1 (fun x _ => x = .bool true) w) := by
  have b0 := Below.step (belowAlloc w (.cells #[.int .i64 k, .int .i64 R, .slice a n c] 24)) (belowAlloc _ (.cells #[.int .i64 k, .int .i64 R, .slice va vn vc] 24))
  replace h := Lib.hid (h.below b0)
  replace h' := Lib.hid (h'.below b0)
  have e1 : (k == k) = true := by simp
  have e2 : (R == R) = true := by simp
  go_enter Tryz.func13, Tryz.ntmps13
  go_wp2_with fail
  refine (kept_any B _ _ T _ h.out h'.out hl).mono ?_
  rintro e w1 h1
  obtain ⟨rfl, b1⟩ := h1.below
  have hB := Lib.hid (Below.step b0 b1)
  clear h1
  go_wp2
  go_ret
  exact ⟨_, rfl, hB.out, rfl⟩
end Go.Proofs.YtilpckngghffoaaGreatDoor

namespace Go.Proofs.YtilpckngghffoaaGreatDoor
open Go.RowKit
set_option maxRecDepth 100000

/-- What an error's numbers look like in memory. -/
theorem eat_shape {w : World} {t : PErr} {v : Value} (h : EAt w t v) : ∃ (n : Int) (sa : Option Addr) (sn sc : Nat) (ja : Option Addr) (jn jc : Nat), v = .agg #[.int .i64 n, .slice sa sn sc, .slice ja jn jc] := by
  cases t with
  | none => exact ⟨0, none, 0, 0, none, 0, 0, h⟩
  | some q =>
    obtain ⟨n, l⟩ := q
    obtain ⟨a1, n1, c1, a2, n2, c2, rfl, _, _⟩ := h
    exact ⟨_, _, _, _, _, _, _, rfl⟩

end Go.Proofs.YtilpckngghffoaaGreatDoor

namespace Go.Proofs.YtilpckngghffoaaGreatDoor
open Go.RowKit
set_option maxRecDepth 100000

set_option maxHeartbeats 8000000 in
theorem pairsWords_any (r : Nat → Addr) (k R : Int) (tv : Value) (T : List Int) (sv : Value) (way : List Int) (uv : Value) (a : List Int) (vv : Value) (b : List Int) (w : World) (hg : Glob r w) (hG : GlobE w) (h : IntsAt w tv T) (hs : IntsAt w sv way) (hu : IntsAt w uv a) (hv : IntsAt w vv b) (lT : T.length ≤ 17592186043904) (ls : way.length ≤ 17592186043904) (la : a.length ≤ 17592186043904) (lb : b.length ≤ 17592186043904) :
    Calls Tryz.prog 5 #[.agg #[.int .i64 k, .int .i64 R, tv], sv, uv, vv] w (Ret1 (fun x _ => x = .bool true) w) := by
  obtain ⟨va, vn, vc, rfl⟩ := h.shape
  obtain ⟨sa, sn, sc, rfl⟩ := hs.shape
  obtain ⟨ua, un, uc, rfl⟩ := hu.shape
  obtain ⟨wa, wn, wc, rfl⟩ := hv.shape
  have b0 := belowAlloc w (.cells #[.int .i64 k, .int .i64 R, .slice va vn vc] 24)
  have q : Box3 (w.alloc (.cells #[.int .i64 k, .int .i64 R, .slice va vn vc] 24)) w.heap.size (.int .i64 k) (.int .i64 R) (.slice va vn vc) := by simp [Box3, go_sem]
  obtain ⟨w0, hw0⟩ : ∃ W : World, w.alloc (.cells #[.int .i64 k, .int .i64 R, .slice va vn vc] 24) = W := ⟨_, rfl⟩
  rw [hw0] at b0 q
  replace hg := Lib.hid (hg.below b0)
  replace hG := Lib.hid (hG.below b0)
  replace h := Lib.hid (h.below b0)
  replace hs := Lib.hid (hs.below b0)
  replace hu := Lib.hid (hu.below b0)
  replace hv := Lib.hid (hv.below b0)
  replace hw0 := Lib.hid hw0
  go_enter Tryz.func5, Tryz.ntmps5
  go_upto_region 1 with fail
  rw [hw0.out]
  go_wp2_with fail
  refine (awake13 r _ hg.out).mono ?_
  rintro e w1 ⟨_, rfl, b1, rfl⟩
  obtain ⟨⟨z0, z1, z2⟩, -, -, -⟩ := q.below b1
  go_wp2_with fail
  refine (lentRule_any k R va vn vc T w1 (h.out.below b1) (by omega)).mono ?_
  rintro e w2 ⟨_, rfl, b2, ma, mn, mc, rfl, hm⟩
  have b2a := Below.step b2 (belowAlloc w2 (.cells #[.int .i64 k, .int .i64 R, .slice ma mn mc] 24))
  have qm : Box3 (w2.alloc (.cells #[.int .i64 k, .int .i64 R, .slice ma mn mc] 24)) w2.heap.size (.int .i64 k) (.int .i64 R) (.slice ma mn mc) := by simp [Box3, go_sem]
  replace hm := hm.below (belowAlloc w2 (.cells #[.int .i64 k, .int .i64 R, .slice ma mn mc] 24))
  have c3 := Below.step b1 b2a
  generalize hgm : w2.heap.size = gm at *
  obtain ⟨w3, hw3⟩ : ∃ W : World, w2.alloc (.cells #[.int .i64 k, .int .i64 R, .slice ma mn mc] 24) = W := ⟨_, rfl⟩
  rw [hw3] at b2a qm hm c3
  replace hw3 := Lib.hid hw3
  replace hgm := Lib.hid hgm
  replace hm := Lib.hid hm
  clear z0 z1 z2
  go_upto_region 4 with fail
  rw [hw3.out, hgm.out]
  go_wp2_with fail
  refine (lent_any (.slice sa sn sc) way w3 (hs.out.below c3) (by omega)).mono ?_
  rintro e w4 ⟨sx, rfl, b4, ls_⟩
  have c4 := Below.step c3 b4
  have d4 := Below.step (Below.refl w3.heap.size w3) b4
  obtain ⟨sxa, sxn, sxc, rfl⟩ := ls_.at.shape
  replace ls_ := Lib.hid ls_
  go_wp2_with fail
  refine (lent_any (.slice ua un uc) a w4 (hu.out.below c4) (by omega)).mono ?_
  rintro e w5 ⟨ux, rfl, b5, lu⟩
  have c5 := Below.step c4 b5
  have d5 := Below.step (d4) b5
  obtain ⟨uxa, uxn, uxc, rfl⟩ := lu.at.shape
  replace lu := Lib.hid lu
  go_wp2_with fail
  refine (lent_any (.slice wa wn wc) b w5 (hv.out.below c5) (by omega)).mono ?_
  rintro e w6 ⟨vx, rfl, b6, lv⟩
  have c6 := Below.step c5 b6
  have d6 := Below.step (d5) b6
  obtain ⟨vxa, vxn, vxc, rfl⟩ := lv.at.shape
  replace lv := Lib.hid lv
  obtain ⟨⟨m0, m1, m2⟩, -, -, -⟩ := qm.below d6
  go_wp2_with fail
  refine (pwords_any r k R ma mn mc T _ way w6 (hg.out.below c6) (hm.out.below d6).at ((ls_.out.below b5).below b6).at (by omega)).mono ?_
  rintro e w7 ⟨x1, y1, e1, rfl, b7, xs, ys, t1, hW1, hx1, hy1, he1⟩
  have c7 := Below.step c6 b7
  have d7 := Below.step d6 b7
  obtain ⟨x1a, x1n, x1c, rfl⟩ := hx1.shape
  obtain ⟨y1a, y1n, y1c, rfl⟩ := hy1.shape
  replace hx1 := Lib.hid hx1
  replace hy1 := Lib.hid hy1
  replace he1 := Lib.hid he1
  replace hW1 := Lib.hid hW1
  clear m0 m1 m2
  obtain ⟨⟨z0, z1, z2⟩, -, -, -⟩ := q.below c7
  go_wp2_with fail
  refine (rwords_any k R va vn vc T _ way w7 (h.out.below c7) (hs.out.below c7) (by omega)).mono ?_
  rintro e w8 ⟨x2, y2, e2, rfl, b8, us, vs, t2, hW2, hx2, hy2, he2⟩
  obtain ⟨rfl, rfl, rfl⟩ := hW1.out.unique hW2
  obtain ⟨x2a, x2n, x2c, rfl⟩ := hx2.shape
  obtain ⟨y2a, y2n, y2c, rfl⟩ := hy2.shape
  obtain ⟨n7, s7a, s7n, s7c, j7a, j7n, j7c, rfl⟩ := eat_shape he2.at
  obtain ⟨be, q7⟩ := err_box8 w8 (.int .i64 n7) (.slice s7a s7n s7c) (.slice j7a j7n j7c)
  replace he2 := he2.at.below be
  replace hx2 := hx2.below be
  replace hy2 := hy2.below be
  have b8a := Below.step b8 be
  generalize hg7 : w8.heap.size = g7 at *
  obtain ⟨w9, hw9⟩ : ∃ W : World, w8.alloc (.cells #[.int .i64 n7, .slice s7a s7n s7c, .slice j7a j7n j7c] 33) = W := ⟨_, rfl⟩
  rw [hw9] at be q7 he2 hx2 hy2 b8a
  have c9 := Below.step c7 b8a
  have d9 := Below.step d7 b8a
  have fine1 := hW2.fine
  replace hw9 := Lib.hid hw9
  replace hg7 := Lib.hid hg7
  replace he2 := Lib.hid he2
  replace hx2 := Lib.hid hx2
  replace hy2 := Lib.hid hy2
  replace fine1 := Lib.hid fine1
  clear z0 z1 z2 be hW2 hW1
  obtain ⟨⟨m0, m1, m2⟩, -, -, -⟩ := qm.below d9
  go_upto_region 9 with fail
  rw [hw9.out, hg7.out]
  go_wp2_with fail
  refine (pway_any r k R ma mn mc T _ _ a b w9 (hg.out.below c9) (hm.out.below d9).at (((lu.out.below b6).below b7).below b8a).at ((lv.out.below b7).below b8a).at).mono ?_
  rintro e w10 ⟨x3, e3, rfl, b10, he3, zs, hZ1, hx3⟩
  have c10 := Below.step c9 b10
  have d10 := Below.step d9 b10
  obtain ⟨x3a, x3n, x3c, rfl⟩ := hx3.shape
  replace hx3 := Lib.hid hx3
  replace he3 := Lib.hid he3
  replace hZ1 := Lib.hid hZ1
  clear m0 m1 m2
  obtain ⟨⟨z0, z1, z2⟩, -, -, -⟩ := q.below c10
  go_wp2_with fail
  refine (rway_any k R va vn vc T _ _ a b w10 (h.out.below c10) (hu.out.below c10) (hv.out.below c10)).mono ?_
  rintro e w11 ⟨x4, e4, rfl, b11, he4, zs', hZ2, hx4⟩
  obtain rfl := hZ1.out.unique hZ2
  obtain ⟨x4a, x4n, x4c, rfl⟩ := hx4.shape
  obtain ⟨n8, s8a, s8n, s8c, j8a, j8n, j8c, rfl⟩ := eat_shape he4.at
  obtain ⟨be, q8⟩ := err_box8 w11 (.int .i64 n8) (.slice s8a s8n s8c) (.slice j8a j8n j8c)
  replace he4 := he4.at.below be
  replace hx4 := hx4.below be
  have b11a := Below.step b11 be
  generalize hg8 : w11.heap.size = g8 at *
  obtain ⟨W, hW⟩ : ∃ W : World, w11.alloc (.cells #[.int .i64 n8, .slice s8a s8n s8c, .slice j8a j8n j8c] 33) = W := ⟨_, rfl⟩
  rw [hW] at be q8 he4 hx4 b11a
  replace hW := Lib.hid hW
  replace hg8 := Lib.hid hg8
  clear z0 z1 z2 be hZ1 hZ2
  have d10W : Below w10.heap.size w10 W := b11a
  have d9W : Below w9.heap.size w9 W := Below.step b10 b11a
  have d8W : Below w7.heap.size w7 W := Below.step b8a d9W
  have d6W : Below w6.heap.size w6 W := Below.step b7 d8W
  have d5W : Below w5.heap.size w5 W := Below.step b6 d6W
  have d4W : Below w4.heap.size w4 W := Below.step b5 d5W
  have d3W : Below w3.heap.size w3 W := Below.step b4 d4W
  have dw : Below w0.heap.size w0 W := Below.step c3 d3W
  have boxes : ∀ W' : World, Below W.heap.size W W' → W'.cell? ⟨gm, 0, none⟩ = some (.int .i64 k) ∧ W'.cell? ⟨gm, 1, none⟩ = some (.int .i64 R) ∧ W'.cell? ⟨gm, 2, none⟩ = some (.slice ma mn mc) ∧ W'.cell? ⟨w.heap.size, 0, none⟩ = some (.int .i64 k) ∧ W'.cell? ⟨w.heap.size, 1, none⟩ = some (.int .i64 R) ∧ W'.cell? ⟨w.heap.size, 2, none⟩ = some (.slice va vn vc) ∧ W'.cell? ⟨g7, 0, none⟩ = some (.int .i64 n7) ∧ W'.cell? ⟨g7, 1, none⟩ = some (.slice s7a s7n s7c) ∧ W'.cell? ⟨g7, 2, none⟩ = some (.slice j7a j7n j7c) ∧ W'.cell? ⟨g8, 0, none⟩ = some (.int .i64 n8) ∧ W'.cell? ⟨g8, 1, none⟩ = some (.slice s8a s8n s8c) ∧ W'.cell? ⟨g8, 2, none⟩ = some (.slice j8a j8n j8c) := fun W' p => by
    obtain ⟨⟨m0, m1, m2⟩, -, -, -⟩ := qm.below (Below.step d3W p)
    obtain ⟨⟨z0, z1, z2⟩, -, -, -⟩ := q.below (Below.step dw p)
    obtain ⟨⟨x0, x1, x2⟩, -, -, -⟩ := q7.below (Below.step d9W p)
    obtain ⟨⟨y0, y1, y2⟩, -, -, -⟩ := q8.below p
    exact ⟨m0, m1, m2, z0, z1, z2, x0, x1, x2, y0, y1, y2⟩
  replace boxes := Lib.hid boxes
  have hS := boxes.out W (Below.refl _ _)
  have hx1W := Lib.hid (hx1.out.below d8W)
  have hy1W := Lib.hid (hy1.out.below d8W)
  have he1W := Lib.hid (he1.out.below d8W)
  have hx2W := Lib.hid (hx2.out.below d9W)
  have hy2W := Lib.hid (hy2.out.below d9W)
  have he2W := Lib.hid (he2.out.below d9W)
  have hx3W := Lib.hid (hx3.out.below d10W)
  have he3W := Lib.hid (he3.out.below d10W)
  have hx4W := Lib.hid hx4
  have he4W := Lib.hid he4
  have hmW := Lib.hid (hm.out.below d3W)
  have lsW := Lib.hid (ls_.out.below d4W)
  have luW := Lib.hid (lu.out.below d5W)
  have lvW := Lib.hid (lv.out.below d6W)
  clear hx4 he4
  go_upto_region 11 with fail
  rw [hW.out, hg8.out]
  obtain ⟨m0, m1, m2, z0, z1, z2, x0, x1, x2, y0, y1, y2⟩ := hS
  go_wp2_with fail
  refine (ints_any _ _ _ _ W (hx1W.out.below (Below.refl _ _)) (hx2W.out.below (Below.refl _ _))).mono ?_
  rintro e V1 hV1
  obtain ⟨rfl, u1⟩ := hV1.below
  clear hV1
  have p1 := Below.step (Below.refl _ _) u1
  rw [show decide (us = us) = true from decide_eq_true rfl]
  have hS1 := boxes.out V1 p1
  clear m0 m1 m2 z0 z1 z2 x0 x1 x2 y0 y1 y2
  obtain ⟨m0, m1, m2, z0, z1, z2, x0, x1, x2, y0, y1, y2⟩ := hS1
  go_wp2_with fail
  refine (ints_any _ _ _ _ V1 (hy1W.out.below p1) (hy2W.out.below p1)).mono ?_
  rintro e V2 hV2
  obtain ⟨rfl, u2⟩ := hV2.below
  clear hV2
  have p2 := Below.step p1 u2
  rw [show decide (vs = vs) = true from decide_eq_true rfl]
  have hS2 := boxes.out V2 p2
  clear m0 m1 m2 z0 z1 z2 x0 x1 x2 y0 y1 y2
  obtain ⟨m0, m1, m2, z0, z1, z2, x0, x1, x2, y0, y1, y2⟩ := hS2
  go_wp2_with fail
  refine (raw_is r t2 _ _ V2 (hg.out.below (Below.step dw p2)) (hG.out.below (Below.step dw p2)) (he1W.out.below p2) (he2W.out.below p2) fine1.out).mono ?_
  rintro e V3 ⟨_, rfl, u3, rfl⟩
  have p3 := Below.step p2 u3
  have hS3 := boxes.out V3 p3
  clear m0 m1 m2 z0 z1 z2 x0 x1 x2 y0 y1 y2
  obtain ⟨m0, m1, m2, z0, z1, z2, x0, x1, x2, y0, y1, y2⟩ := hS3
  go_wp2_with fail
  refine (ints_any _ _ _ _ V3 (hx3W.out.below p3) (hx4W.out.below p3)).mono ?_
  rintro e V4 hV4
  obtain ⟨rfl, u4⟩ := hV4.below
  clear hV4
  have p4 := Below.step p3 u4
  rw [show decide (zs' = zs') = true from decide_eq_true rfl]
  have hS4 := boxes.out V4 p4
  clear m0 m1 m2 z0 z1 z2 x0 x1 x2 y0 y1 y2
  obtain ⟨m0, m1, m2, z0, z1, z2, x0, x1, x2, y0, y1, y2⟩ := hS4
  go_wp2_with fail
  refine (raw_is r (wyE k R T a b) _ _ V4 (hg.out.below (Below.step dw p4)) (hG.out.below (Below.step dw p4)) (he3W.out.below p4) (he4W.out.below p4) (wyE_fine _ _ _ _ _)).mono ?_
  rintro e V5 ⟨_, rfl, u5, rfl⟩
  have p5 := Below.step p4 u5
  have hS5 := boxes.out V5 p5
  clear m0 m1 m2 z0 z1 z2 x0 x1 x2 y0 y1 y2
  obtain ⟨m0, m1, m2, z0, z1, z2, x0, x1, x2, y0, y1, y2⟩ := hS5
  go_wp2_with fail
  refine (keptRule_any _ k R ma mn mc va vn vc T V5 (hmW.out.below p5) (h.out.below (Below.step dw p5)) (by omega)).mono ?_
  rintro e V6 ⟨_, rfl, u6, rfl⟩
  have p6 := Below.step p5 u6
  have hS6 := boxes.out V6 p6
  clear m0 m1 m2 z0 z1 z2 x0 x1 x2 y0 y1 y2
  obtain ⟨m0, m1, m2, z0, z1, z2, x0, x1, x2, y0, y1, y2⟩ := hS6
  go_wp2_with fail
  refine (kept_any _ _ _ way V6 (lsW.out.below p6) (hs.out.below (Below.step dw p6)) (by omega)).mono ?_
  rintro e V7 hV7
  obtain ⟨rfl, u7⟩ := hV7.below
  clear hV7
  have p7 := Below.step p6 u7
  have hS7 := boxes.out V7 p7
  clear m0 m1 m2 z0 z1 z2 x0 x1 x2 y0 y1 y2
  obtain ⟨m0, m1, m2, z0, z1, z2, x0, x1, x2, y0, y1, y2⟩ := hS7
  go_wp2_with fail
  refine (kept_any _ _ _ a V7 (luW.out.below p7) (hu.out.below (Below.step dw p7)) (by omega)).mono ?_
  rintro e V8 hV8
  obtain ⟨rfl, u8⟩ := hV8.below
  clear hV8
  have p8 := Below.step p7 u8
  have hS8 := boxes.out V8 p8
  clear m0 m1 m2 z0 z1 z2 x0 x1 x2 y0 y1 y2
  obtain ⟨m0, m1, m2, z0, z1, z2, x0, x1, x2, y0, y1, y2⟩ := hS8
  go_wp2_with fail
  refine (kept_any _ _ _ b V8 (lvW.out.below p8) (hv.out.below (Below.step dw p8)) (by omega)).mono ?_
  rintro e V9 hV9
  obtain ⟨rfl, u9⟩ := hV9.below
  clear hV9
  have p9 := Below.step p8 u9
  have hS9 := boxes.out V9 p9
  clear m0 m1 m2 z0 z1 z2 x0 x1 x2 y0 y1 y2
  obtain ⟨m0, m1, m2, z0, z1, z2, x0, x1, x2, y0, y1, y2⟩ := hS9
  have bE := Below.step b0 (Below.step dw p9)
  go_wp2
  go_ret
  exact ⟨_, rfl, bE, rfl⟩
end Go.Proofs.YtilpckngghffoaaGreatDoor

namespace Go.Proofs.YtilpckngghffoaaGreatDoor
open Go.ChangeShapes Go.WideShapes Go.ChangeAt Go.RowKit Go.Joins
set_option maxRecDepth 100000

theorem own : ownKnob Tryz.prog.godebug = none := by kernel_rfl
theorem laidOut : laidOutB Tryz.prog = true := by kernel_rfl
theorem cellsInt : Tryz.prog.cellsOf 3 = 1 := by kernel_rfl
theorem uInt : Tryz.prog.underlying 3 = some (.int .i64) := by kernel_rfl
theorem bytesInt : Tryz.prog.bytesOf 3 = 8 := by kernel_rfl

theorem i64_of_wf {n : Int} (h : (Lit.int .i64 n).wf = true) : I64 n := by
  have := bounds_i64 h
  unfold I64
  omega

/-- A []int that came in. -/
theorem open_intsV {H : Type} {enc : TypeId × Value → H} {W : World} {held : Bool} {fuel : Nat} {v : Value} {y : DataW H × List MemPlace}
    (h : DataW.trod enc Tryz.prog W 0 (fun _ => true) held fuel 22 [v] = some y) (hw : ∀ n ∈ y.1.weights Tryz.prog 22, n ≤ reachBytes) :
    ∃ xs, IntsAt W v xs ∧ xs.length ≤ 17592186043904 ∧ ∀ x ∈ xs, I64 x := by
  rcases open_ints uInts uInt cellsInt h with ⟨hcs, _⟩ | ⟨a, len, cap, zs, hcs, _, hl, hm, hz, hx, hcell, hwz⟩
  · simp at hcs
    subst hcs
    exact ⟨[], (OwnI.nil 0 W).at, by simp, by simp⟩
  · simp at hcs
    subst hcs
    simp only [if_true] at hz
    have hzl : (zs.take len).length = len := by simp; omega
    refine ⟨zs.take len, ⟨some a, cap, by rw [hzl], by rw [hzl]; exact hl, hm, (fun e => by cases e), fun i hi => ?_⟩, ?_, fun x hx => i64_of_wf (hwz x (List.mem_of_mem_take hx))⟩
    · have hi' : i < zs.length := by rw [hzl] at hi; omega
      show W.cell? (a.add i) = _
      rw [hcell i hi']
      simp [List.getD, hi']
    · rw [hx] at hw
      have := hw ((lits (H := H) .i64 (zs.take len)).length * 8 + (lits (H := H) .i64 (zs.drop len)).length * 8) (by
        simp only [DataW.weights, uInts, bytesInt, List.mem_cons]
        left; omega)
      simp only [lits, List.length_map, reachBytes] at this
      omega

theorem open_intsT {H : Type} {enc : TypeId × Value → H} {W : World} {held : Bool} {v : Value} {d : DataW H} {p : List MemPlace} {b0 : Nat}
    (hv : Value.okWide Tryz.prog W .any b0 22 v) (h : DataW.Trod enc Tryz.prog W 0 (fun _ => true) held 22 v d p) (hw : ∀ n ∈ d.weights Tryz.prog 22, n ≤ reachBytes) :
    ∃ xs, IntsAt W v xs ∧ xs.length ≤ 17592186043904 ∧ ∀ x ∈ xs, I64 x := by
  obtain ⟨a, l, c, rfl⟩ := okWide_slice uInts hv
  obtain ⟨fuel, hf⟩ := h
  exact open_intsV (y := (d, p)) (by simpa [Value.cells] using hf) hw

theorem weights_each3 {H : Type} {t0 t1 t2 : TypeId} {y0 y1 y2 : DataW H} {n : Nat} (h : n ∈ y2.weights Tryz.prog t2) : n ∈ DataW.weightsEach Tryz.prog [t0, t1, t2] [y0, y1, y2] := by
  simp only [DataW.weightsEach, List.mem_append]
  exact .inr (.inr (.inl h))

/-- A rule that came in. -/
theorem open_ruleV {H : Type} {enc : TypeId × Value → H} {W : World} {held : Bool} {v : Value} {d : DataW H} {p : List MemPlace} {b0 : Nat}
    (hv : Value.okWide Tryz.prog W .any b0 24 v) (h : DataW.Trod enc Tryz.prog W 0 (fun _ => true) held 24 v d p) (hw : ∀ n ∈ d.weights Tryz.prog 24, n ≤ reachBytes) :
    ∃ (k R : Int) (u : Value) (xs : List Int), v = .agg #[.int .i64 k, .int .i64 R, u] ∧ IntsAt W u xs ∧ xs.length ≤ 17592186043904 ∧ (∀ x ∈ xs, I64 x) ∧ I64 k ∧ I64 R := by
  obtain ⟨v0, v1, v2, y0, y1, y2, n, rfl, rfl, rfl, h0, h1, h2⟩ := open_agg3 Tryz.underlying24 (by kernel_rfl) (by kernel_rfl) hv h
  obtain ⟨a, e0, _, wa⟩ := DataW.trod_int uInt h0
  obtain ⟨b, e1, _, wb⟩ := DataW.trod_int uInt h1
  simp at e0 e1
  subst e0 e1
  obtain ⟨xs, hx, hl, hb⟩ := open_intsV h2 fun n hn => hw n (by
    simp only [DataW.weights, Tryz.underlying24]
    exact weights_each3 (t0 := 3) (t1 := 3) (t2 := 22) hn)
  exact ⟨a, b, v2, xs, rfl, hx, hl, hb, i64_of_wf wa, i64_of_wf wb⟩

/-! The package-level errors. -/
theorem star : "*" ++ "errors.errorString" = "*errors.errorString" := by decide
theorem rowES (u : TypeId) (h : Tryz.prog.typeName? 3 u = some "*errors.errorString") : u = 238 :=
  typeName_ptr_named (nm := "errors.errorString") (by rw [star]; kernel_rfl) (by kernel_rfl) (by decide) u (by rw [star]; exact h)
theorem pES : Tryz.prog.underlying 238 = some (.pointer 259) := by kernel_rfl
theorem cES : Tryz.prog.cellsOf 259 = 1 := by kernel_rfl
theorem cStr : Tryz.prog.cellsOf 9 = 1 := by kernel_rfl

def laid12 : List (String × DataW Unit) := [("eden/api.BadRule", Rows.laid_eden_api_BadRule), ("eden/api.BadWord", Rows.laid_eden_api_BadWord), ("eden/api.BadArg", Rows.laid_eden_api_BadArg), ("eden/api.TooBig", Rows.laid_eden_api_TooBig), ("eden/api.NoBudget", Rows.laid_eden_api_NoBudget), ("eden/api.BadText", Rows.laid_eden_api_BadText), ("eden/api.BadPatch", Rows.laid_eden_api_BadPatch), ("eden/api.BadCert", Rows.laid_eden_api_BadCert), ("eden/api.NoInverse", Rows.laid_eden_api_NoInverse), ("eden/api.BadLine", Rows.laid_eden_api_BadLine), ("eden/api.BadState", Rows.laid_eden_api_BadState), ("eden/api.Unknown", Rows.laid_eden_api_Unknown)]

theorem sentinel {n : String} {text : List UInt8} {r : List (String × DataW Unit)} {W : World} {g : Nat}
    (h : laidMet Tryz.prog ((n, .iface "*errors.errorString" (.ptr (.agg [.lit (.string text)]))) :: r) W)
    (hg : Tryz.prog.globalNamed n = some g) (ht : (Tryz.prog.globals[g]?).map (·.type) = some 28) :
    (∃ a : Addr, W.cell? ⟨g, 0, none⟩ = some (.iface 238 (.pointer (some a))) ∧ ∃ s, W.cell? a = some (.string s) ∧ s.data.toList = text) ∧ laidMet Tryz.prog r W := by
  refine ⟨?_, h.tail⟩
  obtain ⟨a, s, hv, hc, hs, _⟩ := laid_sentinel h hg ht Tryz.underlying28 rowES pES Tryz.underlying259 rfl rfl Tryz.underlying9 cES cStr
  exact ⟨a, by simpa using World.var?_cell hg hv 0, s, hc, hs⟩

def txt : Nat → List UInt8
  | 1 => [98, 97, 100, 32, 114, 117, 108, 101]
  | 2 => [98, 97, 100, 32, 119, 111, 114, 100]
  | 3 => [98, 97, 100, 32, 97, 114, 103, 117, 109, 101, 110, 116]
  | 4 => [116, 111, 111, 32, 98, 105, 103]
  | 5 => [110, 111, 32, 98, 117, 100, 103, 101, 116]
  | 6 => [98, 97, 100, 32, 116, 101, 120, 116]
  | 7 => [98, 97, 100, 32, 112, 97, 116, 99, 104]
  | 8 => [98, 97, 100, 32, 99, 101, 114, 116, 105, 102, 105, 99, 97, 116, 101]
  | 9 => [110, 111, 32, 105, 110, 118, 101, 114, 115, 101]
  | 10 => [98, 97, 100, 32, 108, 105, 110, 101]
  | 11 => [98, 97, 100, 32, 115, 116, 97, 116, 101]
  | 99 => [117, 110, 107, 110, 111, 119, 110]
  | _ => []
theorem txt_apart : ∀ m n : Fin 12, 1 ≤ m.val → 1 ≤ n.val → txt m.val = txt n.val → m = n := by decide

theorem glob_of_laid {W : World} (h : laidMet Tryz.prog laid12 W) : ∃ r, Glob r W := by
  obtain ⟨⟨a1, c1, s1, e1, t1⟩, h⟩ := sentinel (text := txt 1) h (g := 0) (by kernel_rfl) (by kernel_rfl)
  obtain ⟨⟨a2, c2, s2, e2, t2⟩, h⟩ := sentinel (text := txt 2) h (g := 1) (by kernel_rfl) (by kernel_rfl)
  obtain ⟨⟨a3, c3, s3, e3, t3⟩, h⟩ := sentinel (text := txt 3) h (g := 2) (by kernel_rfl) (by kernel_rfl)
  obtain ⟨⟨a4, c4, s4, e4, t4⟩, h⟩ := sentinel (text := txt 4) h (g := 3) (by kernel_rfl) (by kernel_rfl)
  obtain ⟨⟨a5, c5, s5, e5, t5⟩, h⟩ := sentinel (text := txt 5) h (g := 4) (by kernel_rfl) (by kernel_rfl)
  obtain ⟨⟨a6, c6, s6, e6, t6⟩, h⟩ := sentinel (text := txt 6) h (g := 5) (by kernel_rfl) (by kernel_rfl)
  obtain ⟨⟨a7, c7, s7, e7, t7⟩, h⟩ := sentinel (text := txt 7) h (g := 6) (by kernel_rfl) (by kernel_rfl)
  obtain ⟨⟨a8, c8, s8, e8, t8⟩, h⟩ := sentinel (text := txt 8) h (g := 7) (by kernel_rfl) (by kernel_rfl)
  obtain ⟨⟨a9, c9, s9, e9, t9⟩, h⟩ := sentinel (text := txt 9) h (g := 8) (by kernel_rfl) (by kernel_rfl)
  obtain ⟨⟨a10, c10, s10, e10, t10⟩, h⟩ := sentinel (text := txt 10) h (g := 9) (by kernel_rfl) (by kernel_rfl)
  obtain ⟨⟨a11, c11, s11, e11, t11⟩, h⟩ := sentinel (text := txt 11) h (g := 10) (by kernel_rfl) (by kernel_rfl)
  obtain ⟨⟨a99, c99, s99, e99, t99⟩, h⟩ := sentinel (text := txt 99) h (g := 11) (by kernel_rfl) (by kernel_rfl)
  clear h
  have key : ∀ n : Nat, (1 ≤ n ∧ n ≤ 11) ∨ n = 99 → ∃ s, W.cell? ((fun n : Nat => match n with | 1 => a1 | 2 => a2 | 3 => a3 | 4 => a4 | 5 => a5 | 6 => a6 | 7 => a7 | 8 => a8 | 9 => a9 | 10 => a10 | 11 => a11 | _ => a99) n) = some (.string s) ∧ s.data.toList = txt n := by
    intro n hn
    have : n = 1 ∨ n = 2 ∨ n = 3 ∨ n = 4 ∨ n = 5 ∨ n = 6 ∨ n = 7 ∨ n = 8 ∨ n = 9 ∨ n = 10 ∨ n = 11 ∨ n = 99 := by omega
    rcases this with rfl | rfl | rfl | rfl | rfl | rfl | rfl | rfl | rfl | rfl | rfl | rfl
    · exact ⟨s1, e1, t1⟩
    · exact ⟨s2, e2, t2⟩
    · exact ⟨s3, e3, t3⟩
    · exact ⟨s4, e4, t4⟩
    · exact ⟨s5, e5, t5⟩
    · exact ⟨s6, e6, t6⟩
    · exact ⟨s7, e7, t7⟩
    · exact ⟨s8, e8, t8⟩
    · exact ⟨s9, e9, t9⟩
    · exact ⟨s10, e10, t10⟩
    · exact ⟨s11, e11, t11⟩
    · exact ⟨s99, e99, t99⟩
  refine ⟨(fun n : Nat => match n with | 1 => a1 | 2 => a2 | 3 => a3 | 4 => a4 | 5 => a5 | 6 => a6 | 7 => a7 | 8 => a8 | 9 => a9 | 10 => a10 | 11 => a11 | _ => a99), c1, c2, c3, c4, c5, c6, c7, c8, c9, c10, c11, c99, (fun n hn => ?_), fun m n hm1 hm2 hn1 hn2 he => ?_⟩
  · obtain ⟨s, hs, _⟩ := key n hn
    exact ⟨s, hs⟩
  · obtain ⟨s, hs, ts⟩ := key m.toNat (by omega)
    obtain ⟨s', hs', ts'⟩ := key n.toNat (by omega)
    have hss : s = s' := by
      have := hs.symm.trans ((congrArg W.cell? he).trans hs')
      simpa using this
    subst hss
    have := txt_apart ⟨m.toNat, by omega⟩ ⟨n.toNat, by omega⟩ (by simp; omega) (by simp; omega) (ts.symm.trans ts')
    have := congrArg Fin.val this
    simp at this
    omega
end Go.Proofs.YtilpckngghffoaaGreatDoor

namespace Go.Proofs.YtilpckngghffoaaGreatDoor
open Go.RowKit
set_option maxRecDepth 100000

def laid13 : List (String × DataW Unit) := ("errors.errorType", Rows.laid_errors_errorType) :: laid12
theorem rtypeNo : (Tryz.prog.cutTypes.find? (·.1 == "internal/reflectlite.rtype")).map (·.2) = some 169 := by kernel_rfl
theorem errorTypeNo : Tryz.prog.globalNamed "errors.errorType" = some 12 := by kernel_rfl
theorem typesNo : Tryz.prog.types.size = 371 - 100 := by kernel_rfl
theorem oneError : ((List.range (371 - 100)).filter fun t => Tryz.prog.rowNamed t [101, 114, 114, 111, 114]) = [28] := by kernel_rfl
theorem handleErr : typeHandle Tryz.prog 28 = .pointer (some ⟨13, 28, none⟩) := by kernel_rfl

theorem glob_of_laidH {W : World} (h : laidMetH Tryz.prog laid13 W) : ∃ r, Glob r W ∧ GlobE W := by
  have h' : laidMet Tryz.prog laid12 W ∧ handlesMet Tryz.prog [("errors.errorType", Rows.laid_errors_errorType)] W := h
  obtain ⟨r, hg⟩ := glob_of_laid h'.1
  refine ⟨r, hg, ?_⟩
  obtain ⟨name, u, ty, e1, e2, e3, e4, e5⟩ := h'.2 _ (List.mem_cons_self ..)
  have en : name = [101, 114, 114, 111, 114] := (Option.some.inj e1).symm
  subst en
  obtain rfl := Option.some.inj (rtypeNo.symm.trans e2)
  have hm : ty ∈ (List.range (371 - 100)).filter fun t => Tryz.prog.rowNamed t [101, 114, 114, 111, 114] := List.mem_filter.2 ⟨List.mem_range.2 (by rw [← typesNo]; exact e3), e4⟩
  rw [oneError] at hm
  obtain rfl := List.mem_singleton.1 hm
  rw [handleErr] at e5
  simpa [GlobE] using World.var?_cell errorTypeNo e5 0
end Go.Proofs.YtilpckngghffoaaGreatDoor

namespace Go.Proofs.YtilpckngghffoaaGreatDoor
open Go.ChangeShapes Go.WideShapes Go.ChangeAt Go.RowKit Go.Joins
namespace PairsWordsP

set_option maxRecDepth 100000 in
theorem door_met (os : Os) (args : Array Value) : laidMetH Tryz.prog Rows.pairsWordsRow.laid ((World.doorLaid Tryz.prog 400 os).forCall (fun _ _ => 0) ⟨#[], args, []⟩).memory :=
  laidMetH_of_parts3 (fuel := 8) (laidMet_of_run' 8 (by kernel_rfl) (by kernel_rfl)) (by kernel_rfl) (by kernel_rfl)

set_option maxRecDepth 100000 in
theorem lifted (os : Os) (started : os.Started) (H : Type) (enc : TypeId × Value → H) :
    ReturnsInHanded {} Tryz.checked os 5 .any (fun w args => (Rows.pairsWordsSpec.pre enc Tryz.prog Tryz.f5 [] false w args ∧ laidMetH Tryz.prog Rows.pairsWordsRow.laid w) ∧ sizedMet enc Tryz.prog Tryz.f5 (OpenSpec.ofChange Rows.pairsWordsSpec) false w args)
      (Rows.pairsWordsSpec.post enc Tryz.prog Tryz.f5 false true false false) := by
  refine returnsInHanded_of_change_and (C := Tryz.checked) (X := fun w _ => laidMetH Tryz.prog Rows.pairsWordsRow.laid w) (fun _ _ _ hh h => h.of_heap hh) own started (by kernel_rfl) Tryz.func5
    (ChangeSpec.witness_shaped (enc := enc) (C := Tryz.checked) (os := os) (X := fun w _ => laidMetH Tryz.prog Rows.pairsWordsRow.laid w) false (World.doorLaid Tryz.prog 400 os) #[.agg #[.int .i64 0, .int .i64 0, .slice none 0 0], .slice none 0 0, .slice none 0 0, .slice none 0 0] 8 rfl (World.shaped_of_RefB (by kernel_rfl) (by kernel_rfl)) (by kernel_rfl) (by kernel_rfl) (by kernel_rfl) (door_met os _)) ?_
  intro W base args ds gs before hval0 hW _ hsz hL _
  have hval : ∀ (j : Nat) t v, Tryz.f5.params[j]? = some t → args[j]? = some v → Value.okWide Tryz.prog W .any base t v := hval0
  have hW' := hW
  obtain ⟨p, q, hA0, hV, rfl, hfz, hnd⟩ := hW
  have hA : DataW.TrodAll enc Tryz.prog W 0 (fun _ => true) true Tryz.f5.params.toList args.toList ds p := hA0
  rw [Tryz.params5] at hA hval hsz
  obtain ⟨v0, vs0, d0, ds0, p0, q0, hargs, rfl, rfl, g0, t0⟩ := trodAll_cons hA
  obtain ⟨v1, vs1, d1, ds1, p1, q1, rfl, rfl, rfl, g1, t1⟩ := trodAll_cons t0
  obtain ⟨v2, vs2, d2, ds2, p2, q2, rfl, rfl, rfl, g2, t2⟩ := trodAll_cons t1
  obtain ⟨v3, vs3, d3, ds3, p3, q3, rfl, rfl, rfl, g3, t3⟩ := trodAll_cons t2
  obtain ⟨rfl, rfl, rfl⟩ := trodAll_nil t3
  obtain rfl : args = #[v0, v1, v2, v3] := by cases args; simp_all
  obtain ⟨rfl, rfl⟩ := trodVars_none hV
  have kk0 := g0
  have lt0 : ∀ x ∈ p0, x.block < W.heap.size := by obtain ⟨m, hm⟩ := kk0; exact DataW.trod_lt m _ _ _ hm
  obtain ⟨kr0, rr0, u0, x0, rfl, h0, l0, b0, bk0, br0⟩ := open_ruleV (hval 0 24 v0 rfl rfl) g0 (fun n hn => by
    have := List.all_eq_true.1 hsz n (DataW.weights_mem_each (j := 0) (t := 24) rfl rfl n hn)
    simpa using this)
  have kk1 := g1
  have lt1 : ∀ x ∈ p1, x.block < W.heap.size := by obtain ⟨m, hm⟩ := kk1; exact DataW.trod_lt m _ _ _ hm
  obtain ⟨x1, h1, l1, b1⟩ := open_intsT (hval 1 22 v1 rfl rfl) g1 (fun n hn => by
    have := List.all_eq_true.1 hsz n (DataW.weights_mem_each (j := 1) (t := 22) rfl rfl n hn)
    simpa using this)
  have kk2 := g2
  have lt2 : ∀ x ∈ p2, x.block < W.heap.size := by obtain ⟨m, hm⟩ := kk2; exact DataW.trod_lt m _ _ _ hm
  obtain ⟨x2, h2, l2, b2⟩ := open_intsT (hval 2 22 v2 rfl rfl) g2 (fun n hn => by
    have := List.all_eq_true.1 hsz n (DataW.weights_mem_each (j := 2) (t := 22) rfl rfl n hn)
    simpa using this)
  have kk3 := g3
  have lt3 : ∀ x ∈ p3, x.block < W.heap.size := by obtain ⟨m, hm⟩ := kk3; exact DataW.trod_lt m _ _ _ hm
  obtain ⟨x3, h3, l3, b3⟩ := open_intsT (hval 3 22 v3 rfl rfl) g3 (fun n hn => by
    have := List.all_eq_true.1 hsz n (DataW.weights_mem_each (j := 3) (t := 22) rfl rfl n hn)
    simpa using this)
  obtain ⟨r, hg, hG⟩ := glob_of_laidH (W := W) (by
    exact hL)
  clear hA0 hval0
  refine (pairsWords_any r kr0 rr0 u0 x0 v1 x1 v2 x2 v3 x3 W hg hG h0 h1 h2 h3 l0 l1 l2 l3).mono fun e W' ⟨x, he, bel, hxx⟩ => ?_
  subst he; subst hxx
  exact ⟨_, rfl, _, _, _, [], _, [], hW', trodAll_mk1 (shut_bool Tryz.underlying4 _), (trodAll_cons_mk (Below.trod laidOut (by kernel_rfl) (of_decide_eq_true (by kernel_rfl)) kk0 bel lt0) (trodAll_cons_mk (Below.trod laidOut (by kernel_rfl) (of_decide_eq_true (by kernel_rfl)) kk1 bel lt1) (trodAll_cons_mk (Below.trod laidOut (by kernel_rfl) (of_decide_eq_true (by kernel_rfl)) kk2 bel lt2) (trodAll_cons_mk (Below.trod laidOut (by kernel_rfl) (of_decide_eq_true (by kernel_rfl)) kk3 bel lt3) trodAll_mk0)))), rfl, bel.frame _, fun h => by cases h⟩

theorem over : Rows.PairsWordsSaid :=
  OpenClaim.holds_of_wide 5 Tryz.f5 rfl rfl rfl rfl rfl rfl rfl ⟨rfl, rfl, rfl, rfl, rfl⟩ rfl rfl rfl rfl rfl (by kernel_rfl) Tryz.func5 (by kernel_rfl)
    (of_decide_eq_true (by kernel_rfl)) (by unfold Func.isWrapper; first | (rw [if_pos (by decide +kernel)]; kernel_rfl) | (rw [if_neg (by decide +kernel)]; exact ⟨rfl, rfl⟩))
    (fun os started H enc _ => lifted os started H enc)

/-- The tied card. -/
theorem card_holds : Rows.PairsWordsCardSaid :=
  Claim7.holds_tied_plain_at .later [] [.handle, .sentinel, .sentinel, .sentinel, .sentinel, .sentinel, .sentinel, .sentinel, .sentinel, .sentinel, .sentinel, .sentinel, .sentinel] true _ _
    over (fun _ h => by cases h) (by kernel_rfl) (fun _ h => by cases h) pairsWords_row_tie rfl ⟨rfl, rfl⟩ (by kernel_rfl) rfl
    (fun f fn hf hfn => by
      obtain rfl : f = 5 := Option.some.inj ((show Tryz.prog.funcNamed Rows.pairsWordsRow.func = some 5 by kernel_rfl).symm.trans hf) |>.symm
      obtain rfl : fn = Tryz.f5 := (Option.some.inj (Tryz.func5.symm.trans hfn)).symm
      exact ⟨by kernel_rfl, fun j t ht => by
        rw [Tryz.params5] at ht
        have hm : t ∈ [24, 22, 22, 22] := by simpa using Array.mem_of_getElem? ht
        have hall : ([24, 22, 22, 22].all fun u => !Tryz.prog.wantsStandIn u) = true := by kernel_rfl
        exact (show Tryz.prog.wantsStandIn t = false by simpa using List.all_eq_true.1 hall t hm)⟩)
    (by kernel_rfl)
end PairsWordsP
#print axioms PairsWordsP.card_holds
end Go.Proofs.YtilpckngghffoaaGreatDoor
