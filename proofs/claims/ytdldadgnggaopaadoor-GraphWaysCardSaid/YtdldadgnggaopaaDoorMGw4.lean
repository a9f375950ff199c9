/-
  Walk: graph's search begins a vertex.
  Walk: graph's search ends a vertex.
  Walk: graph's search goes through all that a vertex reaches.
  Plain mathematics: numbers given one after another, as new ones come.
  A map from ints to ints that the call made: what is looked up, stored; how many keys it has (the kit's laws on maps, at these types).
  Walk: edenraw.Under at an error.
  Walks: errors.Is and errors.As at a chain of Faults; the model's entries for internal/reflectlite at this program's types (after the kit's worked example Toyas).
  The model's entries for internal/reflectlite at a *api.Fault and at the address of a variable of that type (after the kit's worked example Toyas).
  Walk: errors.As at a Fault (after the kit's worked example Toyas).
  Walk: edenraw.Is at an error that is what it must be.
-/
import Derived.Test.YtdldadgnggaopaaDoorMGw3
import Derived.Deep.DeepCutAuto
import Derived.Deep.LoopGhost
import Derived.Maps.OwnSet
import Derived.LaidEql
import Derived.Stop.Asserts
import Derived.RowKitTokens
import Derived.Deep.RegionHeld3
namespace Go.Proofs.YtdldadgnggaopaaDoor
open Go.RowKit
set_option maxRecDepth 100000

/-- What a call of the search's leaves. -/
def SPost (B : Nat) (w : World) (d : Nat) (nv lv fv pv : Value) (n : Nat) (S : TS) (e : Ending) (w' : World) : Prop :=
  e = .returned (.tuple #[]) ∧ Below B w w' ∧ ∃ f' ov' cv', Rows B w' f' ∧ SN f' d nv lv fv pv ov' cv' n S

set_option maxHeartbeats 1000000 in
theorem enter_any (B : Nat) (w : World) (f : Names) (d : Nat) (nv lv fv pv ov cv : Value) (n : Nat) (S : TS) (v : Nat) (hr : Rows B w f) (h : SN f d nv lv fv pv ov cv n S) (hB : B ≤ w.heap.size)
    (hv : v < n) (hnc : v ∉ S.calls) (ho : S.opn.length < 10000) (hcl : S.calls.length < 10000) (ht : S.time < 100000) :
    Calls Tryd.prog 113 #[.pointer (some ⟨d, 0, none⟩), .int .i64 v] w (SPost B w d nv lv fv pv n (enterS S v)) := by
  have e1 : ((S.time + 1 : Nat) : Int) = (S.time : Int) + 1 := by omega
  have z6 := h.cell hr 6 (by decide)
  have f6 := h.frz hr 6
  obtain ⟨f1, hr1, h1⟩ := h.setTime hr (S.time + 1)
  have b1 : Below B w (w.setCell ⟨d, 6, none⟩ (.int .i64 ((S.time + 1 : Nat) : Int))) := (Below.refl B w).setCell (h.base hr) _
  rw [e1] at hr1 b1
  simp only [List.getElem?_cons_succ, List.getElem?_cons_zero] at z6
  replace hr1 := Lib.hid hr1
  replace hr := Lib.hid hr
  replace e1 := Lib.hid e1
  go_enter Tryd.func113, Tryd.ntmps113
  go_wp2
  clear z6 f6
  refine wp_region_plan (fun w' => w'.cell? ⟨d, 1, none⟩ = some lv ∧ w'.cell? ⟨d, 2, none⟩ = some fv ∧ w'.cell? ⟨d, 6, none⟩ = some (.int .i64 ((S.time : Int) + 1))) 21 [(0, true), (1, true), (2, true), (3, true), (4, true), (5, true), (6, true), (7, true), (8, true), (9, true), (10, true), (11, true), (12, true), (13, true), (14, true), (15, true), (16, true), (17, true), (18, true), (19, false), (20, true)] (by kernel_rfl) (by kernel_rfl) ?_
  obtain ⟨W, hW⟩ : ∃ W : World, W = (w.setCell ⟨d, 6, none⟩ (.int .i64 ((S.time : Int) + 1))).drew := ⟨_, rfl⟩
  rw [← hW]
  have hrW : Rows B W f1 := by rw [hW]; exact hr1.out.drew
  have bW : Below B w W := by rw [hW]; exact b1.drew
  clear hW
  have hS : W.cell? ⟨d, 1, none⟩ = some lv ∧ W.cell? ⟨d, 2, none⟩ = some fv ∧ W.cell? ⟨d, 6, none⟩ = some (.int .i64 ((S.time : Int) + 1)) := ⟨h1.cell hrW 1 (by decide), h1.cell hrW 2 (by decide), by rw [← e1.out]; exact h1.cell hrW 6 (by decide)⟩
  have oL := hrW.ownI h1.low
  have oF := hrW.ownI h1.fnd
  have iL := fun w' => oL.at.idx v (by rw [tab_len]; exact hv) w'
  have iF := fun w' => oF.at.idx v (by rw [tab_len]; exact hv) w'
  have cL := oL.at.cellD v (by rw [tab_len]; exact hv)
  have fL := oL.frz v (by rw [tab_len]; exact hv)
  have kL := (oL.toV.blkB v (by rw [List.length_map, tab_len]; exact hv)).2
  obtain ⟨f2, hr2, h2⟩ := h1.setLow hrW v hv (S.time + 1)
  rw [e1.out] at hr2
  have oF2 := hr2.ownI h2.fnd
  have cF := oF2.at.cellD v (by rw [tab_len]; exact hv)
  have fF := oF2.frz v (by rw [tab_len]; exact hv)
  have kF := (oF2.toV.blkB v (by rw [List.length_map, tab_len]; exact hv)).2
  have hS2 : (W.setCell (valAt lv v) (.int .i64 ((S.time : Int) + 1))).cell? ⟨d, 1, none⟩ = some lv ∧ (W.setCell (valAt lv v) (.int .i64 ((S.time : Int) + 1))).cell? ⟨d, 2, none⟩ = some fv ∧ (W.setCell (valAt lv v) (.int .i64 ((S.time : Int) + 1))).cell? ⟨d, 6, none⟩ = some (.int .i64 ((S.time : Int) + 1)) := ⟨h2.cell hr2 1 (by decide), h2.cell hr2 2 (by decide), by rw [← e1.out]; exact h2.cell hr2 6 (by decide)⟩
  obtain ⟨f3, hr3, h3⟩ := h2.setFound hr2 v hv (S.time + 1)
  rw [e1.out] at hr3
  have b3 : Below B w ((W.setCell (valAt lv v) (.int .i64 ((S.time : Int) + 1))).setCell (valAt fv v) (.int .i64 ((S.time : Int) + 1))) := (bW.setCell kL _).setCell kF _
  replace hr3 := Lib.hid hr3
  replace hr2 := Lib.hid hr2
  replace hrW := Lib.hid hrW
  clear oL oF oF2
  generalize valAt lv v = la at *
  generalize valAt fv v = fa at *
  refine headY (v := ?_) (some 11) rfl rfl (Or.inl ⟨by rfl, ?_⟩) hS ?_
  rotate_left
  · rintro W' ⟨s0, s1, s2⟩; go_simp; try with_reducible rfl
  simp only [Act.put, List.setIfInBounds_toArray, List.set_cons_zero, List.set_cons_succ]
  refine headY (v := ?_) (some 12) rfl rfl (Or.inl ⟨by rfl, ?_⟩) hS ?_
  rotate_left
  · rintro W' ⟨s0, s1, s2⟩; go_simp; try with_reducible rfl
  simp only [Act.put, List.setIfInBounds_toArray, List.set_cons_zero, List.set_cons_succ]
  refine headY (v := ?_) (some 13) rfl rfl (Or.inl ⟨by rfl, ?_⟩) hS ?_
  rotate_left
  · rintro W' ⟨s0, s1, s2⟩; go_simp; try with_reducible rfl
  simp only [Act.put, List.setIfInBounds_toArray, List.set_cons_zero, List.set_cons_succ]
  refine headY (v := ?_) (some 14) rfl rfl (Or.inl ⟨by rfl, ?_⟩) hS ?_
  rotate_left
  · rintro W' ⟨s0, s1, s2⟩; go_simp; try with_reducible rfl
  simp only [Act.put, List.setIfInBounds_toArray, List.set_cons_zero, List.set_cons_succ]
  refine headY (v := ?_) (some 15) rfl rfl (Or.inl ⟨by rfl, ?_⟩) hS ?_
  rotate_left
  · rintro W' ⟨s0, s1, s2⟩; go_simp; try with_reducible rfl
  simp only [Act.put, List.setIfInBounds_toArray, List.set_cons_zero, List.set_cons_succ]
  refine headY (v := ?_) (some 16) rfl rfl (Or.inl ⟨by rfl, ?_⟩) hS ?_
  rotate_left
  · rintro W' ⟨s0, s1, s2⟩; go_simp; try with_reducible rfl
  simp only [Act.put, List.setIfInBounds_toArray, List.set_cons_zero, List.set_cons_succ]
  refine headY (v := ?_) (some 17) rfl rfl (Or.inl ⟨by rfl, ?_⟩) hS ?_
  rotate_left
  · rintro W' ⟨s0, s1, s2⟩; go_simp; try with_reducible rfl
  simp only [Act.put, List.setIfInBounds_toArray, List.set_cons_zero, List.set_cons_succ]
  refine headY (v := ?_) (some 18) rfl rfl (Or.inl ⟨by rfl, ?_⟩) hS ?_
  rotate_left
  · rintro W' ⟨s0, s1, s2⟩; go_simp; try with_reducible rfl
  simp only [Act.put, List.setIfInBounds_toArray, List.set_cons_zero, List.set_cons_succ]
  refine headY (v := ?_) (some 19) rfl rfl (Or.inl ⟨by rfl, ?_⟩) hS ?_
  rotate_left
  · rintro W' ⟨s0, s1, s2⟩; go_simp; try with_reducible rfl
  simp only [Act.put, List.setIfInBounds_toArray, List.set_cons_zero, List.set_cons_succ]
  refine headY (v := ?_) (some 20) rfl rfl (Or.inl ⟨by rfl, ?_⟩) hS ?_
  rotate_left
  · rintro W' ⟨s0, s1, s2⟩; go_simp; try with_reducible rfl
  simp only [Act.put, List.setIfInBounds_toArray, List.set_cons_zero, List.set_cons_succ]
  refine headY (v := ?_) (some 21) rfl rfl (Or.inl ⟨by rfl, ?_⟩) hS ?_
  rotate_left
  · rintro W' ⟨s0, s1, s2⟩; go_simp; try with_reducible rfl
  simp only [Act.put, List.setIfInBounds_toArray, List.set_cons_zero, List.set_cons_succ]
  refine headY (v := ?_) (some 22) rfl rfl (Or.inl ⟨by rfl, ?_⟩) hS ?_
  rotate_left
  · rintro W' ⟨s0, s1, s2⟩; go_simp; try with_reducible rfl
  simp only [Act.put, List.setIfInBounds_toArray, List.set_cons_zero, List.set_cons_succ]
  refine headY (v := ?_) (some 23) rfl rfl (Or.inl ⟨by rfl, ?_⟩) hS ?_
  rotate_left
  · rintro W' ⟨s0, s1, s2⟩; go_simp; try with_reducible rfl
  simp only [Act.put, List.setIfInBounds_toArray, List.set_cons_zero, List.set_cons_succ]
  refine headY (v := ?_) (some 24) rfl rfl (Or.inl ⟨by rfl, ?_⟩) hS ?_
  rotate_left
  · rintro W' ⟨s0, s1, s2⟩; go_simp; try with_reducible rfl
  simp only [Act.put, List.setIfInBounds_toArray, List.set_cons_zero, List.set_cons_succ]
  refine headY (v := ?_) (some 25) rfl rfl (Or.inl ⟨by rfl, ?_⟩) hS ?_
  rotate_left
  · rintro W' ⟨s0, s1, s2⟩; go_simp; try with_reducible rfl
  simp only [Act.put, List.setIfInBounds_toArray, List.set_cons_zero, List.set_cons_succ]
  refine headY (v := ?_) (some 26) rfl rfl (Or.inl ⟨by rfl, ?_⟩) hS ?_
  rotate_left
  · rintro W' ⟨s0, s1, s2⟩; go_simp; try with_reducible rfl
  simp only [Act.put, List.setIfInBounds_toArray, List.set_cons_zero, List.set_cons_succ]
  refine headY (v := ?_) (some 27) rfl rfl (Or.inl ⟨by rfl, ?_⟩) hS ?_
  rotate_left
  · rintro W' ⟨s0, s1, s2⟩; go_simp; try with_reducible rfl
  simp only [Act.put, List.setIfInBounds_toArray, List.set_cons_zero, List.set_cons_succ]
  refine headY (v := ?_) (some 28) rfl rfl (Or.inl ⟨by rfl, ?_⟩) hS ?_
  rotate_left
  · rintro W' ⟨s0, s1, s2⟩; go_simp; try with_reducible rfl
  simp only [Act.put, List.setIfInBounds_toArray, List.set_cons_zero, List.set_cons_succ]
  refine headY (v := ?_) (some 29) rfl rfl (Or.inl ⟨by rfl, ?_⟩) hS ?_
  rotate_left
  · rintro W' ⟨s0, s1, s2⟩; go_simp; try with_reducible rfl
  simp only [Act.put, List.setIfInBounds_toArray, List.set_cons_zero, List.set_cons_succ]
  refine headC rfl (fun KK hK => ?_)
  -- CALL 19 slot none
  go_simp
  refine hK _ _ hS2 ?_
  clear hK KK
  refine headY (v := ?_) (some 30) rfl rfl (Or.inl ⟨by rfl, ?_⟩) hS2 ?_
  rotate_left
  · rintro W' ⟨s0, s1, s2⟩; go_simp; try with_reducible rfl
  simp only [Act.put, List.setIfInBounds_toArray, List.set_cons_zero, List.set_cons_succ]
  refine head0 ?_
  simp only [List.drop_succ_cons, List.drop_zero]
  clear hS hS2 cL fL
  go_wp2
  refine NoPanic.normal ?_
  obtain ⟨W3, hW3⟩ : ∃ W3 : World, W3 = (W.setCell la (.int .i64 ((S.time : Int) + 1))).setCell fa (.int .i64 ((S.time : Int) + 1)) := ⟨_, rfl⟩
  rw [← hW3]
  rw [← hW3] at hr3 b3
  clear hW3 iL iF cF fF
  have z3 := h3.cell hr3.out 3 (by decide)
  simp only [List.getElem?_cons_succ, List.getElem?_cons_zero] at z3
  have oO := hr3.out.ownI h3.opn
  have hB3 : B ≤ W3.heap.size := Nat.le_trans hB b3.size
  go_wp2_with (at_builtin; refine wpl_app1 rfl _ _ rfl B ov (upI S.opn) v oO rfl rfl (by rw [upI_len]; omega) hB3 ?_)
  intro ov' w4 ho4 b4 hal
  obtain ⟨y3, g3, b5, f5, hr5, h5⟩ := h3.pushOpen hr3.out hB3 v ho4 hal
  obtain ⟨oa, on, oc, rfl⟩ := ho4.at.shape
  have z5 := y3 5 (by decide)
  simp only [List.getElem?_cons_succ, List.getElem?_cons_zero] at z5
  have z33 := y3 3 (by decide)
  simp only [List.getElem?_cons_succ, List.getElem?_cons_zero] at z33
  have g33 := g3 3
  replace y3 := Lib.hid y3
  replace g3 := Lib.hid g3
  replace hr5 := Lib.hid hr5
  clear ho4 hal z3 oO
  have oC := hr5.out.1 _ _ h5.calls
  go_wp2_with (at_builtin; go_loud (refine wpl_appF rfl _ _ rfl B cv S.calls.length _ v 0 _ oC rfl rfl (by simp) (by omega) (Nat.le_trans hB3 b5.size) ?_))
  intro g c w6 ho6 hal6
  obtain ⟨y5, g5, b7, f7, hr7, h7⟩ := h5.pushCalls hr5.out (Nat.le_trans hB3 b5.size) v hnc ho6 (hal6.imp id (fun ⟨a, b⟩ => ⟨by simpa using a, b⟩))
  have z5 := y5 5 (by decide)
  simp only [List.getElem?_cons_succ, List.getElem?_cons_zero] at z5
  have g55 := g5 5
  replace y5 := Lib.hid y5
  replace g5 := Lib.hid g5
  replace hr7 := Lib.hid hr7
  clear ho6 hal6 oC
  go_wp2
  go_end0
  exact ⟨rfl, (b3.trans b5).trans b7, f7, _, _, hr7.out, h7⟩
end Go.Proofs.YtdldadgnggaopaaDoor

namespace Go.Proofs.YtdldadgnggaopaaDoor
open Go.RowKit
set_option maxRecDepth 100000

theorem upI_top (t : Nat) (o : List Nat) : (upI (t :: o)).getD o.length 0 = (t : Int) := by
  rw [upI_cons, List.getD_eq_getElem?_getD, List.getElem?_append_right (by rw [upI_len]; exact Nat.le_refl _), upI_len, Nat.sub_self]; rfl

set_option maxHeartbeats 2000000 in
theorem leave_any (B : Nat) (w : World) (f : Names) (d : Nat) (nv lv fv pv ov cv : Value) (n : Nat) (adj : Nat → List Nat) (S : TS) (v : Nat) (r : List Nat) (hr : Rows B w f) (h : SN f d nv lv fv pv ov cv n S)
    (hI : TInv n adj S) (hc : S.calls = v :: r) (hn : n ≤ 8192) :
    Calls Tryd.prog 114 #[.pointer (some ⟨d, 0, none⟩), .int .i64 v] w (SPost B w d nv lv fv pv n (leaveS S v r)) := by
  have hvc : v ∈ S.calls := by rw [hc]; exact List.mem_cons_self
  have hvn := hI.seenLt v (hI.callsSeen hvc).1
  have hvo := hI.callsOpen v hvc
  have hol : ∀ x ∈ S.opn, x < n := fun x hx => hI.seenLt x ((hI.opnIff x).1 hx).1
  have hlq := hI.low_eq hc
  obtain ⟨g, c, rfl, hcap⟩ := h.callsShape hr (by rw [hc]; simp)
  rw [hc, List.length_cons] at h hcap
  have hrl := hI.calls_len
  rw [hc, List.length_cons] at hrl
  have hwr : IntKind.i64.wrap (r.length : Int) = r.length := wrapK (by omega) (by omega)
  obtain ⟨W, hW⟩ : ∃ W : World, W = w.drew := ⟨_, rfl⟩
  have hr0 : Rows B W f := by rw [hW]; exact hr.drew
  obtain ⟨f1, hr1, h1⟩ := h.popCalls hc hr0
  have z5 := h.cell hr0 5 (by decide)
  have g5 := h.frz hr0 5
  simp only [List.getElem?_cons_succ, List.getElem?_cons_zero] at z5
  have b1 : Below B w (W.setCell ⟨d, 5, none⟩ (.slice (some ⟨g, 0, none⟩) r.length c)) := by rw [hW]; exact (Below.refl B w).drew.setCell (h.base hr) _
  have hsl : (0 ≤ (r.length : Int) ∧ (r.length : Int) ≤ (c : Int)) := ⟨by omega, by omega⟩
  replace hr1 := Lib.hid hr1
  replace hr := Lib.hid hr
  replace hr0 := Lib.hid hr0
  replace hol := Lib.hid hol
  replace hI := Lib.hid hI
  replace hvo := Lib.hid hvo
  replace hvc := Lib.hid hvc
  replace hc := Lib.hid hc
  replace hlq := Lib.hid hlq
  go_enter Tryd.func114, Tryd.ntmps114
  go_wp2
  refine wp_region_plan (fun w' => w'.cell? ⟨d, 5, none⟩ = some (.slice (some ⟨g, 0, none⟩) (r.length + 1) c)) 14 [(0, true), (1, true), (2, true), (3, true), (4, true), (5, true), (6, true), (7, true), (8, true), (9, true), (10, true), (11, true), (12, true), (13, true)] (by kernel_rfl) (by kernel_rfl) ?_
  rw [← hW]
  clear hW
  have hS : W.cell? ⟨d, 5, none⟩ = some (.slice (some ⟨g, 0, none⟩) (r.length + 1) c) := z5
  refine headY (v := ?_) (some 7) rfl rfl (Or.inl ⟨by rfl, ?_⟩) hS ?_
  rotate_left
  · rintro W' s0; go_simp; try with_reducible rfl
  simp only [Act.put, List.setIfInBounds_toArray, List.set_cons_zero, List.set_cons_succ]
  refine headY (v := ?_) (some 8) rfl rfl (Or.inl ⟨by rfl, ?_⟩) hS ?_
  rotate_left
  · rintro W' s0; go_simp; try with_reducible rfl
  simp only [Act.put, List.setIfInBounds_toArray, List.set_cons_zero, List.set_cons_succ]
  refine headY (v := ?_) (some 9) rfl rfl (Or.inl ⟨by rfl, ?_⟩) hS ?_
  rotate_left
  · rintro W' s0; go_simp; try with_reducible rfl
  simp only [Act.put, List.setIfInBounds_toArray, List.set_cons_zero, List.set_cons_succ]
  refine headY (v := ?_) (some 10) rfl rfl (Or.inl ⟨by rfl, ?_⟩) hS ?_
  rotate_left
  · rintro W' s0; go_simp; try with_reducible rfl
  simp only [Act.put, List.setIfInBounds_toArray, List.set_cons_zero, List.set_cons_succ]
  refine headY (v := ?_) (some 11) rfl rfl (Or.inl ⟨by rfl, ?_⟩) hS ?_
  rotate_left
  · rintro W' s0; go_simp; try with_reducible rfl
  simp only [Act.put, List.setIfInBounds_toArray, List.set_cons_zero, List.set_cons_succ]
  refine headY (v := ?_) (some 12) rfl rfl (Or.inl ⟨by rfl, ?_⟩) hS ?_
  rotate_left
  · rintro W' s0; go_simp; try with_reducible rfl
  simp only [Act.put, List.setIfInBounds_toArray, List.set_cons_zero, List.set_cons_succ]
  refine headY (v := ?_) (some 13) rfl rfl (Or.inl ⟨by rfl, ?_⟩) hS ?_
  rotate_left
  · rintro W' s0; go_simp; try with_reducible rfl
  simp only [Act.put, List.setIfInBounds_toArray, List.set_cons_zero, List.set_cons_succ]
  refine headY (v := ?_) (some 14) rfl rfl (Or.inl ⟨by rfl, ?_⟩) hS ?_
  rotate_left
  · rintro W' s0; go_simp; try with_reducible rfl
  simp only [Act.put, List.setIfInBounds_toArray, List.set_cons_zero, List.set_cons_succ]
  refine headY (v := ?_) (some 15) rfl rfl (Or.inl ⟨by rfl, ?_⟩) hS ?_
  rotate_left
  · rintro W' s0; go_simp; try with_reducible rfl
  simp only [Act.put, List.setIfInBounds_toArray, List.set_cons_zero, List.set_cons_succ]
  refine headY (v := ?_) (some 16) rfl rfl (Or.inl ⟨by rfl, ?_⟩) hS ?_
  rotate_left
  · rintro W' s0; go_simp; try with_reducible rfl
  simp only [Act.put, List.setIfInBounds_toArray, List.set_cons_zero, List.set_cons_succ]
  refine headY (v := ?_) (some 17) rfl rfl (Or.inl ⟨by rfl, ?_⟩) hS ?_
  rotate_left
  · rintro W' s0; go_simp; try with_reducible rfl
  simp only [Act.put, List.setIfInBounds_toArray, List.set_cons_zero, List.set_cons_succ]
  refine headY (v := ?_) (some 18) rfl rfl (Or.inl ⟨by rfl, ?_⟩) hS ?_
  rotate_left
  · rintro W' s0; go_simp; try with_reducible rfl
  simp only [Act.put, List.setIfInBounds_toArray, List.set_cons_zero, List.set_cons_succ]
  refine headY (v := ?_) (some 19) rfl rfl (Or.inl ⟨by rfl, ?_⟩) hS ?_
  rotate_left
  · rintro W' s0; go_simp; try with_reducible rfl
  simp only [Act.put, List.setIfInBounds_toArray, List.set_cons_zero, List.set_cons_succ]
  refine headY (v := ?_) (some 20) rfl rfl (Or.inl ⟨by rfl, ?_⟩) hS ?_
  rotate_left
  · rintro W' s0; go_simp; try with_reducible rfl
  simp only [Act.put, List.setIfInBounds_toArray, List.set_cons_zero, List.set_cons_succ]
  refine head0 ?_
  simp only [List.drop_succ_cons, List.drop_zero]
  clear hS
  go_wp2
  refine NoPanic.normal ?_
  obtain ⟨W1, hW1⟩ : ∃ W1 : World, W1 = W.setCell ⟨d, 5, none⟩ (.slice (some ⟨g, 0, none⟩) r.length c) := ⟨_, rfl⟩
  rw [← hW1]
  rw [← hW1] at hr1 b1
  clear hW1 z5 g5
  have x5 := h1.cell hr1.out 5 (by decide)
  simp only [List.getElem?_cons_succ, List.getElem?_cons_zero] at x5
  go_upto_if 27 with fail
  go_cut [] from 4 (fun wx => Below B w wx ∧ ∃ f2, Rows B wx f2 ∧ SN f2 d nv lv fv pv ov (.slice (some ⟨g, 0, none⟩) r.length c) n { S with low := lowS S.low v r, calls := r })
  case first =>
    cases r with
    | nil =>
      go_wp2
      go_meet
      case rel => exact ⟨b1, f1, hr1.out, h1⟩
    | cons u r' =>
      have huc := hI.out.callsSeen (c := u) (by rw [hc.out]; simp)
      have hun := hI.out.seenLt u huc.1
      simp only [List.length_cons] at h1 hrl x5 hcap hwr b1 hr1
      obtain ⟨t0, t1, _⟩ := h1.callTop rfl hr1.out
      have hwr2 : IntKind.i64.wrap (r'.length : Int) = r'.length := wrapK (by omega) (by omega)
      have hp0 : 0 < (u :: r').length := by simp
      have hne : u ≠ v := fun e => by
        have := hI.out.callsSorted
        rw [hc.out, e] at this
        exact absurd ((List.pairwise_cons.1 this).1 v List.mem_cons_self) (Nat.lt_irrefl _)
      go_upto_region 4 with fail
      refine wp_region_plan (fun w' => w'.cell? ⟨d, 1, none⟩ = some lv ∧ w'.cell? (valAt lv u) = some (.int .i64 (S.low u)) ∧ w'.cell? (valAt lv v) = some (.int .i64 (S.low v))) 21 [(0, true), (1, true), (2, true), (3, true), (4, true), (5, true), (6, true), (7, true), (8, true), (9, true), (10, true), (11, true), (12, true), (13, true), (14, true), (15, true), (16, true), (17, true), (18, true), (19, false), (20, true)] (by kernel_rfl) (by kernel_rfl) ?_
      obtain ⟨W2, hW2⟩ : ∃ W2 : World, W2 = W1.drew := ⟨_, rfl⟩
      rw [← hW2]
      have hr2 : Rows B W2 f1 := by rw [hW2]; exact hr1.out.drew
      have b2 : Below B w W2 := by rw [hW2]; exact b1.drew
      clear hW2 t0 t1 x5
      have oL := hr2.ownI h1.low
      have cU := oL.at.cellD u (by rw [tab_len]; exact hun)
      have cV := oL.at.cellD v (by rw [tab_len]; exact hvn)
      rw [tab_get _ _ _ hun] at cU
      rw [tab_get _ _ _ hvn] at cV
      have hS : W2.cell? ⟨d, 1, none⟩ = some lv ∧ W2.cell? (valAt lv u) = some (.int .i64 (S.low u)) ∧ W2.cell? (valAt lv v) = some (.int .i64 (S.low v)) := ⟨h1.cell hr2 1 (by decide), cU, cV⟩
      have iU := fun w' => oL.at.idx u (by rw [tab_len]; exact hun) w'
      have iV := fun w' => oL.at.idx v (by rw [tab_len]; exact hvn) w'
      have fU := oL.frz u (by rw [tab_len]; exact hun)
      have kU := (oL.toV.blkB u (by rw [List.length_map, tab_len]; exact hun)).2
      obtain ⟨f3, hr3, h3⟩ := h1.setLow hr2 u hun (min (S.low u) (S.low v))
      have b3 : Below B w (W2.setCell (valAt lv u) (.int .i64 ((min (S.low u) (S.low v) : Nat) : Int))) := b2.setCell kU _
      replace hr3 := Lib.hid hr3
      replace hr2 := Lib.hid hr2
      clear oL
      generalize valAt lv u = ua at *
      generalize valAt lv v = va at *
      refine headY (v := ?_) (some 37) rfl rfl (Or.inl ⟨by rfl, ?_⟩) hS ?_
      rotate_left
      · rintro W' ⟨s0, s1, s2⟩; go_simp; try with_reducible rfl
      simp only [Act.put, List.setIfInBounds_toArray, List.set_cons_zero, List.set_cons_succ]
      refine headY (v := ?_) (some 38) rfl rfl (Or.inl ⟨by rfl, ?_⟩) hS ?_
      rotate_left
      · rintro W' ⟨s0, s1, s2⟩; go_simp; try with_reducible rfl
      simp only [Act.put, List.setIfInBounds_toArray, List.set_cons_zero, List.set_cons_succ]
      refine headY (v := ?_) (some 39) rfl rfl (Or.inl ⟨by rfl, ?_⟩) hS ?_
      rotate_left
      · rintro W' ⟨s0, s1, s2⟩; go_simp; try with_reducible rfl
      simp only [Act.put, List.setIfInBounds_toArray, List.set_cons_zero, List.set_cons_succ]
      refine headY (v := ?_) (some 40) rfl rfl (Or.inl ⟨by rfl, ?_⟩) hS ?_
      rotate_left
      · rintro W' ⟨s0, s1, s2⟩; go_simp; try with_reducible rfl
      simp only [Act.put, List.setIfInBounds_toArray, List.set_cons_zero, List.set_cons_succ]
      refine headY (v := ?_) (some 41) rfl rfl (Or.inl ⟨by rfl, ?_⟩) hS ?_
      rotate_left
      · rintro W' ⟨s0, s1, s2⟩; go_simp; try with_reducible rfl
      simp only [Act.put, List.setIfInBounds_toArray, List.set_cons_zero, List.set_cons_succ]
      refine headY (v := ?_) (some 42) rfl rfl (Or.inl ⟨by rfl, ?_⟩) hS ?_
      rotate_left
      · rintro W' ⟨s0, s1, s2⟩; go_simp; try with_reducible rfl
      simp only [Act.put, List.setIfInBounds_toArray, List.set_cons_zero, List.set_cons_succ]
      refine headY (v := ?_) (some 43) rfl rfl (Or.inl ⟨by rfl, ?_⟩) hS ?_
      rotate_left
      · rintro W' ⟨s0, s1, s2⟩; go_simp; try with_reducible rfl
      simp only [Act.put, List.setIfInBounds_toArray, List.set_cons_zero, List.set_cons_succ]
      refine headY (v := ?_) (some 44) rfl rfl (Or.inl ⟨by rfl, ?_⟩) hS ?_
      rotate_left
      · rintro W' ⟨s0, s1, s2⟩; go_simp; try with_reducible rfl
      simp only [Act.put, List.setIfInBounds_toArray, List.set_cons_zero, List.set_cons_succ]
      refine headY (v := ?_) (some 45) rfl rfl (Or.inl ⟨by rfl, ?_⟩) hS ?_
      rotate_left
      · rintro W' ⟨s0, s1, s2⟩; go_simp; try with_reducible rfl
      simp only [Act.put, List.setIfInBounds_toArray, List.set_cons_zero, List.set_cons_succ]
      refine headY (v := ?_) (some 46) rfl rfl (Or.inl ⟨by rfl, ?_⟩) hS ?_
      rotate_left
      · rintro W' ⟨s0, s1, s2⟩; go_simp; try with_reducible rfl
      simp only [Act.put, List.setIfInBounds_toArray, List.set_cons_zero, List.set_cons_succ]
      refine headY (v := ?_) (some 47) rfl rfl (Or.inl ⟨by rfl, ?_⟩) hS ?_
      rotate_left
      · rintro W' ⟨s0, s1, s2⟩; go_simp; try with_reducible rfl
      simp only [Act.put, List.setIfInBounds_toArray, List.set_cons_zero, List.set_cons_succ]
      refine headY (v := ?_) (some 48) rfl rfl (Or.inl ⟨by rfl, ?_⟩) hS ?_
      rotate_left
      · rintro W' ⟨s0, s1, s2⟩; go_simp; try with_reducible rfl
      simp only [Act.put, List.setIfInBounds_toArray, List.set_cons_zero, List.set_cons_succ]
      refine headY (v := ?_) (some 49) rfl rfl (Or.inl ⟨by rfl, ?_⟩) hS ?_
      rotate_left
      · rintro W' ⟨s0, s1, s2⟩; go_simp; try with_reducible rfl
      simp only [Act.put, List.setIfInBounds_toArray, List.set_cons_zero, List.set_cons_succ]
      refine headY (v := ?_) (some 50) rfl rfl (Or.inl ⟨by rfl, ?_⟩) hS ?_
      rotate_left
      · rintro W' ⟨s0, s1, s2⟩; go_simp; try with_reducible rfl
      simp only [Act.put, List.setIfInBounds_toArray, List.set_cons_zero, List.set_cons_succ]
      refine headY (v := ?_) (some 51) rfl rfl (Or.inl ⟨by rfl, ?_⟩) hS ?_
      rotate_left
      · rintro W' ⟨s0, s1, s2⟩; go_simp; try with_reducible rfl
      simp only [Act.put, List.setIfInBounds_toArray, List.set_cons_zero, List.set_cons_succ]
      refine headY (v := ?_) (some 52) rfl rfl (Or.inl ⟨by rfl, ?_⟩) hS ?_
      rotate_left
      · rintro W' ⟨s0, s1, s2⟩; go_simp; try with_reducible rfl
      simp only [Act.put, List.setIfInBounds_toArray, List.set_cons_zero, List.set_cons_succ]
      refine headY (v := ?_) (some 53) rfl rfl (Or.inl ⟨by rfl, ?_⟩) hS ?_
      rotate_left
      · rintro W' ⟨s0, s1, s2⟩; go_simp; try with_reducible rfl
      simp only [Act.put, List.setIfInBounds_toArray, List.set_cons_zero, List.set_cons_succ]
      refine headY (v := ?_) (some 54) rfl rfl (Or.inl ⟨by rfl, ?_⟩) hS ?_
      rotate_left
      · rintro W' ⟨s0, s1, s2⟩; go_simp; try with_reducible rfl
      simp only [Act.put, List.setIfInBounds_toArray, List.set_cons_zero, List.set_cons_succ]
      refine headY (v := ?_) (some 55) rfl rfl (Or.inl ⟨by rfl, ?_⟩) hS ?_
      rotate_left
      · rintro W' ⟨s0, s1, s2⟩; go_simp; try with_reducible rfl
      simp only [Act.put, List.setIfInBounds_toArray, List.set_cons_zero, List.set_cons_succ]
      refine headC rfl (fun KK hK => ?_)
      -- CALL 19 slot (some 56)
      go_simp
      refine hK _ _ hS ?_
      clear hK KK
      refine headY (v := ?_) (some 57) rfl rfl (Or.inl ⟨by rfl, ?_⟩) hS ?_
      rotate_left
      · rintro W' ⟨s0, s1, s2⟩; go_simp; try with_reducible rfl
      simp only [Act.put, List.setIfInBounds_toArray, List.set_cons_zero, List.set_cons_succ]
      refine head0 ?_
      simp only [List.drop_succ_cons, List.drop_zero]
      clear hS
      go_wp2
      all_goals
        first
        | rw [show min (S.low u) (S.low v) = S.low v by omega] at b3 hr3
        | rw [show min (S.low u) (S.low v) = S.low u by omega] at b3 hr3
        | rw [show ((min (S.low u) (S.low v) : Nat) : Int) = min (S.low u : Int) (S.low v : Int) by omega] at b3 hr3
        refine NoPanic.normal ?_
        go_wp2
        go_meet
        case rel => exact ⟨b3, f3, hr3.out, h3⟩
  case rest =>
    obtain ⟨bc, f4, hr4, h4⟩ := hcut
    have oL := hr4.ownI h4.low
    have oF := hr4.ownI h4.fnd
    have cV := oL.at.cellD v (by rw [tab_len]; exact hvn)
    have dV := oF.at.cellD v (by rw [tab_len]; exact hvn)
    rw [tab_get _ _ _ hvn] at cV dV
    have hlv : ({ S with low := lowS S.low v r, calls := r } : TS).low v = S.low v := hlq.out
    rw [hlv] at cV
    have iL := fun w' => oL.at.idx v (by rw [tab_len]; exact hvn) w'
    have iF := fun w' => oF.at.idx v (by rw [tab_len]; exact hvn) w'
    have x1 := h4.cell hr4 1 (by decide)
    have x2 := h4.cell hr4 2 (by decide)
    simp only [List.getElem?_cons_succ, List.getElem?_cons_zero] at x1 x2
    replace hr4 := Lib.hid hr4
    clear oL oF
    generalize valAt lv v = la at *
    generalize valAt fv v = fa at *
    by_cases hlf : S.low v = S.found v
    · have hne : ((S.low v : Int) != (S.found v : Int)) = false := by rw [hlf]; simp
      go_upto_region 5 with fail
      go_quiet (fail)
      go_wp2_with fail
      clear cV dV iL iF x1 x2 hne
      go_loopg [] S.opn.length (fun k wr => ∃ o p f' ov', o.length = k ∧ k ≤ n ∧ v ∈ o ∧ (∀ x ∈ o, x < n) ∧ closeS v o p = closeS v S.opn S.part ∧ Rows B wr f' ∧ Below B w wr ∧ SN f' d nv lv fv pv ov' (.slice (some ⟨g, 0, none⟩) r.length c) n { S with low := lowS S.low v r, calls := r, opn := o, part := p })
      case atStart => exact ⟨S.opn, S.part, f4, ov, rfl, hI.out.opn_len, hvo.out, hol.out, rfl, hr4.out.drewN nq, bc.trans ⟨rfl, rfl, rfl, Nat.le_refl _, fun _ _ => rfl⟩, h4⟩
      case round =>
        obtain ⟨o, p, f5, ov', rfl, hol5, hvo5, hon, hcl, hr5, b5, h5⟩ := hrel
        obtain ⟨t, o', rfl⟩ : ∃ t o', o = t :: o' := by cases o with
          | nil => cases hvo5
          | cons t o' => exact ⟨t, o', rfl⟩
        have htn : t < n := hon t List.mem_cons_self
        obtain ⟨go, co, rfl, hco⟩ := h5.opnShape hr5 (by simp)
        simp only [List.length_cons] at h5 hco hol5
        obtain ⟨wo, rfl⟩ : ∃ wo : World, wo = wr := ⟨_, rfl⟩
        have x3 := h5.cell hr5 3 (by decide)
        simp only [List.getElem?_cons_succ, List.getElem?_cons_zero] at x3
        have oO := (hr5.ownI h5.opn).at
        have cT := oO.cellD o'.length (by rw [upI_len]; simp)
        rw [upI_top] at cT
        have iT := fun w' => oO.idx o'.length (by rw [upI_len]; simp) w'
        have hwr' : IntKind.i64.wrap (o'.length : Int) = o'.length := wrapK (by omega) (by omega)
        generalize valAt (.slice (some ⟨go, 0, none⟩) (o'.length + 1) co) o'.length = ta at *
        replace hcl := Lib.hid hcl
        replace hon := Lib.hid hon
        replace hr5 := Lib.hid hr5
        clear oO
        go_upto_region 6 with fail
        go_quiet (fail)
        go_upto_region 7 with fail
        refine wp_region_plan (fun w' => w'.cell? ⟨d, 3, none⟩ = some (.slice (some ⟨go, 0, none⟩) (o'.length + 1) co)) 14 [(0, true), (1, true), (2, true), (3, true), (4, true), (5, true), (6, true), (7, true), (8, true), (9, true), (10, true), (11, true), (12, true), (13, true)] (by kernel_rfl) (by kernel_rfl) ?_
        obtain ⟨W6, hW6⟩ : ∃ W6 : World, W6 = (wo.drewN nq).drew := ⟨_, rfl⟩
        rw [← hW6]
        have hr6 : Rows B W6 f5 := by rw [hW6]; exact (hr5.out.drewN nq).drew
        have b6 : Below B w W6 := by rw [hW6]; exact b5.trans ⟨rfl, rfl, rfl, Nat.le_refl _, fun _ _ => rfl⟩
        have hsl' : (0 ≤ (o'.length : Int) ∧ (o'.length : Int) ≤ (co : Int)) := ⟨by omega, by omega⟩
        have hS : W6.cell? ⟨d, 3, none⟩ = some (.slice (some ⟨go, 0, none⟩) (o'.length + 1) co) := by rw [hW6]; exact x3
        have g3 := h5.frz hr6 3
        clear hW6 x3 cT iT
        obtain ⟨f7, hr7, h7⟩ := h5.popOpen rfl hr6
        have b7 : Below B w (W6.setCell ⟨d, 3, none⟩ (.slice (some ⟨go, 0, none⟩) o'.length co)) := b6.setCell (h5.base hr6) _
        replace hr7 := Lib.hid hr7
        replace hr6 := Lib.hid hr6
        refine headY (v := ?_) (some 85) rfl rfl (Or.inl ⟨by rfl, ?_⟩) hS ?_
        rotate_left
        · rintro W' s0; go_simp; try with_reducible rfl
        simp only [Act.put, List.setIfInBounds_toArray, List.set_cons_zero, List.set_cons_succ]
        refine headY (v := ?_) (some 86) rfl rfl (Or.inl ⟨by rfl, ?_⟩) hS ?_
        rotate_left
        · rintro W' s0; go_simp; try with_reducible rfl
        simp only [Act.put, List.setIfInBounds_toArray, List.set_cons_zero, List.set_cons_succ]
        refine headY (v := ?_) (some 87) rfl rfl (Or.inl ⟨by rfl, ?_⟩) hS ?_
        rotate_left
        · rintro W' s0; go_simp; try with_reducible rfl
        simp only [Act.put, List.setIfInBounds_toArray, List.set_cons_zero, List.set_cons_succ]
        refine headY (v := ?_) (some 88) rfl rfl (Or.inl ⟨by rfl, ?_⟩) hS ?_
        rotate_left
        · rintro W' s0; go_simp; try with_reducible rfl
        simp only [Act.put, List.setIfInBounds_toArray, List.set_cons_zero, List.set_cons_succ]
        refine headY (v := ?_) (some 89) rfl rfl (Or.inl ⟨by rfl, ?_⟩) hS ?_
        rotate_left
        · rintro W' s0; go_simp; try with_reducible rfl
        simp only [Act.put, List.setIfInBounds_toArray, List.set_cons_zero, List.set_cons_succ]
        refine headY (v := ?_) (some 90) rfl rfl (Or.inl ⟨by rfl, ?_⟩) hS ?_
        rotate_left
        · rintro W' s0; go_simp; try with_reducible rfl
        simp only [Act.put, List.setIfInBounds_toArray, List.set_cons_zero, List.set_cons_succ]
        refine headY (v := ?_) (some 91) rfl rfl (Or.inl ⟨by rfl, ?_⟩) hS ?_
        rotate_left
        · rintro W' s0; go_simp; try with_reducible rfl
        simp only [Act.put, List.setIfInBounds_toArray, List.set_cons_zero, List.set_cons_succ]
        refine headY (v := ?_) (some 92) rfl rfl (Or.inl ⟨by rfl, ?_⟩) hS ?_
        rotate_left
        · rintro W' s0; go_simp; try with_reducible rfl
        simp only [Act.put, List.setIfInBounds_toArray, List.set_cons_zero, List.set_cons_succ]
        refine headY (v := ?_) (some 93) rfl rfl (Or.inl ⟨by rfl, ?_⟩) hS ?_
        rotate_left
        · rintro W' s0; go_simp; try with_reducible rfl
        simp only [Act.put, List.setIfInBounds_toArray, List.set_cons_zero, List.set_cons_succ]
        refine headY (v := ?_) (some 94) rfl rfl (Or.inl ⟨by rfl, ?_⟩) hS ?_
        rotate_left
        · rintro W' s0; go_simp; try with_reducible rfl
        simp only [Act.put, List.setIfInBounds_toArray, List.set_cons_zero, List.set_cons_succ]
        refine headY (v := ?_) (some 95) rfl rfl (Or.inl ⟨by rfl, ?_⟩) hS ?_
        rotate_left
        · rintro W' s0; go_simp; try with_reducible rfl
        simp only [Act.put, List.setIfInBounds_toArray, List.set_cons_zero, List.set_cons_succ]
        refine headY (v := ?_) (some 96) rfl rfl (Or.inl ⟨by rfl, ?_⟩) hS ?_
        rotate_left
        · rintro W' s0; go_simp; try with_reducible rfl
        simp only [Act.put, List.setIfInBounds_toArray, List.set_cons_zero, List.set_cons_succ]
        refine headY (v := ?_) (some 97) rfl rfl (Or.inl ⟨by rfl, ?_⟩) hS ?_
        rotate_left
        · rintro W' s0; go_simp; try with_reducible rfl
        simp only [Act.put, List.setIfInBounds_toArray, List.set_cons_zero, List.set_cons_succ]
        refine headY (v := ?_) (some 98) rfl rfl (Or.inl ⟨by rfl, ?_⟩) hS ?_
        rotate_left
        · rintro W' s0; go_simp; try with_reducible rfl
        simp only [Act.put, List.setIfInBounds_toArray, List.set_cons_zero, List.set_cons_succ]
        refine head0 ?_
        simp only [List.drop_succ_cons, List.drop_zero]
        go_wp2
        clear hS g3
        refine NoPanic.normal ?_
        obtain ⟨W7, hW7⟩ : ∃ W7 : World, W7 = W6.setCell ⟨d, 3, none⟩ (.slice (some ⟨go, 0, none⟩) o'.length co) := ⟨_, rfl⟩
        rw [← hW7]
        rw [← hW7] at hr7 b7
        clear hW7
        have x4 := h7.cell hr7.out 4 (by decide)
        simp only [List.getElem?_cons_succ, List.getElem?_cons_zero] at x4
        have oP := hr7.out.ownI h7.part
        have iP := fun w' => oP.at.idx t (by rw [tabI_len]; exact htn) w'
        have cP := oP.at.cellD t (by rw [tabI_len]; exact htn)
        have fP := oP.frz t (by rw [tabI_len]; exact htn)
        have kP := (oP.toV.blkB t (by rw [List.length_map, tabI_len]; exact htn)).2
        obtain ⟨f8, hr8, h8⟩ := h7.setPart hr7.out t htn (v : Int)
        have b8 : Below B w (W7.setCell (valAt pv t) (.int .i64 (v : Int))) := b7.setCell kP _
        replace hr8 := Lib.hid hr8
        clear oP
        generalize valAt pv t = pa at *
        by_cases htv : t = v
        · subst htv
          rw [show closeS t (t :: o') p = (o', updN p t t) by simp [closeS]] at hcl
          have hfin : leaveS S t r = { S with low := lowS S.low t r, calls := r, opn := o', part := updN p t t } := by
            unfold leaveS
            rw [hlq.out, if_pos hlf, ← hcl.out]
          replace hfin := Lib.hid hfin
          replace hlf := Lib.hid hlf
          go_wp2
          (try simp only [Exit.inBlock, Exit.then]); refine bodyPost_ret (results_none rfl _ _ _) rfl ?_
          exact ⟨rfl, b8, f8, _, _, hr8.out, by rw [hfin.out]; exact h8⟩
        · have hne : ((t : Int) == (v : Int)) = false := by rw [beq_eq_false_iff_ne]; omega
          have hvo6 : v ∈ o' := (List.mem_cons.1 hvo5).resolve_left (fun e => htv e.symm)
          rw [show closeS v (t :: o') p = closeS v o' (updN p t v) by simp [closeS, htv]] at hcl
          replace hlf := Lib.hid hlf
          go_wp2
          go_roundg o'.length
          case measure => simp
          case rel => exact ⟨o', updN p t v, f8, _, rfl, by omega, hvo6, fun x hx => hon.out x (List.mem_cons_of_mem _ hx), hcl.out, hr8.out, b8, h8⟩
    · have hne : ((S.low v : Int) != (S.found v : Int)) = true := by rw [bne_iff_ne]; omega
      have hfin : leaveS S v r = { S with low := lowS S.low v r, calls := r } := by
        unfold leaveS
        rw [hlq.out, if_neg hlf]
      replace hfin := Lib.hid hfin
      replace hlf := Lib.hid hlf
      go_upto_region 5 with fail
      go_quiet (fail)
      go_wp2
      (try simp only [Exit.inBlock, Exit.then]); refine bodyPost_ret (results_none rfl _ _ _) rfl ?_
      exact ⟨rfl, bc.trans ⟨rfl, rfl, rfl, Nat.le_refl _, fun _ _ => rfl⟩, f4, _, _, hr4.out.drewN nq, by rw [hfin.out]; exact h4⟩
end Go.Proofs.YtdldadgnggaopaaDoor

namespace Go.Proofs.YtdldadgnggaopaaDoor
open Go.RowKit
set_option maxRecDepth 100000

/-- What from leaves: the calls are done, what was found is found, and v. -/
def FromPost (B : Nat) (w : World) (d : Nat) (nv lv fv pv : Value) (n : Nat) (adj : Nat → List Nat) (S : TS) (v : Nat) (e : Ending) (w' : World) : Prop :=
  e = .returned (.tuple #[]) ∧ Below B w w' ∧ ∃ f' ov' cv' T, Rows B w' f' ∧ SN f' d nv lv fv pv ov' cv' n T ∧ TInv n adj T ∧ T.calls = [] ∧ ∀ x, S.found x ≠ 0 ∨ x = v → T.found x ≠ 0

theorem enter_keeps (S : TS) (v x : Nat) (h : S.found x ≠ 0 ∨ x = v) : (enterS S v).found x ≠ 0 := by
  show updN S.found v (S.time + 1) x ≠ 0
  by_cases e : x = v
  · subst e; rw [updN_same]; omega
  · rw [updN_other _ _ _ e]; exact h.resolve_right e

set_option maxHeartbeats 4000000 in
theorem from_any (w0 : World) (w : World) (f : Names) (d : Nat) (na : Option Addr) (nc : Nat) (lv fv pv ov cv : Value) (G : List (List Int)) (S : TS) (v : Nat) (hG : ListsAt w0 (.slice na G.length nc) G) (hok : GraphOk G) (hn : G.length ≤ 8192)
    (hb : Below w0.heap.size w0 w) (hr : Rows w0.heap.size w f) (h : SN f d (.slice na G.length nc) lv fv pv ov cv G.length S) (hI : TInv G.length (adjOf G) S) (hc : S.calls = []) (hv : v < G.length) (hf : S.found v = 0) :
    Calls Tryd.prog 60 #[.pointer (some ⟨d, 0, none⟩), .int .i64 v] w (FromPost w0.heap.size w d (.slice na G.length nc) lv fv pv G.length (adjOf G) S v) := by
  have hlen : ∀ x, x < G.length → (G.getD x []).length ≤ 9223372036854775807 := by
    intro x hx
    obtain ⟨_, _, _, hm⟩ := hG.row x hx
    exact hm.len_le
  have hE := enter_any w0.heap.size w f d (.slice na G.length nc) lv fv pv ov cv G.length S v hr h hb.size hv (by rw [hc]; simp) (by rw [h.opnNil hI hc]; simp) (by rw [hc]; simp) (by have := hI.time_le; omega)
  have hI1 := hI.enterRoot hc hv hf
  have hkeep := enter_keeps S v
  replace hG := Lib.hid hG
  replace hok := Lib.hid hok
  replace hI := Lib.hid hI
  replace hlen := Lib.hid hlen
  replace hr := Lib.hid hr
  go_enter Tryd.func60, Tryd.ntmps60
  go_wp2_with fail
  refine hE.mono ?_
  rintro e w1 ⟨rfl, b1, f1, ov1, cv1, hr1, h1⟩
  generalize enterS S v = S1 at *
  replace hE := ()
  clear hE
  replace hkeep := Lib.hid hkeep
  replace hI1 := Lib.hid hI1
  replace hr1 := Lib.hid hr1
  go_wp2_with fail
  go_loopg [] (phi G.length (adjOf G) S1) (fun k wr => ∃ Sx f' ov' cv', k = phi G.length (adjOf G) Sx ∧ TInv G.length (adjOf G) Sx ∧ (∀ x, S1.found x ≠ 0 → Sx.found x ≠ 0) ∧ Rows w0.heap.size wr f' ∧ Below w0.heap.size w wr ∧ SN f' d (.slice na G.length nc) lv fv pv ov' cv' G.length Sx)
  case atStart => exact ⟨S1, f1, ov1, cv1, rfl, hI1.out, fun _ h => h, hr1.out, b1, h1⟩
  case round =>
    obtain ⟨Sx, f2, ov2, cv2, rfl, hI2, hk2, hr2, b2, h2⟩ := hrel
    obtain ⟨wo, rfl⟩ : ∃ wo : World, wo = wr := ⟨_, rfl⟩
    have x5 := h2.cell hr2 5 (by decide)
    simp only [List.getElem?_cons_succ, List.getElem?_cons_zero] at x5
    cases hc2 : Sx.calls with
    | nil =>
      obtain ⟨ca, cc, rfl⟩ := h2.callsLen hr2
      rw [hc2, List.length_nil] at h2 x5
      have hfin := Lib.hid (show ∀ x, S.found x ≠ 0 ∨ x = v → Sx.found x ≠ 0 from fun x hx => hk2 x (hkeep.out x hx))
      replace hI2 := Lib.hid hI2
      replace hc2 := Lib.hid hc2
      replace hr2 := Lib.hid hr2
      clear hk2
      go_wp2
      go_end0
      exact ⟨rfl, b2, f2, ov2, _, Sx, hr2.out, h2, hI2.out, hc2.out, hfin.out⟩
    | cons x r =>
      obtain ⟨g, c, rfl, hcap⟩ := h2.callsShape hr2 (by rw [hc2]; simp)
      rw [hc2, List.length_cons] at h2 x5 hcap
      have hxc : x ∈ Sx.calls := by rw [hc2]; exact List.mem_cons_self
      have hxn := hI2.seenLt x (hI2.callsSeen hxc).1
      have hrl := hI2.calls_len
      rw [hc2, List.length_cons] at hrl
      have hxr : x ∉ r := fun hm => by
        have := hI2.callsSorted
        rw [hc2] at this
        exact absurd ((List.pairwise_cons.1 this).1 x hm) (Nat.lt_irrefl _)
      have hil := hI2.idxLe x (hI2.callsOpen x hxc)
      have hal := adjOf_len G x
      have hll := hlen.out x hxn
      have hphi := hI2.phi_step hc2
      have hI3 := hI2.step
      have hk3 := fun y (hy : S1.found y ≠ 0) => (keepsS (adjOf G) Sx (hk2 y hy)).symm ▸ hk2 y hy
      obtain ⟨t0, t1, t1f⟩ := h2.callTop hc2 hr2
      have x0 := h2.cell hr2 0 (by decide)
      simp only [List.getElem?_cons_zero] at x0
      have hb2 := hb.trans b2
      obtain ⟨mv, iR, cR, hM⟩ := (hG.out.below hb2).row x hxn
      have hget := fun (i : Nat) (hi : i < (G.getD x []).length) => hok.out.get hxn hi
      obtain ⟨gx, hgx⟩ : ∃ gx, G.getD x [] = gx := ⟨_, rfl⟩
      rw [hgx] at hM hal hll hget
      replace hgx := Lib.hid hgx
      replace hget := Lib.hid hget
      have lenM := hM.len
      have hwr : IntKind.i64.wrap (r.length : Int) = r.length := wrapK (by omega) (by omega)
      obtain ⟨ra, hra⟩ : ∃ ra, valAt (.slice na G.length nc) x = ra := ⟨_, rfl⟩
      rw [hra] at iR cR
      replace hra := Lib.hid hra
      replace hphi := Lib.hid hphi
      replace hI3 := Lib.hid hI3
      replace hk3 := Lib.hid hk3
      replace hM := Lib.hid hM
      replace hI2 := Lib.hid hI2
      replace hr2 := Lib.hid hr2
      replace hk2 := Lib.hid hk2
      replace hxr := Lib.hid hxr
      have hstep := Lib.hid (stepS_cons (adj := adjOf G) hc2)
      by_cases hi : Sx.idx x = (adjOf G x).length
      · have hieq : ((Sx.idx x : Int) == (gx.length : Int)) = true := by rw [beq_iff_eq]; omega
        rw [if_pos hi] at hstep
        have hL := fun (w' : World) (hr' : Rows w0.heap.size w' f2) => leave_any w0.heap.size w' f2 d (.slice na G.length nc) lv fv pv ov2 _ G.length (adjOf G) Sx x r hr' h2 hI2.out hc2 hn
        replace hL := Lib.hid hL
        replace hc2 := Lib.hid hc2
        replace hi := Lib.hid hi
        go_upto_region 2 with fail
        go_quiet (fail)
        go_upto_region 3 with fail
        go_quiet (fail)
        go_wp2_with fail
        clear t0 t1 t1f x0 x5 iR cR lenM
        refine (hL.out _ (hr2.out.drewN _)).mono ?_
        rintro e w3 ⟨rfl, b3, f3, ov3, cv3, hr3, h3⟩
        replace hr3 := Lib.hid hr3
        go_wp2
        go_roundg (phi G.length (adjOf G) (stepS (adjOf G) Sx))
        case measure => exact hphi.out
        case rel => exact ⟨stepS (adjOf G) Sx, f3, ov3, cv3, rfl, hI3.out, hk3.out, hr3.out, b2.trans (Below.trans (below_drewN (Below.refl _ _) _) b3), by rw [hstep.out]; exact h3⟩
      · have hine : ((Sx.idx x : Int) == (gx.length : Int)) = false := by rw [beq_eq_false_iff_ne]; omega
        have hilt : Sx.idx x < gx.length := by omega
        rw [if_neg hi] at hstep
        have hg1 := hget.out _ hilt
        obtain ⟨t, ht⟩ : ∃ t, (adjOf G x).getD (Sx.idx x) 0 = t := ⟨_, rfl⟩
        rw [ht] at hg1 hstep
        have htn := (hI2.out.idx_get hc2 hi).2.2
        rw [ht] at htn
        have iT := hM.out.idx _ hilt
        have cT := hM.out.cellD _ hilt
        rw [hg1] at cT
        generalize valAt mv (Sx.idx x) = ta at *
        replace hg1 := Lib.hid hg1
        replace ht := Lib.hid ht
        replace hi := Lib.hid hi
        have e1 : ((Sx.idx x + 1 : Nat) : Int) = (Sx.idx x : Int) + 1 := by omega
        have hbump := fun (w' : World) (hr' : Rows w0.heap.size w' f2) => h2.bump hc2 hxr.out hr' (Sx.idx x + 1)
        rw [e1] at hbump
        replace e1 := Lib.hid e1
        replace hbump := Lib.hid hbump
        have hgB := ((hr2.out.lt h2.calls) g rfl).1
        have hcb := Lib.hid (show t ∉ Sx.calls ∨ Sx.found t ≠ 0 from by
          by_cases q : Sx.found t = 0
          · exact .inl fun hm => (hI2.out.callsSeen hm).1 q
          · exact .inr q)
        have hlens := Lib.hid (show Sx.opn.length < 10000 ∧ Sx.calls.length < 10000 ∧ Sx.time < 100000 from ⟨by have := hI2.out.opn_len; omega, by have := hI2.out.calls_len; omega, by have := hI2.out.time_le; omega⟩)
        replace hc2 := Lib.hid hc2
        go_upto_region 2 with fail
        go_quiet (fail)
        revert nq
        intro q1
        go_upto_region 3 with fail
        go_quiet (fail)
        revert nq
        intro q2
        go_upto_region 5 with fail
        go_quiet (fail)
        go_upto_region 7 with fail
        obtain ⟨WN, hWN⟩ : ∃ WN : World, WN = wo.drewN (q1 + q2 + nq) := ⟨_, rfl⟩
        rw [← hWN]
        have hrN : Rows w0.heap.size WN f2 := by rw [hWN]; exact hr2.out.drewN _
        have bN : Below w0.heap.size w WN := by rw [hWN]; exact b2.trans (below_drewN (Below.refl _ _) _)
        clear hWN t0 t1 t1f x0 x5 iR cR lenM iT cT
        obtain ⟨f3, hr3, h3⟩ := hbump.out _ hrN
        have b3 : Below w0.heap.size w (WN.setCell ⟨g, r.length * 2 + 1, none⟩ (.int .i64 ((Sx.idx x : Int) + 1))) := bN.setCell hgB _
        obtain ⟨W3, hW3⟩ : ∃ W3 : World, W3 = WN.setCell ⟨g, r.length * 2 + 1, none⟩ (.int .i64 ((Sx.idx x : Int) + 1)) := ⟨_, rfl⟩
        rw [← hW3]
        rw [← hW3] at hr3 b3
        clear hW3 hrN bN
        have x2 := h3.cell hr3 2 (by decide)
        simp only [List.getElem?_cons_succ, List.getElem?_cons_zero] at x2
        have oF := (hr3.ownI h3.fnd).at
        have iF := fun w' => oF.idx t (by rw [tab_len]; exact htn) w'
        have cF := oF.cellD t (by rw [tab_len]; exact htn)
        rw [tab_get _ _ _ htn] at cF
        dsimp only at cF
        replace hr3 := Lib.hid hr3
        clear oF
        obtain ⟨fa, hfa⟩ : ∃ fa, valAt fv t = fa := ⟨_, rfl⟩
        rw [hfa] at iF cF
        replace hfa := Lib.hid hfa
        by_cases hft : Sx.found t = 0
        · rw [if_pos hft] at hstep
          have hE3 := enter_any w0.heap.size W3 f3 d (.slice na G.length nc) lv fv pv ov2 _ G.length _ t hr3.out h3 (Nat.le_trans hb.size (Nat.le_trans b3.size (Nat.le_refl _))) htn (by show t ∉ Sx.calls; exact hcb.out.resolve_right (fun q => q hft)) hlens.out.1 hlens.out.2.1 hlens.out.2.2
          replace hE3 := Lib.hid hE3
          rw [hft] at cF
          replace hft := Lib.hid hft
          go_wp2_with fail
          clear x2 iF cF
          refine hE3.out.mono ?_
          rintro e w4 ⟨rfl, b4, f4, ov4, cv4, hr4, h4⟩
          replace hr4 := Lib.hid hr4
          go_wp2
          go_roundg (phi G.length (adjOf G) (stepS (adjOf G) Sx))
          case measure => exact hphi.out
          case rel => exact ⟨stepS (adjOf G) Sx, f4, ov4, cv4, rfl, hI3.out, hk3.out, hr4.out, b3.trans b4, by rw [hstep.out]; exact h4⟩
        · have hne : ((Sx.found t : Int) == 0) = false := by rw [beq_eq_false_iff_ne]; omega
          rw [if_neg hft] at hstep
          replace hft := Lib.hid hft
          have x4 := h3.cell hr3.out 4 (by decide)
          simp only [List.getElem?_cons_succ, List.getElem?_cons_zero] at x4
          have oP := (hr3.out.ownI h3.part).at
          have iP := fun w' => oP.idx t (by rw [tabI_len]; exact htn) w'
          have cP := oP.cellD t (by rw [tabI_len]; exact htn)
          rw [tabI_get _ _ _ htn] at cP
          dsimp only at cP
          clear oP
          generalize valAt pv t = pa at *
          by_cases hpt : Sx.part t < 0
          · rw [if_pos hpt] at hstep
            have hcx : Sx.calls = x :: r := hc2.out
            have hT0 := fun (w' : World) (hr' : Rows w0.heap.size w' f3) => (h3.callTop hcx hr').1
            replace hcx := Lib.hid hcx
            replace hT0 := Lib.hid hT0
            go_upto_region 10 with fail
            clear x4 iP cP x2
            refine wp_region_plan (fun w' => w'.cell? ⟨d, 1, none⟩ = some lv ∧ w'.cell? ⟨d, 2, none⟩ = some fv ∧ w'.cell? ⟨g, r.length * 2, none⟩ = some (.int .i64 (x : Int)) ∧ w'.cell? (valAt lv x) = some (.int .i64 (Sx.low x : Int)) ∧ w'.cell? fa = some (.int .i64 (Sx.found t : Int))) 27 [(0, true), (1, true), (2, true), (3, true), (4, true), (5, true), (6, true), (7, true), (8, true), (9, true), (10, true), (11, true), (12, true), (13, true), (14, true), (15, true), (16, true), (17, true), (18, true), (19, true), (20, true), (21, true), (22, true), (23, true), (24, true), (25, false), (26, true)] (by kernel_rfl) (by kernel_rfl) ?_
            obtain ⟨W5, hW5⟩ : ∃ W5 : World, W5 = W3.drew := ⟨_, rfl⟩
            rw [← hW5]
            have hr5 : Rows w0.heap.size W5 f3 := by rw [hW5]; exact hr3.out.drew
            have b5 : Below w0.heap.size w W5 := by rw [hW5]; exact b3.drew
            have cF5 : W5.cell? fa = some (.int .i64 (Sx.found t : Int)) := by rw [hW5]; exact cF
            clear hW5 cF
            have oL := hr5.ownI h3.low
            have iX := fun w' => oL.at.idx x (by rw [tab_len]; exact hxn) w'
            have cX := oL.at.cellD x (by rw [tab_len]; exact hxn)
            rw [tab_get _ _ _ hxn] at cX
            dsimp only at cX
            have fX := oL.frz x (by rw [tab_len]; exact hxn)
            have kX := (oL.toV.blkB x (by rw [List.length_map, tab_len]; exact hxn)).2
            have hS : W5.cell? ⟨d, 1, none⟩ = some lv ∧ W5.cell? ⟨d, 2, none⟩ = some fv ∧ W5.cell? ⟨g, r.length * 2, none⟩ = some (.int .i64 (x : Int)) ∧ W5.cell? (valAt lv x) = some (.int .i64 (Sx.low x : Int)) ∧ W5.cell? fa = some (.int .i64 (Sx.found t : Int)) := ⟨h3.cell hr5 1 (by decide), h3.cell hr5 2 (by decide), hT0.out _ hr5, cX, cF5⟩
            obtain ⟨f6, hr6, h6⟩ := h3.setLow hr5 x hxn (min (Sx.low x) (Sx.found t))
            have b6 : Below w0.heap.size w (W5.setCell (valAt lv x) (.int .i64 ((min (Sx.low x) (Sx.found t) : Nat) : Int))) := b5.setCell kX _
            replace hr6 := Lib.hid hr6
            replace hr5 := Lib.hid hr5
            clear oL cF5
            generalize valAt lv x = la at *
            refine headY (v := ?_) (some 92) rfl rfl (Or.inl ⟨by rfl, ?_⟩) hS ?_
            rotate_left
            · rintro W' ⟨s0, s1, s2, s3, s4⟩; go_simp; try with_reducible rfl
            simp only [Act.put, List.setIfInBounds_toArray, List.set_cons_zero, List.set_cons_succ]
            refine headY (v := ?_) (some 93) rfl rfl (Or.inl ⟨by rfl, ?_⟩) hS ?_
            rotate_left
            · rintro W' ⟨s0, s1, s2, s3, s4⟩; go_simp; try with_reducible rfl
            simp only [Act.put, List.setIfInBounds_toArray, List.set_cons_zero, List.set_cons_succ]
            refine headY (v := ?_) (some 94) rfl rfl (Or.inl ⟨by rfl, ?_⟩) hS ?_
            rotate_left
            · rintro W' ⟨s0, s1, s2, s3, s4⟩; go_simp; try with_reducible rfl
            simp only [Act.put, List.setIfInBounds_toArray, List.set_cons_zero, List.set_cons_succ]
            refine headY (v := ?_) (some 95) rfl rfl (Or.inl ⟨by rfl, ?_⟩) hS ?_
            rotate_left
            · rintro W' ⟨s0, s1, s2, s3, s4⟩; go_simp; try with_reducible rfl
            simp only [Act.put, List.setIfInBounds_toArray, List.set_cons_zero, List.set_cons_succ]
            refine headY (v := ?_) (some 96) rfl rfl (Or.inl ⟨by rfl, ?_⟩) hS ?_
            rotate_left
            · rintro W' ⟨s0, s1, s2, s3, s4⟩; go_simp; try with_reducible rfl
            simp only [Act.put, List.setIfInBounds_toArray, List.set_cons_zero, List.set_cons_succ]
            refine headY (v := ?_) (some 97) rfl rfl (Or.inl ⟨by rfl, ?_⟩) hS ?_
            rotate_left
            · rintro W' ⟨s0, s1, s2, s3, s4⟩; go_simp; try with_reducible rfl
            simp only [Act.put, List.setIfInBounds_toArray, List.set_cons_zero, List.set_cons_succ]
            refine headY (v := ?_) (some 98) rfl rfl (Or.inl ⟨by rfl, ?_⟩) hS ?_
            rotate_left
            · rintro W' ⟨s0, s1, s2, s3, s4⟩; go_simp; try with_reducible rfl
            simp only [Act.put, List.setIfInBounds_toArray, List.set_cons_zero, List.set_cons_succ]
            refine headY (v := ?_) (some 99) rfl rfl (Or.inl ⟨by rfl, ?_⟩) hS ?_
            rotate_left
            · rintro W' ⟨s0, s1, s2, s3, s4⟩; go_simp; try with_reducible rfl
            simp only [Act.put, List.setIfInBounds_toArray, List.set_cons_zero, List.set_cons_succ]
            refine headY (v := ?_) (some 100) rfl rfl (Or.inl ⟨by rfl, ?_⟩) hS ?_
            rotate_left
            · rintro W' ⟨s0, s1, s2, s3, s4⟩; go_simp; try with_reducible rfl
            simp only [Act.put, List.setIfInBounds_toArray, List.set_cons_zero, List.set_cons_succ]
            refine headY (v := ?_) (some 101) rfl rfl (Or.inl ⟨by rfl, ?_⟩) hS ?_
            rotate_left
            · rintro W' ⟨s0, s1, s2, s3, s4⟩; go_simp; try with_reducible rfl
            simp only [Act.put, List.setIfInBounds_toArray, List.set_cons_zero, List.set_cons_succ]
            refine headY (v := ?_) (some 102) rfl rfl (Or.inl ⟨by rfl, ?_⟩) hS ?_
            rotate_left
            · rintro W' ⟨s0, s1, s2, s3, s4⟩; go_simp; try with_reducible rfl
            simp only [Act.put, List.setIfInBounds_toArray, List.set_cons_zero, List.set_cons_succ]
            refine headY (v := ?_) (some 103) rfl rfl (Or.inl ⟨by rfl, ?_⟩) hS ?_
            rotate_left
            · rintro W' ⟨s0, s1, s2, s3, s4⟩; go_simp; try with_reducible rfl
            simp only [Act.put, List.setIfInBounds_toArray, List.set_cons_zero, List.set_cons_succ]
            refine headY (v := ?_) (some 104) rfl rfl (Or.inl ⟨by rfl, ?_⟩) hS ?_
            rotate_left
            · rintro W' ⟨s0, s1, s2, s3, s4⟩; go_simp; try with_reducible rfl
            simp only [Act.put, List.setIfInBounds_toArray, List.set_cons_zero, List.set_cons_succ]
            refine headY (v := ?_) (some 105) rfl rfl (Or.inl ⟨by rfl, ?_⟩) hS ?_
            rotate_left
            · rintro W' ⟨s0, s1, s2, s3, s4⟩; go_simp; try with_reducible rfl
            simp only [Act.put, List.setIfInBounds_toArray, List.set_cons_zero, List.set_cons_succ]
            refine headY (v := ?_) (some 106) rfl rfl (Or.inl ⟨by rfl, ?_⟩) hS ?_
            rotate_left
            · rintro W' ⟨s0, s1, s2, s3, s4⟩; go_simp; try with_reducible rfl
            simp only [Act.put, List.setIfInBounds_toArray, List.set_cons_zero, List.set_cons_succ]
            refine headY (v := ?_) (some 107) rfl rfl (Or.inl ⟨by rfl, ?_⟩) hS ?_
            rotate_left
            · rintro W' ⟨s0, s1, s2, s3, s4⟩; go_simp; try with_reducible rfl
            simp only [Act.put, List.setIfInBounds_toArray, List.set_cons_zero, List.set_cons_succ]
            refine headY (v := ?_) (some 108) rfl rfl (Or.inl ⟨by rfl, ?_⟩) hS ?_
            rotate_left
            · rintro W' ⟨s0, s1, s2, s3, s4⟩; go_simp; try with_reducible rfl
            simp only [Act.put, List.setIfInBounds_toArray, List.set_cons_zero, List.set_cons_succ]
            refine headY (v := ?_) (some 109) rfl rfl (Or.inl ⟨by rfl, ?_⟩) hS ?_
            rotate_left
            · rintro W' ⟨s0, s1, s2, s3, s4⟩; go_simp; try with_reducible rfl
            simp only [Act.put, List.setIfInBounds_toArray, List.set_cons_zero, List.set_cons_succ]
            refine headY (v := ?_) (some 110) rfl rfl (Or.inl ⟨by rfl, ?_⟩) hS ?_
            rotate_left
            · rintro W' ⟨s0, s1, s2, s3, s4⟩; go_simp; try with_reducible rfl
            simp only [Act.put, List.setIfInBounds_toArray, List.set_cons_zero, List.set_cons_succ]
            refine headY (v := ?_) (some 111) rfl rfl (Or.inl ⟨by rfl, ?_⟩) hS ?_
            rotate_left
            · rintro W' ⟨s0, s1, s2, s3, s4⟩; go_simp; try with_reducible rfl
            simp only [Act.put, List.setIfInBounds_toArray, List.set_cons_zero, List.set_cons_succ]
            refine headY (v := ?_) (some 112) rfl rfl (Or.inl ⟨by rfl, ?_⟩) hS ?_
            rotate_left
            · rintro W' ⟨s0, s1, s2, s3, s4⟩; go_simp; try with_reducible rfl
            simp only [Act.put, List.setIfInBounds_toArray, List.set_cons_zero, List.set_cons_succ]
            refine headY (v := ?_) (some 113) rfl rfl (Or.inl ⟨by rfl, ?_⟩) hS ?_
            rotate_left
            · rintro W' ⟨s0, s1, s2, s3, s4⟩; go_simp; try with_reducible rfl
            simp only [Act.put, List.setIfInBounds_toArray, List.set_cons_zero, List.set_cons_succ]
            refine headY (v := ?_) (some 114) rfl rfl (Or.inl ⟨by rfl, ?_⟩) hS ?_
            rotate_left
            · rintro W' ⟨s0, s1, s2, s3, s4⟩; go_simp; try with_reducible rfl
            simp only [Act.put, List.setIfInBounds_toArray, List.set_cons_zero, List.set_cons_succ]
            refine headY (v := ?_) (some 115) rfl rfl (Or.inl ⟨by rfl, ?_⟩) hS ?_
            rotate_left
            · rintro W' ⟨s0, s1, s2, s3, s4⟩; go_simp; try with_reducible rfl
            simp only [Act.put, List.setIfInBounds_toArray, List.set_cons_zero, List.set_cons_succ]
            refine headY (v := ?_) (some 116) rfl rfl (Or.inl ⟨by rfl, ?_⟩) hS ?_
            rotate_left
            · rintro W' ⟨s0, s1, s2, s3, s4⟩; go_simp; try with_reducible rfl
            simp only [Act.put, List.setIfInBounds_toArray, List.set_cons_zero, List.set_cons_succ]
            refine headC rfl (fun KK hK => ?_)
            -- CALL 25 slot (some 117)
            go_simp
            refine hK _ _ hS ?_
            clear hK KK
            refine headY (v := ?_) (some 118) rfl rfl (Or.inl ⟨by rfl, ?_⟩) hS ?_
            rotate_left
            · rintro W' ⟨s0, s1, s2, s3, s4⟩; go_simp; try with_reducible rfl
            simp only [Act.put, List.setIfInBounds_toArray, List.set_cons_zero, List.set_cons_succ]
            refine head0 ?_
            simp only [List.drop_succ_cons, List.drop_zero]
            clear hS iX iF
            go_wp2
            all_goals
              first
              | rw [show min (Sx.low x) (Sx.found t) = Sx.found t by omega] at b6 hr6
              | rw [show min (Sx.low x) (Sx.found t) = Sx.low x by omega] at b6 hr6
              | rw [show ((min (Sx.low x) (Sx.found t) : Nat) : Int) = min (Sx.low x : Int) (Sx.found t : Int) by omega] at b6 hr6
              refine NoPanic.normal ?_
              go_wp2
              go_roundg (phi G.length (adjOf G) (stepS (adjOf G) Sx))
              case measure => exact hphi.out
              case rel => exact ⟨stepS (adjOf G) Sx, f6, ov2, _, rfl, hI3.out, hk3.out, hr6.out, b6, by rw [hstep.out]; exact h6⟩
          · rw [if_neg hpt] at hstep
            go_wp2
            go_roundg (phi G.length (adjOf G) (stepS (adjOf G) Sx))
            case measure => exact hphi.out
            case rel => exact ⟨stepS (adjOf G) Sx, f3, ov2, _, rfl, hI3.out, hk3.out, hr3.out, b3, by rw [hstep.out]; exact h3⟩
end Go.Proofs.YtdldadgnggaopaaDoor

namespace Go.Proofs.YtdldadgnggaopaaDoor

def updM (M : Int → Option Int) (p x : Int) : Int → Option Int := fun q => if q = p then some x else M q
/-- Behind the first k: what has a number, and how many have. -/
def numM (p : Nat → Int) : Nat → (Int → Option Int) × Nat
  | 0 => (fun _ => none, 0)
  | k + 1 => if ((numM p k).1 (p k)).isSome then numM p k else (updM (numM p k).1 (p k) ((numM p k).2 : Int), (numM p k).2 + 1)
/-- The number of the k-th. -/
def numO (p : Nat → Int) (k : Nat) : Int := ((numM p (k + 1)).1 (p k)).getD 0
theorem numM_size (p : Nat → Int) : ∀ k, (numM p k).2 ≤ k
  | 0 => Nat.le_refl _
  | k + 1 => by
    have := numM_size p k
    simp only [numM]; split <;> simp <;> omega
theorem numM_keep (p : Nat → Int) {q x : Int} (k : Nat) (h : (numM p k).1 q = some x) : ∀ d, (numM p (k + d)).1 q = some x
  | 0 => h
  | d + 1 => by
    have ih := numM_keep p k h d
    show (numM p (k + d + 1)).1 q = some x
    simp only [numM]
    split
    · exact ih
    · next hn =>
      show updM _ _ _ q = some x
      unfold updM
      by_cases e : q = p (k + d)
      · subst e; rw [ih] at hn; exact absurd rfl hn
      · rw [if_neg e]; exact ih
theorem numM_own (p : Nat → Int) (k : Nat) : (numM p (k + 1)).1 (p k) = some (numO p k) := by
  unfold numO
  have : ((numM p (k + 1)).1 (p k)).isSome := by
    simp only [numM]
    split
    · next h => exact h
    · simp [updM]
  obtain ⟨x, hx⟩ := Option.isSome_iff_exists.1 this
  rw [hx]; rfl
theorem numM_below (p : Nat → Int) : ∀ k q x, (numM p k).1 q = some x → 0 ≤ x ∧ x < (numM p k).2
  | 0, q, x, h => by cases h
  | k + 1, q, x, h => by
    have ih := numM_below p k q x
    simp only [numM] at h ⊢
    split at h
    · next hs => rw [if_pos hs]; exact ih h
    · next hs =>
      rw [if_neg hs]
      simp only [updM] at h ⊢
      by_cases e : q = p k
      · rw [if_pos e] at h; injection h with h; omega
      · rw [if_neg e] at h; have := ih h; omega
theorem numM_inj (p : Nat → Int) : ∀ k q q' x, (numM p k).1 q = some x → (numM p k).1 q' = some x → q = q'
  | 0, q, q', x, h, _ => by cases h
  | k + 1, q, q', x, h, h' => by
    have ih := numM_inj p k q q' x
    simp only [numM] at h h'
    split at h
    · next hs => rw [if_pos hs] at h'; exact ih h h'
    · next hs =>
      rw [if_neg hs] at h'
      simp only [updM] at h h'
      by_cases e : q = p k <;> by_cases e' : q' = p k
      · rw [e, e']
      · rw [if_pos e] at h; rw [if_neg e'] at h'
        have := numM_below p k q' x h'
        injection h with h; omega
      · rw [if_neg e] at h; rw [if_pos e'] at h'
        have := numM_below p k q x h
        injection h' with h'; omega
      · rw [if_neg e] at h; rw [if_neg e'] at h'; exact ih h h'
/-- One number just where it is one thing. -/
theorem numO_eq (p : Nat → Int) (i j : Nat) : numO p i = numO p j ↔ p i = p j := by
  have key : ∀ i d, (numM p (i + 1 + d)).1 (p i) = some (numO p i) := fun i d => numM_keep p (i + 1) (numM_own p i) d
  have hi := key i j
  have hj := key j i
  rw [show j + 1 + i = i + 1 + j by omega] at hj
  constructor
  · intro h; rw [h] at hi; exact numM_inj p _ _ _ _ hi hj
  · intro h; rw [h] at hi; rw [hi] at hj; injection hj
theorem numO_bound (p : Nat → Int) (k : Nat) : 0 ≤ numO p k ∧ numO p k ≤ k := by
  have h1 := numM_below p (k + 1) _ _ (numM_own p k)
  have h2 := numM_size p (k + 1)
  omega
/-- What the numbers tell: one number just where there are ways both ways. -/
def PartsOf (n : Nat) (adj : Nat → List Nat) (ps : List Int) : Prop :=
  ∃ p : Nat → Int, (∀ x y, x < n → y < n → (p x = p y ↔ Goes adj x y ∧ Goes adj y x)) ∧ ps = (List.range n).map (numO p)
theorem PartsOf.len {n : Nat} {adj : Nat → List Nat} {ps : List Int} (h : PartsOf n adj ps) : ps.length = n := by
  obtain ⟨p, _, rfl⟩ := h; simp
theorem PartsOf.eq {n : Nat} {adj : Nat → List Nat} {ps : List Int} (h : PartsOf n adj ps) {x y : Nat} (hx : x < n) (hy : y < n) : ps.getD x 0 = ps.getD y 0 ↔ Goes adj x y ∧ Goes adj y x := by
  obtain ⟨p, hp, rfl⟩ := h
  simp only [List.getD_eq_getElem?_getD, List.getElem?_map, List.getElem?_range hx, List.getElem?_range hy, Option.map_some, Option.getD_some]
  rw [numO_eq, hp x y hx hy]
end Go.Proofs.YtdldadgnggaopaaDoor

namespace Go.Proofs.YtdldadgnggaopaaDoor
open Go.RowKit Go.Maps
set_option maxRecDepth 100000

theorem uIntN : Tryd.prog.underlying 3 = some (.int .i64) := by kernel_rfl
theorem uMapN : Tryd.prog.underlying 99 = some (.map 3 3) := by kernel_rfl
theorem keyedN : Keyed Tryd.prog 3 := int_keyed uIntN
theorem zeroN (w : World) : (zeroValue 3).run Tryd.prog w = .ok (.int .i64 0) w := by kernel_rfl

/-- Block b is a map that has these numbers under these keys, s in all. -/
def NumMap (w : World) (b n : Nat) (M : Int → Option Int) (s : Nat) : Prop :=
  ∃ D : DataW Unit, w.ownsMap Tryd.prog 3 (plainElem Tryd.prog 3) b n D ∧ Maps.size D = s ∧
    ∀ k, (Lit.int .i64 k).wf = true → Maps.has D (.int .i64 k) = (M k).isSome ∧ ∀ x, M k = some x → D.atKey (.int .i64 k) (.lit (.int .i64 0)) = .lit (.int .i64 x)
theorem NumMap.made (w : World) : NumMap (w.alloc (.map #[] 0)) w.heap.size 0 (fun _ => none) 0 :=
  ⟨_, World.ownsMap_made w Tryd.prog 3 _, rfl, fun k _ => ⟨rfl, fun x h => by cases h⟩⟩
theorem NumMap.blk {w : World} {b n s : Nat} {M : Int → Option Int} (h : NumMap w b n M s) : ∃ es c, w.heap[b]? = some (.map es c) := by
  obtain ⟨D, ⟨es, c, hb, _⟩, _⟩ := h
  exact ⟨es, c, hb⟩
theorem NumMap.kept {w w' : World} {b n s : Nat} {M : Int → Option Int} {row : Option Nat} (h : NumMap w b n M s) (hg : w.grownBy w' row) (hne : some b ≠ row) : NumMap w' b n M s := by
  obtain ⟨D, h1, h2⟩ := h
  exact ⟨D, h1.kept hg hne, h2⟩
theorem NumMap.drew {w : World} {b n s : Nat} {M : Int → Option Int} (h : NumMap w b n M s) : NumMap w.drew b n M s := h
theorem NumMap.drewN {w : World} {b n s : Nat} {M : Int → Option Int} (h : NumMap w b n M s) (q : Nat) : NumMap (w.drewN q) b n M s := h
theorem NumMap.len {w : World} {b n s : Nat} {M : Int → Option Int} (h : NumMap w b n M s) (ty : TypeId) : (Builtin.len_ #[99] ty #[.map (some b)]).run Tryd.prog w = .ok (.int .i64 s) w := by
  obtain ⟨D, h1, rfl, _⟩ := h
  exact h1.len uMapN ty
theorem NumMap.lookOk {w : World} {b n s : Nat} {M : Int → Option Int} (h : NumMap w b n M s) (k : Int) (hk : (Lit.int .i64 k).wf = true) :
    ∃ c : Int, (Instr.lookup 99 (.map (some b)) (.int .i64 k) true).run Tryd.prog w = .ok (.tuple #[.int .i64 c, .bool (M k).isSome]) w := by
  obtain ⟨D, h1, _, h3⟩ := h
  obtain ⟨v, ps, hr, hv⟩ := h1.look_ok keyedN uMapN (zeroN w) (plainElem_int uIntN (by decide)) (keyOf_int_mk uIntN hk)
  obtain ⟨c, rfl, _, _⟩ := plainElem_int_inv uIntN hv
  exact ⟨c, by rw [hr, (h3 k hk).1]⟩
theorem NumMap.look {w : World} {b n s : Nat} {M : Int → Option Int} (h : NumMap w b n M s) (k x : Int) (hk : (Lit.int .i64 k).wf = true) (hx : M k = some x) :
    (Instr.lookup 99 (.map (some b)) (.int .i64 k) false).run Tryd.prog w = .ok (.int .i64 x) w := by
  obtain ⟨D, h1, _, h3⟩ := h
  obtain ⟨c, hr, hc, _⟩ := h1.lookup_int keyedN uMapN uIntN (zeroN w) (keyOf_int_mk uIntN hk)
  rw [(h3 k hk).2 x hx] at hc
  injection hc with hc
  injection hc with _ hc
  rw [hr, hc]
theorem NumMap.store {w : World} {b n s : Nat} {M : Int → Option Int} (h : NumMap w b n M s) (k x : Int) (hk : (Lit.int .i64 k).wf = true) (hx : (Lit.int .i64 x).wf = true) (hM : M k = none) (hn : n < 1000000) :
    ∃ w', (Instr.mapUpdate 99 (.map (some b)) (.int .i64 k) (.int .i64 x)).run Tryd.prog w = .ok () w' ∧ NumMap w' b (n + 1) (updM M k x) (s + 1) ∧ w.grownBy w' (some b) := by
  obtain ⟨D, h1, h2, h3⟩ := h
  have hT := h1.tidy keyedN
  have hI := h1.isMap
  obtain ⟨w', hr, ho, hg⟩ := h1.update keyedN uMapN (by unfold maxLen; omega) (keyOf_int_mk uIntN hk) (plainElem_int uIntN hx)
  have hkl : WideAt.IsKeyLit (Lit.int .i64 k) := keyedN.key (keyOf_int_mk uIntN hk)
  refine ⟨w', hr, ⟨_, ho, ?_, fun q hq => ?_⟩, hg⟩
  · rw [Maps.size_put hT, (h3 k hk).1, hM, h2]; rfl
  · by_cases e : q = k
    · subst e
      refine ⟨by rw [Maps.has_put_same hI hkl]; simp [updM], fun y hy => ?_⟩
      simp [updM] at hy
      subst hy
      exact Maps.atKey_put_same hI hkl _ _
    · have hne : (Lit.int .i64 q) ≠ (Lit.int .i64 k) := fun h => e (by injection h)
      refine ⟨by rw [Maps.has_put_other hne, (h3 q hq).1]; simp [updM, e], fun y hy => ?_⟩
      rw [Maps.atKey_put_other hne]
      exact (h3 q hq).2 y (by simpa [updM, e] using hy)
/-- Rows stay while a map's block is written. -/
theorem ownI_map {B : Nat} {w w' : World} {b : Nat} {es : Array MapEntry} {c : Nat} {v : Value} {xs : List Int} (h : OwnI B w v xs) (hb : w.heap[b]? = some (.map es c)) (hg : w.grownBy w' (some b)) : OwnI B w' v xs := by
  refine World.ownsRow.kept h hg ?_
  rcases h.2 with ⟨e, _⟩ | ⟨g, cap, cur, e, _, hh, _⟩
  · left; rw [e]; rfl
  · right; rw [e]; intro q
    have : g = b := by injection q
    subst this; rw [hh] at hb; cases hb
end Go.Proofs.YtdldadgnggaopaaDoor

namespace Go.Proofs.YtdldadgnggaopaaDoor
open Go.RowKit
set_option maxRecDepth 100000

theorem ValsAt.shape {w : World} {v : Value} {vs : List Value} (h : ValsAt w v vs) : ∃ a n c, v = .slice a n c := by
  obtain ⟨a, cap, e, _⟩ := h; exact ⟨_, _, _, e⟩
theorem cell_keep {w w' : World} {b i : Nat} {x : Value} (hb : Below w.heap.size w w') (h : w.cell? ⟨b, i, none⟩ = some x) : w'.cell? ⟨b, i, none⟩ = some x :=
  (hb.cell (p := ⟨b, i, none⟩) (World.block_lt_of_cell? _ _ h)).trans h
theorem cell_alloc {w : World} {b i : Nat} {x : Value} (h : w.cell? ⟨b, i, none⟩ = some x) (o : Obj) : (w.alloc o).cell? ⟨b, i, none⟩ = some x := cell_keep ((Below.refl _ _).alloc (Nat.le_refl _) _) h
theorem cell_new {w : World} {b : Nat} {x : Value} {T : TypeId} (hb : b = w.heap.size) : (w.alloc (.cells #[x] T)).cell? ⟨b, 0, none⟩ = some x := by subst hb; simp
theorem cell_drew {w : World} {b i : Nat} {x : Value} (h : w.cell? ⟨b, i, none⟩ = some x) : w.drew.cell? ⟨b, i, none⟩ = some x := h

/-- Three cells of a variable of the call's own. -/
def Box3 (w : World) (b : Nat) (x0 x1 x2 : Value) : Prop := (w.cell? ⟨b, 0, none⟩ = some x0 ∧ w.cell? ⟨b, 1, none⟩ = some x1 ∧ w.cell? ⟨b, 2, none⟩ = some x2) ∧ w.frozen? ⟨b, 0, none⟩ = false ∧ w.frozen? ⟨b, 1, none⟩ = false ∧ w.frozen? ⟨b, 2, none⟩ = false
theorem Box3.below {w w' : World} {b : Nat} {x0 x1 x2 : Value} (h : Box3 w b x0 x1 x2) (hb : Below w.heap.size w w') : Box3 w' b x0 x1 x2 := by
  obtain ⟨⟨h0, h1, h2⟩, f0, f1, f2⟩ := h
  have hlt := World.block_lt_of_cell? _ _ h0
  exact ⟨⟨cell_keep hb h0, cell_keep hb h1, cell_keep hb h2⟩, (hb.frozen (p := ⟨b, 0, none⟩) hlt).trans f0, (hb.frozen (p := ⟨b, 1, none⟩) hlt).trans f1, (hb.frozen (p := ⟨b, 2, none⟩) hlt).trans f2⟩
theorem Box3.alloc {w : World} {b : Nat} {x0 x1 x2 : Value} (h : Box3 w b x0 x1 x2) (o : Obj) : Box3 (w.alloc o) b x0 x1 x2 := h.below ((Below.refl _ _).alloc (Nat.le_refl _) _)
theorem Box3.drew {w : World} {b : Nat} {x0 x1 x2 : Value} (h : Box3 w b x0 x1 x2) : Box3 w.drew b x0 x1 x2 := h
theorem OwnV.drew {E : TypeId} {B : Nat} {w : World} {v : Value} {vs : List Value} (h : OwnV E B w v vs) : OwnV E B w.drew v vs := h
theorem Below.allocL {w w' : World} (h : Below w.heap.size w w') (o : Obj) : Below w.heap.size w (w'.alloc o) := h.alloc h.size o
theorem Below.stepL {w1 w2 w3 : World} (h : Below w1.heap.size w1 w2) (k : Below w2.heap.size w2 w3) : Below w1.heap.size w1 w3 := h.trans (k.mono h.size)
theorem belowAlloc' (w : World) (o : Obj) : Below w.heap.size w (w.alloc o) := (Below.refl _ _).alloc (Nat.le_refl _) _
theorem Below.drewL {w w' : World} {n : Nat} (h : Below n w w') : Below n w w'.drew := h.drew

end Go.Proofs.YtdldadgnggaopaaDoor

namespace Go.Proofs.YtdldadgnggaopaaDoor
open Go.RowKit Go.Extern.Stop Go.Stop Go.Extern
set_option maxRecDepth 100000
namespace Errs

theorem typeOfE (v : Value) (w : World) : (ReflectliteType.typeOf #[.iface 208 v]).run Tryd.prog w = .ok (.iface 183 (.agg #[.pointer (some ⟨13, 208, none⟩)])) w := by kernel_rfl
theorem comparableE (w : World) : ((ReflectliteType.method fun t => do Rtype.noPackHeld "Comparable" t; (fun a => Value.bool a.comparable) <$> typeInfo t) #[.agg #[.pointer (some ⟨13, 208, none⟩)]]).run Tryd.prog w = .ok (.bool true) w := by kernel_rfl
theorem methodComparable (v : Value) (w : World) : (Go.method 341 183 v "Comparable").run Tryd.prog w = .ok (181, v) w := by kernel_rfl
theorem compE : (Tryd.prog.info? 208).map (·.comparable) = some true := by kernel_rfl
theorem sizeE : (Tryd.prog.info? 229).map (·.size) = some 1 := by kernel_rfl
theorem uErr : Tryd.prog.underlying 27 = some (.interface #[("Error", 209)]) := by kernel_rfl
theorem uES : Tryd.prog.underlying 208 = some (.pointer 229) := by kernel_rfl
theorem uIs : Tryd.prog.underlying 185 = some (.interface #[("Is", 187)]) := by kernel_rfl
theorem uUnw : Tryd.prog.underlying 188 = some (.interface #[("Unwrap", 189)]) := by kernel_rfl
theorem noIsF (v : Value) (xT : TypeId) (w : World) : (Instr.typeAssert (.iface 104 v) xT 185 true).run Tryd.prog w = .ok (.tuple #[.nilIface, .bool false]) w := run_typeAssert_lacksB uIs (by kernel_rfl) (by kernel_rfl) v xT w
theorem hasUnwrapF (v : Value) (xT : TypeId) (w : World) : (Instr.typeAssert (.iface 104 v) xT 188 true).run Tryd.prog w = .ok (.tuple #[.iface 104 v, .bool true]) w := run_typeAssert_hasB uUnw (by kernel_rfl) v xT w
theorem methodUnwrap (v : Value) (w : World) : (Go.method 341 104 v "Unwrap").run Tryd.prog w = .ok (175, v) w := by kernel_rfl

theorem unwrap_any (p : Nat) (u : Value) (w : World) (h : w.cell? ⟨p, 2, none⟩ = some u) :
    Calls Tryd.prog 175 #[.pointer (some ⟨p, 0, none⟩)] w fun e w' => e = .returned u ∧ w = w' := by
  go_enter Tryd.func175, Tryd.ntmps175
  go_wp2
  go_ret
  exact ⟨rfl, rfl⟩

set_option maxHeartbeats 800000 in
theorem is_loop (r : Nat → Addr) (n : Int) (l : List (ByteArray × Int)) (v : Value) (w : World) (h : ErrAt r w n l v) :
    Calls Tryd.prog 116 #[v, rootV r n, .bool true] w fun e w' => e = .returned (.bool true) ∧ w = w' := by
  obtain ⟨i, hi, hcmp⟩ := Option.map_eq_some_iff.1 compE
  obtain ⟨j, hj, hjs⟩ := Option.map_eq_some_iff.1 sizeE
  have heq := run_eql_iface_ptr_same (P := Tryd.prog) w (r n.toNat) uErr uES hi hcmp hj
  have nF := noIsF
  have uF := hasUnwrapF
  have mU := methodUnwrap
  clear hi hcmp hj hjs
  replace h := Lib.hid h
  go_enter Tryd.func116, Tryd.ntmps116
  go_wp2
  go_loopg [0] l.length (fun k u wr => wr = w ∧ ∃ l', l'.length = k ∧ ErrAt r w n l' u)
  case atStart => exact ⟨rfl, l, rfl, h.out⟩
  case round =>
    obtain ⟨rfl, l', hl', hu⟩ := hrel
    match l', hl', hu with
    | [], hl', hu =>
      obtain rfl : _ = rootV r n := hu
      clear hl'
      go_wp2
      go_ret
      exact ⟨rfl, rfl⟩
    | (op, at_) :: rest, hl', hu =>
      obtain ⟨p, u', rfl, c0, c1, c2, hrest⟩ := hu
      obtain ⟨T, a, rfl⟩ := hrest.shape
      have hty := run_eql_iface_types (P := Tryd.prog) 104 208 (.pointer (some ⟨p, 0, none⟩)) (.pointer (some (r n.toNat))) uErr (by decide) wr
      replace hrest := Lib.hid hrest
      replace hl' := Lib.hid hl'
      go_wp2_with (go_at_call 175; refine (unwrap_any p _ _ c2).mono ?_; rintro e w' ⟨rfl, rfl⟩)
      go_roundg rest.length
      case measure => have := hl'.out; simp at this; omega
      case rel => exact ⟨rfl, rest, rfl, hrest.out⟩

/-- errors.Is at a chain of Faults and the error that it ends in. -/
theorem is_any (r : Nat → Addr) (n : Int) (l : List (ByteArray × Int)) (v : Value) (w : World) (h : ErrAt r w n l v) :
    Calls Tryd.prog 64 #[v, rootV r n] w fun e w' => e = .returned (.bool true) ∧ w = w' := by
  have h8 := @run_callFunc_extern Tryd.prog 115 _ Extern.ReflectliteType.typeOf Tryd.func115 (by kernel_rfl) (by kernel_rfl) (by kernel_rfl) (by kernel_rfl)
  have h32 := @run_callFunc_extern Tryd.prog 181 _ (Extern.ReflectliteType.method fun t => do Extern.Rtype.noPackHeld "Comparable" t; pure (.bool (← typeInfo t).comparable)) Tryd.func181 (by kernel_rfl) (by kernel_rfl) (by kernel_rfl) (by kernel_rfl)
  have tT := typeOfE
  have cT := comparableE
  have mR := methodComparable
  obtain ⟨T, a, rfl⟩ := h.shape
  replace h := Lib.hid h
  go_enter Tryd.func64, Tryd.ntmps64
  go_wp2_with fail
  refine (is_loop r n l _ _ h.out).mono ?_
  rintro e w' ⟨rfl, rfl⟩
  go_wp2
  go_ret
  exact ⟨rfl, rfl⟩
end Errs
end Go.Proofs.YtdldadgnggaopaaDoor

namespace Go.Proofs.YtdldadgnggaopaaDoor
open Go.RowKit Go.Extern.Stop Go.Stop Go.Extern
set_option maxRecDepth 100000
namespace Errs

/-! errors.As at a Fault: the target a *api.Fault variable. -/
theorem uF : Tryd.prog.underlying 104 = some (.pointer 108) := by kernel_rfl
theorem uFF : Tryd.prog.underlying 106 = some (.pointer 104) := by kernel_rfl
theorem valueOfFF (t : Addr) (w : World) : (ReflectliteValue.unpack (.iface 106 (.pointer (some t)))).run Tryd.prog w
    = .ok (.agg #[.pointer (some ⟨13, 106, none⟩), .pointer (some ⟨w.heap.size, 0, none⟩), .int .u64 150]) (w.alloc (.cells #[.pointer (some t)] 106)) := by kernel_rfl
theorem typeFF (a : Addr) (w : World) : (ReflectliteValue.methodAny (ReflectliteValue.valueError "reflectlite.Value.Type" 0) (fun t _ _ _ => ReflectliteType.toType t) #[.agg #[.pointer (some ⟨13, 106, none⟩), .pointer (some a), .int .u64 150]]).run Tryd.prog w
    = .ok (.iface 183 (.agg #[.pointer (some ⟨13, 106, none⟩)])) w := by kernel_rfl
theorem methodKind (h : Value) (w : World) : (Go.method 341 183 (.agg #[h]) "Kind").run Tryd.prog w = .ok (171, h) w := by kernel_rfl
theorem kindFF (w : World) : ((ReflectliteType.abiMethod fun t => (fun a : Nat => Value.int IntKind.u8 (a : Int)) <$> Rtype.kind t) #[.pointer (some ⟨13, 106, none⟩)]).run Tryd.prog w = .ok (.int .u8 22) w := by kernel_rfl
theorem kindF (w : World) : ((ReflectliteType.abiMethod fun t => (fun a : Nat => Value.int IntKind.u8 (a : Int)) <$> Rtype.kind t) #[.pointer (some ⟨13, 104, none⟩)]).run Tryd.prog w = .ok (.int .u8 22) w := by kernel_rfl
theorem rlm (z : Sem Value) (f : TypeId → Addr → Nat → Nat → Sem Value) (v : Value) :
    ReflectliteValue.method z f #[v] = (do match ← ReflectliteValue.parts v with | none => z | some (t, a, fl) => f t a fl (fl % 32)) := rfl
theorem partsFF (a : Addr) (w : World) : (ReflectliteValue.parts (.agg #[.pointer (some ⟨13, 106, none⟩), .pointer (some a), .int .u64 150])).run Tryd.prog w = .ok (some (106, a, 150)) w := by kernel_rfl
theorem isNilFF (a p : Addr) (W : World) (ha : W.cell? a = some (.pointer (some p))) :
    (ReflectliteValue.method (ReflectliteValue.valueError "reflectlite.Value.IsNil" 0) ReflectliteValue.isNil #[.agg #[.pointer (some ⟨13, 106, none⟩), .pointer (some a), .int .u64 150]]).run Tryd.prog W = .ok (.bool false) W := by
  rw [rlm]
  simp only [Sem.run_bind, partsFF, Result.andThen]
  simp [ReflectliteValue.isNil, loadVar, isAgg, underlying, ha, Result.andThen]
theorem methodElem (h : Value) (w : World) : (Go.method 341 183 (.agg #[h]) "Elem").run Tryd.prog w = .ok (182, .agg #[h]) w := by kernel_rfl
theorem methodImplements (h : Value) (w : World) : (Go.method 341 183 (.agg #[h]) "Implements").run Tryd.prog w = .ok (183, .agg #[h]) w := by kernel_rfl
theorem methodAssignableTo (h : Value) (w : World) : (Go.method 341 183 (.agg #[h]) "AssignableTo").run Tryd.prog w = .ok (180, .agg #[h]) w := by kernel_rfl
theorem elemFF (w : World) : (ReflectliteType.method ReflectliteType.elem #[.agg #[.pointer (some ⟨13, 106, none⟩)]]).run Tryd.prog w = .ok (.iface 183 (.agg #[.pointer (some ⟨13, 104, none⟩)])) w := by kernel_rfl
theorem implementsF (w : World) : (ReflectliteType.relation "Implements" ReflectliteType.implements_ #[.agg #[.pointer (some ⟨13, 104, none⟩)], .iface 183 (.agg #[.pointer (some ⟨13, 27, none⟩)])]).run Tryd.prog w = .ok (.bool true) w := by kernel_rfl
theorem typeOfF (v : Value) (w : World) : (ReflectliteType.typeOf #[.iface 104 v]).run Tryd.prog w = .ok (.iface 183 (.agg #[.pointer (some ⟨13, 104, none⟩)])) w := by kernel_rfl
theorem assignableF (w : World) : (ReflectliteType.relation "AssignableTo" ReflectliteType.assignableTo #[.agg #[.pointer (some ⟨13, 104, none⟩)], .iface 183 (.agg #[.pointer (some ⟨13, 104, none⟩)])]).run Tryd.prog w = .ok (.bool true) w := by kernel_rfl
theorem valueOfF (e : Addr) (w : World) : (ReflectliteValue.unpack (.iface 104 (.pointer (some e)))).run Tryd.prog w
    = .ok (.agg #[.pointer (some ⟨13, 104, none⟩), .pointer (some ⟨w.heap.size, 0, none⟩), .int .u64 150]) (w.alloc (.cells #[.pointer (some e)] 104)) := by kernel_rfl
theorem elemOfFF (w : World) : (Rtype.elem? 106).run Tryd.prog w = .ok (some 104) w := by kernel_rfl
theorem mkF (p : Addr) (w : World) : (ReflectliteValue.mk 104 p ReflectliteValue.flagAddr).run Tryd.prog w = .ok (.agg #[.pointer (some ⟨13, 104, none⟩), .pointer (some p), .int .u64 406]) w := by kernel_rfl
theorem elemVFF (a p : Addr) (W : World) (ha : W.cell? a = some (.pointer (some p))) :
    (ReflectliteValue.method (ReflectliteValue.valueError "reflectlite.Value.Elem" 0) ReflectliteValue.elem #[.agg #[.pointer (some ⟨13, 106, none⟩), .pointer (some a), .int .u64 150]]).run Tryd.prog W
      = .ok (.agg #[.pointer (some ⟨13, 104, none⟩), .pointer (some p), .int .u64 406]) W := by
  rw [rlm]
  simp only [Sem.run_bind, partsFF, Result.andThen]
  simp [ReflectliteValue.elem, loadVar, isAgg, underlying, ha, Result.andThen, elemOfFF, mkF]
theorem rls (v x : Value) : ReflectliteValue.set #[v, x] = (do
    let (some (dst, a, fl), some (src, b, _)) := (← ReflectliteValue.parts v, ← ReflectliteValue.parts x)
      | unsupported (.noEntry "extern/(internal/reflectlite.Value).Set.zeroValue")
    if fl / ReflectliteValue.flagAddr % 2 == 0 then unsupported (.noEntry "extern/(internal/reflectlite.Value).Set.unaddressable")
    let val ← loadVar src b
    if ← Rtype.directlyAssignable dst src then storeVar dst a val
    else if ← Rtype.implements dst src then
      if (← Rtype.kind src) == 20 then
        match val with
        | .nilIface => unsupported (.noEntry "extern/reflectlite: a nil value of one interface type handed on as a value of another")
        | _ => storeVar dst a val
      else storeVar dst a (.iface src val)
    else panicString ("reflectlite.Set: value of type " ++ (← Rtype.spelt src) ++ " is not assignable to type " ++ (← Rtype.spelt dst))
    pure (.tuple #[])) := rfl
theorem partsFa (a : Addr) (w : World) : (ReflectliteValue.parts (.agg #[.pointer (some ⟨13, 104, none⟩), .pointer (some a), .int .u64 406])).run Tryd.prog w = .ok (some (104, a, 406)) w := by kernel_rfl
theorem partsF (a : Addr) (w : World) : (ReflectliteValue.parts (.agg #[.pointer (some ⟨13, 104, none⟩), .pointer (some a), .int .u64 150])).run Tryd.prog w = .ok (some (104, a, 150)) w := by kernel_rfl
theorem directF (w : World) : (Rtype.directlyAssignable 104 104).run Tryd.prog w = .ok true w := by kernel_rfl
theorem setF (ta b e : Addr) (old : Value) (W : World) (hb : W.cell? b = some (.pointer (some e))) (ht : W.cell? ta = some old) (hf : W.frozen? ta = false) :
    (ReflectliteValue.set #[.agg #[.pointer (some ⟨13, 104, none⟩), .pointer (some ta), .int .u64 406], .agg #[.pointer (some ⟨13, 104, none⟩), .pointer (some b), .int .u64 150]]).run Tryd.prog W
      = .ok (.tuple #[]) (W.setCell ta (.pointer (some e))) := by
  rw [rls]
  simp only [Sem.run_bind, partsFa, partsF, Result.andThen]
  simp [ReflectliteValue.flagAddr, loadVar, isAgg, underlying, hb, Result.andThen, directF, storeVar, Value.cells, storeCells, Addr.add]
  rw [run_store Tryd.prog W ta _ _ (by rfl)]
  simp [ht, hf]

end Errs
end Go.Proofs.YtdldadgnggaopaaDoor

namespace Go.Proofs.YtdldadgnggaopaaDoor
open Go.RowKit Go.Extern.Stop Go.Stop Go.Extern
set_option maxRecDepth 100000
namespace Errs
set_option maxHeartbeats 4000000 in
theorem as_hit (e t : Addr) (old : Value) (w : World) (hg : w.cell? ⟨12, 0, none⟩ = some (.iface 183 (.agg #[.pointer (some ⟨13, 27, none⟩)]))) (ht0 : w.cell? t = some old) (hf0 : w.frozen? t = false) :
    Calls Tryd.prog 66 #[.iface 104 (.pointer (some e)), .iface 106 (.pointer (some t))] w fun ev w' => ev = .returned (.bool true) ∧ w' = ((((w.alloc (.cells #[.pointer (some t)] 106)).alloc (.cells #[.pointer (some ⟨13, 106, none⟩), .pointer (some ⟨w.heap.size, 0, none⟩), .int .u64 150] 155)).alloc (.cells #[.pointer (some ⟨13, 106, none⟩), .pointer (some ⟨w.heap.size, 0, none⟩), .int .u64 150] 155)).alloc (.cells #[.pointer (some e)] 104)).setCell t (.pointer (some e)) := by
  have h6 := @run_callFunc_extern Tryd.prog 117 _ (fun args => ReflectliteValue.unpack (args.getD 0 (.tuple #[]))) Tryd.func117 (by kernel_rfl) (by kernel_rfl) (by kernel_rfl) (by kernel_rfl)
  have h7 := @run_callFunc_extern Tryd.prog 118 _ (ReflectliteValue.methodAny (ReflectliteValue.valueError "reflectlite.Value.Type" 0) (fun t _ _ _ => ReflectliteType.toType t)) Tryd.func118 (by kernel_rfl) (by kernel_rfl) (by kernel_rfl) (by kernel_rfl)
  have h8 := @run_callFunc_extern Tryd.prog 119 _ (ReflectliteValue.method (ReflectliteValue.valueError "reflectlite.Value.IsNil" 0) ReflectliteValue.isNil) Tryd.func119 (by kernel_rfl) (by kernel_rfl) (by kernel_rfl) (by kernel_rfl)
  have h27 := @run_callFunc_extern Tryd.prog 171 _ (ReflectliteType.abiMethod fun t => do pure (.int .u8 (← Rtype.kind t))) Tryd.func171 (by kernel_rfl) (by kernel_rfl) (by kernel_rfl) (by kernel_rfl)
  have h37 := @run_callFunc_extern Tryd.prog 182 _ (ReflectliteType.method ReflectliteType.elem) Tryd.func182 (by kernel_rfl) (by kernel_rfl) (by kernel_rfl) (by kernel_rfl)
  have h38 := @run_callFunc_extern Tryd.prog 183 _ (ReflectliteType.relation "Implements" ReflectliteType.implements_) Tryd.func183 (by kernel_rfl) (by kernel_rfl) (by kernel_rfl) (by kernel_rfl)
  have h10 := @run_callFunc_extern Tryd.prog 115 _ ReflectliteType.typeOf Tryd.func115 (by kernel_rfl) (by kernel_rfl) (by kernel_rfl) (by kernel_rfl)
  have h35 := @run_callFunc_extern Tryd.prog 180 _ (ReflectliteType.relation "AssignableTo" ReflectliteType.assignableTo) Tryd.func180 (by kernel_rfl) (by kernel_rfl) (by kernel_rfl) (by kernel_rfl)
  have h11 := @run_callFunc_extern Tryd.prog 146 _ (ReflectliteValue.method (ReflectliteValue.valueError "reflectlite.Value.Elem" 0) ReflectliteValue.elem) Tryd.func146 (by kernel_rfl) (by kernel_rfl) (by kernel_rfl) (by kernel_rfl)
  have h12 := @run_callFunc_extern Tryd.prog 147 _ ReflectliteValue.set Tryd.func147 (by kernel_rfl) (by kernel_rfl) (by kernel_rfl) (by kernel_rfl)
  have tO := typeOfF
  have mA := methodAssignableTo
  have aF := assignableF
  have vF := valueOfF
  have f6 := valueOfFF
  have f7 := typeFF
  have mK := methodKind
  have mE := methodElem
  have mI := methodImplements
  have kFF := kindFF
  have kF := kindF
  have eFF := elemFF
  have iF := implementsF
  have n8 := isNilFF ⟨w.heap.size, 0, none⟩ t ((w.alloc (.cells #[.pointer (some t)] 106)).alloc (.cells #[.pointer (some ⟨13, 106, none⟩), .pointer (some ⟨w.heap.size, 0, none⟩), .int .u64 150] 155)) (by simp)
  have hlt : 12 < w.heap.size := World.block_lt_of_cell? _ _ hg
  have hg2 : ((w.alloc (.cells #[.pointer (some t)] 106)).alloc (.cells #[.pointer (some ⟨13, 106, none⟩), .pointer (some ⟨w.heap.size, 0, none⟩), .int .u64 150] 155)).cell? ⟨12, 0, none⟩ = some (.iface 183 (.agg #[.pointer (some ⟨13, 27, none⟩)])) := by
    rw [World.cell?_alloc_lt _ _ ⟨12, 0, none⟩ (by simp; omega), World.cell?_alloc_lt _ _ ⟨12, 0, none⟩ hlt]; exact hg
  have htl : t.block < w.heap.size := World.block_lt_of_cell? _ _ ht0
  have el := elemVFF ⟨w.heap.size, 0, none⟩ t (((w.alloc (.cells #[.pointer (some t)] 106)).alloc (.cells #[.pointer (some ⟨13, 106, none⟩), .pointer (some ⟨w.heap.size, 0, none⟩), .int .u64 150] 155)).alloc (.cells #[.pointer (some ⟨13, 106, none⟩), .pointer (some ⟨w.heap.size, 0, none⟩), .int .u64 150] 155)) (by rw [World.cell?_alloc_lt _ _ ⟨w.heap.size, 0, none⟩ (by simp; omega)]; simp)
  have st := setF t ⟨w.heap.size + 1 + 1 + 1, 0, none⟩ e old ((((w.alloc (.cells #[.pointer (some t)] 106)).alloc (.cells #[.pointer (some ⟨13, 106, none⟩), .pointer (some ⟨w.heap.size, 0, none⟩), .int .u64 150] 155)).alloc (.cells #[.pointer (some ⟨13, 106, none⟩), .pointer (some ⟨w.heap.size, 0, none⟩), .int .u64 150] 155)).alloc (.cells #[.pointer (some e)] 104))
    (by rw [World.cell?_alloc_at _ _ _ _ (by simp)]; rfl)
    (by rw [World.cell?_alloc_lt _ _ t (by simp; omega), World.cell?_alloc_lt _ _ t (by simp; omega), World.cell?_alloc_lt _ _ t (by simp; omega), World.cell?_alloc_lt _ _ t htl]; exact ht0)
    (by rw [World.frozen?_alloc_old _ _ t (by simp; omega), World.frozen?_alloc_old _ _ t (by simp; omega), World.frozen?_alloc_old _ _ t (by simp; omega), World.frozen?_alloc_old _ _ t (Nat.ne_of_lt htl)]; exact hf0)
  go_enter Tryd.func66, Tryd.ntmps66
  go_wp2
  refine wp_loop_rounds 1 ?_
  rw [rounds_succ]
  go_wp2
  go_ret
  exact ⟨rfl, rfl⟩

/-- errors.As at a Fault and a variable of the call's own: the variable holds the Fault; nothing else that was there has changed. -/
theorem as_any (e t : Addr) (old : Value) (w : World) (hg : w.cell? ⟨12, 0, none⟩ = some (.iface 183 (.agg #[.pointer (some ⟨13, 27, none⟩)]))) (ht0 : w.cell? t = some old) (hf0 : w.frozen? t = false) :
    Calls Tryd.prog 66 #[.iface 104 (.pointer (some e)), .iface 106 (.pointer (some t))] w fun ev w' => ev = .returned (.bool true) ∧ ∃ w1, Below w.heap.size w w1 ∧ w' = w1.setCell t (.pointer (some e)) :=
  (as_hit e t old w hg ht0 hf0).mono fun _ _ ⟨h1, h2⟩ => ⟨h1, _, ((((Below.refl _ _).alloc (Nat.le_refl _) _).alloc (by simp) _).alloc (by simp; omega) _).alloc (by simp; omega) _, h2⟩
end Errs
end Go.Proofs.YtdldadgnggaopaaDoor

namespace Go.Proofs.YtdldadgnggaopaaDoor
open Go.RowKit
set_option maxRecDepth 100000

/-- errors.errorType holds the handle of the type error. -/
def GlobE (w : World) : Prop := w.cell? ⟨12, 0, none⟩ = some (.iface 183 (.agg #[.pointer (some ⟨13, 27, none⟩)]))
theorem GlobE.below {w w' : World} (h : GlobE w) (hb : Below w.heap.size w w') : GlobE w' := cell_keep hb h

/-- An error's number and length are as every error's. -/
def PErr.Fine (t : PErr) : Prop := match t with | none => True | some (n, l) => 1 ≤ n ∧ n ≤ 11 ∧ l.length ≤ 1000

theorem takeD {P : Program} {ops : Array Oper} {Q : Exit → Act → World → Prop} {md : Region.Mode} {S : World → Prop} {i : Nat} {oi : Oper} {v : Value} {fuel : Nat} {listed : Array Bool} {a : Act} {w : World} (d : Option Tmp) (hi : ops[i]? = some oi) (hd : oi.dst = d)
    (hs : Region.noSelect ops = true) (hf : Region.free md ops listed i = true) (hr : (Region.ready md ops listed).contains i = true)
    (hQ : ∀ c a w, Q (.panic c) (a.put d v) w → Q (.panic c) a w) (hy : YieldsIf P ops S oi v a) (hS : S w)
    (h : wpAnyH P md ops Q S fuel (listed.setIfInBounds i true) (a.put d v) w) : wpAnyH P md ops Q S (fuel + 1) listed a w := by
  subst hd
  exact wpAnyH_take hi hs hf hr hQ hy hS h

theorem takeA {P : Program} {ops : Array Oper} {Q : Exit → Act → World → Prop} {md : Region.Mode} {i : Nat} {oi : Oper} {v : Value} {fuel : Nat} {listed : Array Bool} {a : Act} {w : World} (d : Option Tmp) (hi : ops[i]? = some oi) (hd : oi.dst = d)
    (hs : Region.noSelect ops = true) (hf : Region.free md ops listed i = true) (hr : (Region.ready md ops listed).contains i = true)
    (hQ : ∀ c a w, Q (.panic c) (a.put d v) w → Q (.panic c) a w) (hy : Yields P ops oi v a)
    (h : wpAny P md ops Q fuel (listed.setIfInBounds i true) (a.put d v) w) : wpAny P md ops Q (fuel + 1) listed a w := by
  subst hd
  exact wpAny_take hi hs hf hr hQ hy h

/-- errors.As at a Fault and a variable just laid: the variable holds the Fault; all that was there before it is as it was. -/
theorem as_keep (q : Addr) (wo wv w : World) (bv : Below wo.heap.size wo wv) (hw : w = wv.drew) (hG : GlobE wv) (zt : wv.cell? ⟨wo.heap.size, 0, none⟩ = some (.pointer none)) (ft : wv.frozen? ⟨wo.heap.size, 0, none⟩ = false) :
    Calls Tryd.prog 66 #[.iface 104 (.pointer (some q)), .iface 106 (.pointer (some ⟨wo.heap.size, 0, none⟩))] w fun e w' => e = .returned (.bool true) ∧ w'.cell? ⟨wo.heap.size, 0, none⟩ = some (.pointer (some q)) ∧ Below wo.heap.size wo w' := by
  subst hw
  refine (Errs.as_any q ⟨wo.heap.size, 0, none⟩ (.pointer none) wv.drew hG zt ft).mono ?_
  rintro e w6 ⟨rfl, w5, hb5, rfl⟩
  have h5 : Below wv.heap.size wv w5 := ((Below.refl wv.heap.size wv).drew).trans hb5
  refine ⟨rfl, World.cell?_setCell_same _ _ _ (cell_keep h5 zt), (Below.stepL bv h5).setCell (p := ⟨wo.heap.size, 0, none⟩) (Nat.le_refl _) _⟩

theorem raw_is_none (w : World) :
    Calls Tryd.prog 25 #[.nilIface, zErr] w (Ret1 (fun x _ => x = .bool true) w) := by
  go_enter Tryd.func25, Tryd.ntmps25
  go_wp2
  go_ret
  exact ⟨_, rfl, belowAlloc' _ _, rfl⟩

set_option maxHeartbeats 1000000 in
theorem raw_is_some (r : Nat → Addr) (n : Int) (l : List (ByteArray × Int)) (v e : Value) (w : World) (hg : Glob r w) (hG : GlobE w) (hv : ErrAt r w n l v) (he : EAt w (some (n, l)) e) (h1 : 1 ≤ n) (h11 : n ≤ 11) (hl : l.length ≤ 1000) :
    Calls Tryd.prog 25 #[v, e] w (Ret1 (fun x _ => x = .bool true) w) := by
  obtain ⟨a1, n1, c1, a2, n2, c2, rfl, hs, hi⟩ := he
  have b0 := belowAlloc' w (.cells #[.int .i64 n, .slice a1 n1 c1, .slice a2 n2 c2] 45)
  have hn0 : (n == 0) = false := by rw [beq_eq_false_iff_ne]; omega
  obtain ⟨T, p, rfl⟩ := hv.shape
  replace hv := Lib.hid (hv.below b0)
  have hg0 := Lib.hid hg
  replace hg := Lib.hid (hg.below b0)
  replace hG := Lib.hid (hG.below b0)
  have hsl := hs.len oneStrs
  rw [List.length_map] at hsl
  replace hs := Lib.hid (hs.below b0)
  replace hi := Lib.hid (hi.below b0)
  go_enter Tryd.func25, Tryd.ntmps25
  go_wp2_with fail
  refine (raw_root r n _ hg.out h1 h11).mono ?_
  rintro e w1 ⟨rfl, rfl⟩
  go_wp2_with fail
  refine (Errs.is_any r n l _ _ hv.out).mono ?_
  rintro e w1 ⟨rfl, rfl⟩
  have z : (w.alloc (.cells #[.int .i64 n, .slice a1 n1 c1, .slice a2 n2 c2] 45)).cell? ⟨w.heap.size, 0, none⟩ = some (.int .i64 n) ∧ (w.alloc (.cells #[.int .i64 n, .slice a1 n1 c1, .slice a2 n2 c2] 45)).cell? ⟨w.heap.size, 1, none⟩ = some (.slice a1 n1 c1) ∧ (w.alloc (.cells #[.int .i64 n, .slice a1 n1 c1, .slice a2 n2 c2] 45)).cell? ⟨w.heap.size, 2, none⟩ = some (.slice a2 n2 c2) := by simp
  obtain ⟨W, hW⟩ : ∃ W : World, W = w.alloc (.cells #[.int .i64 n, .slice a1 n1 c1, .slice a2 n2 c2] 45) := ⟨_, rfl⟩
  rw [← hW] at hv hg hG hs hi z b0 ⊢
  clear hW
  replace z := Lib.hid z
  go_wp2
  go_loopw [0, 5] (fun u i wr => ∃ k : Nat, k ≤ l.length ∧ i = .int .i64 k ∧ ErrAt r wr n (l.drop k) u ∧ Below W.heap.size W wr) (fun _ i _ => l.length - (intOf i).toNat)
  case atStart => exact ⟨0, by omega, rfl, hv.out, Below.refl _ _⟩
  case round =>
    obtain ⟨k, hk, rfl, hu, hB⟩ := hrel
    obtain ⟨wo, rfl⟩ : ∃ wo : World, wo = wr := ⟨_, rfl⟩
    obtain ⟨z0, z1, z2⟩ := keep3 hB z.out
    by_cases hkl : k < l.length
    · have hd : l.drop k = l[k] :: l.drop (k + 1) := List.drop_eq_getElem_cons hkl
      rw [hd] at hu
      generalize hlk : l[k] = x at hu
      obtain ⟨op, at_⟩ := x
      obtain ⟨q, u', rfl, d0, d1, d2, hrest⟩ := hu
      have hs' := hs.out.below hB
      have hi' := hi.out.below hB
      have i1 := hs'.idx oneStrs k (by simpa using hkl)
      have e1 := hs'.cell k (by simpa using hkl)
      have i2 := hi'.idx k (by simpa using hkl)
      have e2 := hi'.cell k (by simpa using hkl)
      simp only [List.getElem_map, hlk] at e1 e2
      replace hd := Lib.hid hd
      replace hlk := Lib.hid hlk
      replace hrest := Lib.hid hrest
      clear hs' hi'
      have gE := Lib.hid (hG.out.below hB)
      generalize valAt (.slice a1 n1 c1) k = A1 at i1 e1
      generalize valAt (.slice a2 n2 c2) k = A2 at i2 e2
      have bv := belowAlloc' wo (.cells #[.pointer none] 104)
      have y1 := cell_keep bv z1
      have y2 := cell_keep bv z2
      have g0 := cell_keep bv d0
      have g1 := cell_keep bv d1
      have s1 := (bv.cell (World.block_lt_of_cell? _ _ e1)).trans e1
      have s2 := (bv.cell (World.block_lt_of_cell? _ _ e2)).trans e2
      have zt : (wo.alloc (.cells #[.pointer none] 104)).cell? ⟨wo.heap.size, 0, none⟩ = some (.pointer none) := by simp
      have ft : (wo.alloc (.cells #[.pointer none] 104)).frozen? ⟨wo.heap.size, 0, none⟩ = false := by simp
      have gv := Lib.hid (gE.out.below bv)
      go_wp2
      obtain ⟨wv, hwv⟩ : ∃ W : World, W = wo.alloc (.cells #[.pointer none] 104) := ⟨_, rfl⟩
      rw [← hwv] at bv y1 y2 g0 g1 s1 s2 zt ft gv ⊢
      clear hwv
      replace z0 := Lib.hid z0
      replace z1 := Lib.hid z1
      replace z2 := Lib.hid z2
      replace d0 := Lib.hid d0
      replace d1 := Lib.hid d1
      replace d2 := Lib.hid d2
      replace e1 := Lib.hid e1
      replace e2 := Lib.hid e2
      refine wp_region_noPanic ?_
      refine wp_region_any (by kernel_rfl) ?_
      change wpAny _ _ _ _ _ _ _ (World.drew _)
      refine takeA (i := 0) (v := ?_) (some 29) rfl rfl (by kernel_rfl) (by kernel_rfl) (by kernel_rfl) (fun _ _ _ h => h) (Or.inl ⟨by rfl, ?_⟩) ?_
      rotate_left
      · intro _; go_simp; try with_reducible rfl
      simp only [Act.put, List.setIfInBounds_toArray, List.set_cons_zero, List.set_cons_succ]
      refine takeA (i := 1) (v := ?_) (some 30) rfl rfl (by kernel_rfl) (by kernel_rfl) (by kernel_rfl) (fun _ _ _ h => h) (Or.inl ⟨by rfl, ?_⟩) ?_
      rotate_left
      · intro _; go_simp; try with_reducible rfl
      simp only [Act.put, List.setIfInBounds_toArray, List.set_cons_zero, List.set_cons_succ]
      refine wpAny_ready (rs := [2]) (by kernel_rfl) (by simp) (AllReady.cons rfl (fun K hK => ?_) AllReady.nil)
      go_simp
      go_at_call 66
      refine (as_keep ⟨q, 0, none⟩ wo wv _ bv rfl gv.out zt ft).mono ?_
      rintro e w6 ⟨rfl, p0, b6⟩
      refine hK _ _ ?_
      clear hK K y1 y2 g0 g1 s1 s2
      have p1 := cell_keep b6 z1.out
      have p2 := cell_keep b6 z2.out
      have p3 := cell_keep b6 d0.out
      have p4 := cell_keep b6 d1.out
      have p5 := (b6.cell (World.block_lt_of_cell? _ _ e1.out)).trans e1.out
      have p6 := (b6.cell (World.block_lt_of_cell? _ _ e2.out)).trans e2.out
      have p7 := cell_keep b6 d2.out
      refine wpAny_of_held (S := fun w' => w' = w6) _ _ _ _ ?_
      refine takeD (i := 3) (v := ?_) (some 32) rfl rfl (by kernel_rfl) (by kernel_rfl) (by kernel_rfl) (fun _ _ _ h => h) (Or.inl ⟨by rfl, ?_⟩) rfl ?_
      rotate_left
      · intro _ hw; subst hw; go_simp; try with_reducible rfl
      simp only [Act.put, List.setIfInBounds_toArray, List.set_cons_zero, List.set_cons_succ]
      refine takeD (i := 4) (v := ?_) (some 33) rfl rfl (by kernel_rfl) (by kernel_rfl) (by kernel_rfl) (fun _ _ _ h => h) (Or.inl ⟨by rfl, ?_⟩) rfl ?_
      rotate_left
      · intro _ hw; subst hw; go_simp; try with_reducible rfl
      simp only [Act.put, List.setIfInBounds_toArray, List.set_cons_zero, List.set_cons_succ]
      refine takeD (i := 5) (v := ?_) (some 34) rfl rfl (by kernel_rfl) (by kernel_rfl) (by kernel_rfl) (fun _ _ _ h => h) (Or.inl ⟨by rfl, ?_⟩) rfl ?_
      rotate_left
      · intro _ hw; subst hw; go_simp; try with_reducible rfl
      simp only [Act.put, List.setIfInBounds_toArray, List.set_cons_zero, List.set_cons_succ]
      refine takeD (i := 6) (v := ?_) (some 35) rfl rfl (by kernel_rfl) (by kernel_rfl) (by kernel_rfl) (fun _ _ _ h => h) (Or.inl ⟨by rfl, ?_⟩) rfl ?_
      rotate_left
      · intro _ hw; subst hw; go_simp; try with_reducible rfl
      simp only [Act.put, List.setIfInBounds_toArray, List.set_cons_zero, List.set_cons_succ]
      refine takeD (i := 7) (v := ?_) (some 36) rfl rfl (by kernel_rfl) (by kernel_rfl) (by kernel_rfl) (fun _ _ _ h => h) (Or.inl ⟨by rfl, ?_⟩) rfl ?_
      rotate_left
      · intro _ hw; subst hw; go_simp; try with_reducible rfl
      simp only [Act.put, List.setIfInBounds_toArray, List.set_cons_zero, List.set_cons_succ]
      refine takeD (i := 8) (v := ?_) (some 37) rfl rfl (by kernel_rfl) (by kernel_rfl) (by kernel_rfl) (fun _ _ _ h => h) (Or.inl ⟨by rfl, ?_⟩) rfl ?_
      rotate_left
      · intro _ hw; subst hw; go_simp; try with_reducible rfl
      simp only [Act.put, List.setIfInBounds_toArray, List.set_cons_zero, List.set_cons_succ]
      refine takeD (i := 9) (v := ?_) (some 38) rfl rfl (by kernel_rfl) (by kernel_rfl) (by kernel_rfl) (fun _ _ _ h => h) (Or.inl ⟨by rfl, ?_⟩) rfl ?_
      rotate_left
      · intro _ hw; subst hw; go_simp; try with_reducible rfl
      simp only [Act.put, List.setIfInBounds_toArray, List.set_cons_zero, List.set_cons_succ]
      refine takeD (i := 10) (v := ?_) (some 39) rfl rfl (by kernel_rfl) (by kernel_rfl) (by kernel_rfl) (fun _ _ _ h => h) (Or.inl ⟨by rfl, ?_⟩) rfl ?_
      rotate_left
      · intro _ hw; subst hw; go_simp; try with_reducible rfl
      simp only [Act.put, List.setIfInBounds_toArray, List.set_cons_zero, List.set_cons_succ]
      refine takeD (i := 11) (v := ?_) (some 40) rfl rfl (by kernel_rfl) (by kernel_rfl) (by kernel_rfl) (fun _ _ _ h => h) (Or.inl ⟨by rfl, ?_⟩) rfl ?_
      rotate_left
      · intro _ hw; subst hw; go_simp; try with_reducible rfl
      simp only [Act.put, List.setIfInBounds_toArray, List.set_cons_zero, List.set_cons_succ]
      refine takeD (i := 12) (v := ?_) (some 41) rfl rfl (by kernel_rfl) (by kernel_rfl) (by kernel_rfl) (fun _ _ _ h => h) (Or.inl ⟨by rfl, ?_⟩) rfl ?_
      rotate_left
      · intro _ hw; subst hw; go_simp; try with_reducible rfl
      simp only [Act.put, List.setIfInBounds_toArray, List.set_cons_zero, List.set_cons_succ]
      refine takeD (i := 13) (v := ?_) (some 42) rfl rfl (by kernel_rfl) (by kernel_rfl) (by kernel_rfl) (fun _ _ _ h => h) (Or.inl ⟨by rfl, ?_⟩) rfl ?_
      rotate_left
      · intro _ hw; subst hw; go_simp; try with_reducible rfl
      simp only [Act.put, List.setIfInBounds_toArray, List.set_cons_zero, List.set_cons_succ]
      refine takeD (i := 14) (v := ?_) (some 43) rfl rfl (by kernel_rfl) (by kernel_rfl) (by kernel_rfl) (fun _ _ _ h => h) (Or.inl ⟨by rfl, ?_⟩) rfl ?_
      rotate_left
      · intro _ hw; subst hw; go_simp; try with_reducible rfl
      simp only [Act.put, List.setIfInBounds_toArray, List.set_cons_zero, List.set_cons_succ]
      refine takeD (i := 15) (v := ?_) (some 44) rfl rfl (by kernel_rfl) (by kernel_rfl) (by kernel_rfl) (fun _ _ _ h => h) (Or.inl ⟨by rfl, ?_⟩) rfl ?_
      rotate_left
      · intro _ hw; subst hw; go_simp; try with_reducible rfl
      simp only [Act.put, List.setIfInBounds_toArray, List.set_cons_zero, List.set_cons_succ]
      refine takeD (i := 16) (v := ?_) (some 45) rfl rfl (by kernel_rfl) (by kernel_rfl) (by kernel_rfl) (fun _ _ _ h => h) (Or.inl ⟨by rfl, ?_⟩) rfl ?_
      rotate_left
      · intro _ hw; subst hw; go_simp; try with_reducible rfl
      simp only [Act.put, List.setIfInBounds_toArray, List.set_cons_zero, List.set_cons_succ]
      refine takeD (i := 17) (v := ?_) (some 46) rfl rfl (by kernel_rfl) (by kernel_rfl) (by kernel_rfl) (fun _ _ _ h => h) (Or.inl ⟨by rfl, ?_⟩) rfl ?_
      rotate_left
      · intro _ hw; subst hw; go_simp; try with_reducible rfl
      simp only [Act.put, List.setIfInBounds_toArray, List.set_cons_zero, List.set_cons_succ]
      refine takeD (i := 18) (v := ?_) (some 47) rfl rfl (by kernel_rfl) (by kernel_rfl) (by kernel_rfl) (fun _ _ _ h => h) (Or.inl ⟨by rfl, ?_⟩) rfl ?_
      rotate_left
      · intro _ hw; subst hw; go_simp; try with_reducible rfl
      simp only [Act.put, List.setIfInBounds_toArray, List.set_cons_zero, List.set_cons_succ]
      refine takeD (i := 19) (v := ?_) (some 48) rfl rfl (by kernel_rfl) (by kernel_rfl) (by kernel_rfl) (fun _ _ _ h => h) (Or.inl ⟨by rfl, ?_⟩) rfl ?_
      rotate_left
      · intro _ hw; subst hw; go_simp; try with_reducible rfl
      simp only [Act.put, List.setIfInBounds_toArray, List.set_cons_zero, List.set_cons_succ]
      refine takeD (i := 20) (v := ?_) (some 49) rfl rfl (by kernel_rfl) (by kernel_rfl) (by kernel_rfl) (fun _ _ _ h => h) (Or.inl ⟨by rfl, ?_⟩) rfl ?_
      rotate_left
      · intro _ hw; subst hw; go_simp; try with_reducible rfl
      simp only [Act.put, List.setIfInBounds_toArray, List.set_cons_zero, List.set_cons_succ]
      refine takeD (i := 21) (v := ?_) (some 50) rfl rfl (by kernel_rfl) (by kernel_rfl) (by kernel_rfl) (fun _ _ _ h => h) (Or.inl ⟨by rfl, ?_⟩) rfl ?_
      rotate_left
      · intro _ hw; subst hw; go_simp; try with_reducible rfl
      simp only [Act.put, List.setIfInBounds_toArray, List.set_cons_zero, List.set_cons_succ]
      refine takeD (i := 22) (v := ?_) (some 51) rfl rfl (by kernel_rfl) (by kernel_rfl) (by kernel_rfl) (fun _ _ _ h => h) (Or.inl ⟨by rfl, ?_⟩) rfl ?_
      rotate_left
      · intro _ hw; subst hw; go_simp; try with_reducible rfl
      simp only [Act.put, List.setIfInBounds_toArray, List.set_cons_zero, List.set_cons_succ]
      refine takeD (i := 23) (v := ?_) (some 52) rfl rfl (by kernel_rfl) (by kernel_rfl) (by kernel_rfl) (fun _ _ _ h => h) (Or.inl ⟨by rfl, ?_⟩) rfl ?_
      rotate_left
      · intro _ hw; subst hw; go_simp; try with_reducible rfl
      simp only [Act.put, List.setIfInBounds_toArray, List.set_cons_zero, List.set_cons_succ]
      refine takeD (i := 24) (v := ?_) (some 53) rfl rfl (by kernel_rfl) (by kernel_rfl) (by kernel_rfl) (fun _ _ _ h => h) (Or.inl ⟨by rfl, ?_⟩) rfl ?_
      rotate_left
      · intro _ hw; subst hw; go_simp; try with_reducible rfl
      simp only [Act.put, List.setIfInBounds_toArray, List.set_cons_zero, List.set_cons_succ]
      refine takeD (i := 25) (v := ?_) (some 54) rfl rfl (by kernel_rfl) (by kernel_rfl) (by kernel_rfl) (fun _ _ _ h => h) (Or.inl ⟨by rfl, ?_⟩) rfl ?_
      rotate_left
      · intro _ hw; subst hw; go_simp; try with_reducible rfl
      simp only [Act.put, List.setIfInBounds_toArray, List.set_cons_zero, List.set_cons_succ]
      refine takeD (i := 26) (v := ?_) (some 55) rfl rfl (by kernel_rfl) (by kernel_rfl) (by kernel_rfl) (fun _ _ _ h => h) (Or.inl ⟨by rfl, ?_⟩) rfl ?_
      rotate_left
      · intro _ hw; subst hw; go_simp; try with_reducible rfl
      simp only [Act.put, List.setIfInBounds_toArray, List.set_cons_zero, List.set_cons_succ]
      refine takeD (i := 27) (v := ?_) (some 56) rfl rfl (by kernel_rfl) (by kernel_rfl) (by kernel_rfl) (fun _ _ _ h => h) (Or.inl ⟨by rfl, ?_⟩) rfl ?_
      rotate_left
      · intro _ hw; subst hw; go_simp; try with_reducible rfl
      simp only [Act.put, List.setIfInBounds_toArray, List.set_cons_zero, List.set_cons_succ]
      refine takeD (i := 28) (v := ?_) (some 57) rfl rfl (by kernel_rfl) (by kernel_rfl) (by kernel_rfl) (fun _ _ _ h => h) (Or.inl ⟨by rfl, ?_⟩) rfl ?_
      rotate_left
      · intro _ hw; subst hw; go_simp; try with_reducible rfl
      simp only [Act.put, List.setIfInBounds_toArray, List.set_cons_zero, List.set_cons_succ]
      refine takeD (i := 29) (v := ?_) (some 58) rfl rfl (by kernel_rfl) (by kernel_rfl) (by kernel_rfl) (fun _ _ _ h => h) (Or.inl ⟨by rfl, ?_⟩) rfl ?_
      rotate_left
      · intro _ hw; subst hw; go_simp; try with_reducible rfl
      simp only [Act.put, List.setIfInBounds_toArray, List.set_cons_zero, List.set_cons_succ]
      refine takeD (i := 30) (v := ?_) (some 59) rfl rfl (by kernel_rfl) (by kernel_rfl) (by kernel_rfl) (fun _ _ _ h => h) (Or.inl ⟨by rfl, ?_⟩) rfl ?_
      rotate_left
      · intro _ hw; subst hw; go_simp; try with_reducible rfl
      simp only [Act.put, List.setIfInBounds_toArray, List.set_cons_zero, List.set_cons_succ]
      refine takeD (i := 31) (v := ?_) (some 60) rfl rfl (by kernel_rfl) (by kernel_rfl) (by kernel_rfl) (fun _ _ _ h => h) (Or.inl ⟨by rfl, ?_⟩) rfl ?_
      rotate_left
      · intro _ hw; subst hw; go_simp; try with_reducible rfl
      simp only [Act.put, List.setIfInBounds_toArray, List.set_cons_zero, List.set_cons_succ]
      refine wpAnyH_done (by kernel_rfl) ?_ _
      refine NoPanic.normal ?_
      have hr6 := Lib.hid (hrest.out.below b6)
      have hB6 := Lib.hid (Below.stepL hB b6)
      clear p1 p2 p3 p4 p5 p6
      go_wp2
      go_roundw
      case rel => exact ⟨k + 1, by omega, by go_num, hr6.out, hB6.out⟩
      case measure => simp [intOf]; omega
    · obtain rfl : k = l.length := by omega
      rw [List.drop_length] at hu
      obtain rfl : _ = rootV r n := hu
      obtain ⟨i, hi, hcmp⟩ := Option.map_eq_some_iff.1 Errs.compE
      obtain ⟨j, hj, hjs⟩ := Option.map_eq_some_iff.1 Errs.sizeE
      have heq := run_eql_iface_ptr_same (P := Tryd.prog) wo (r n.toNat) Errs.uErr Errs.uES hi hcmp hj
      clear hi hcmp hj hjs
      have hgo := Lib.hid (hg.out.below hB)
      have hBf := Lib.hid (Below.stepL b0 hB)
      go_wp2_with fail
      refine (raw_root r n _ hgo.out h1 h11).mono ?_
      rintro e w1 ⟨rfl, rfl⟩
      go_wp2
      go_ret
      exact ⟨_, rfl, hBf.out, rfl⟩

/-- edenraw.Is at an error that is what it must be. -/
theorem raw_is (r : Nat → Addr) (t : PErr) (v e : Value) (w : World) (hg : Glob r w) (hG : GlobE w) (hv : ErrIs r w t v) (he : EAt w t e) (ht : t.Fine) :
    Calls Tryd.prog 25 #[v, e] w (Ret1 (fun x _ => x = .bool true) w) := by
  match t, hv, he, ht with
  | none, hv, he, _ =>
    obtain rfl := ErrIs.none_eq hv
    obtain rfl : e = zErr := he
    exact raw_is_none w
  | some (n, l), hv, he, ⟨h1, h11, hl⟩ => exact raw_is_some r n l v e w hg hG hv he h1 h11 hl

end Go.Proofs.YtdldadgnggaopaaDoor
