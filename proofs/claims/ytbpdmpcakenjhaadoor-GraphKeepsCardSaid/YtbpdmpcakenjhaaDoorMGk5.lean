/-
  Walks: slices.Values, its iterator, slices.AppendSeq, slices.Collect, slices.Sorted over it (after the kit's worked examples GgSlicesIterAtTheDump and GgPosAtTheDump).
  Walks: slices.Sort (its contract off the shelf), slices.Sorted over slices.Values.
  Walks: slices.Reverse (its contract off the shelf), word.Back.
  Walk: graph.first: breadth first.
  Walk: graph.Live.
  Walk: graph.Path.
  Walk: graph.Loop.
  The chapter's graph: its parts, its live vertices, its way from 0 to 4, as plain mathematics; the walk that makes it.
  Walks: the helpers of edenlaw12: awake, heavy, vertex, leads, goes.
-/
import Derived.Test.YtbpdmpcakenjhaaDoorMGk4
import Derived.RangeFuncBox
import Derived.RangeFuncLeaves
import Derived.Shelf.Abstract
import Derived.OwnWalkIn
import Derived.TacticsInMore
import Derived.LoopNIn
import Derived.LoopIn
import Derived.Maps.AppendAt
import Derived.Ground.SlgmProg
import Derived.Shelf.SlGeneric
import Derived.Shelf.SortM.Plain
import Derived.Shelf.SortM.SortNone
import Derived.Lib.SlKeysI
import Derived.Ground.NamesProg
import Derived.Shelf.Slices.Cells
import Derived.Deep.LoopGhost
import Derived.Deep.DeepCutAuto
namespace Go.Proofs.YtbpdmpcakenjhaaDoor
open Go.RowKit Go.Shelf
attribute [local go_sem] Oper.semAt_some
set_option maxRecDepth 100000

set_option maxHeartbeats 2000000 in
/-- The iterator of slices.Values: for every loop body that keeps what lay below n0. -/
theorem vals1_in (F : Fence) (n : Nat) (hF : F.fn 99) (hro : F.round = none) (hn : 1 ≤ n) (l Bs n0 : Nat) (v : Value) (zs : List Int) (J Jx : List Int → World → Prop)
    (hY : ∀ pre x W, J pre W → pre.length < zs.length → YieldAt F (n - 1) Tryd.prog l #[.int .i64 x] W fun e W' =>
      (e = .returned (.bool true) ∧ J (pre ++ [x]) W' ∧ Below n0 W W') ∨ (e = .returned (.bool false) ∧ Jx (pre ++ [x]) W'))
    (W : World) (hBs : W.cell? ⟨Bs, 0, none⟩ = some v) (hv : IntsAt W v zs) (hb : ∀ i, i < zs.length → (valAt v i).block < n0) (h0 : J [] W) :
    CallsIn F n Tryd.prog 99 #[.func (.yield l) #[] #[], .pointer (some ⟨Bs, 0, none⟩)] W fun e W' => (∃ u, e = .returned u) ∧
      ((∃ ys, ys = zs ∧ J ys W') ∨ (∃ pre, pre <+: zs ∧ Jx pre W')) := by
  have hlen := hv.len
  have hmax := hv.len_le
  replace hv := Lib.hid hv
  refine callsIn_of_wp Tryd.func99 rfl hF ?_ hro
  simp only [Tryd.ntmps99, List.size_toArray, List.length_cons, List.length_nil, Nat.reduceAdd, Nat.reduceSub, Array.replicate_succ, Array.replicate_zero, List.push_toArray, List.append_toArray, List.nil_append, List.cons_append]
  gi_wp2
  gi_loopw [7] (fun i wr => ∃ k : Nat, k ≤ zs.length ∧ i = .int .i64 k ∧ J (zs.take k) wr ∧ Below n0 W wr)
    (fun i _ => zs.length - (intOf i).toNat)
  case atStart => exact ⟨0, Nat.zero_le _, rfl, h0, Below.refl _ _⟩
  case round =>
    obtain ⟨k, hk, rfl, hJs, hnx⟩ := hrel
    by_cases hlt : k < zs.length
    · have i1 := hv.out.idx k hlt
      have c1 := (hnx.cell (hb k hlt)).trans (hv.out.cell k hlt)
      have ht := Lib.hid (take_snoc zs k hlt)
      obtain ⟨x, hx⟩ : ∃ x, x = zs[k] := ⟨_, rfl⟩
      rw [← hx] at c1 ht
      clear hx
      obtain ⟨fn, tmps, assign, body, hy, hR⟩ := hY _ x wr hJs (by simp; omega)
      replace hJs := Lib.hid hJs
      gi_wp2
      refine hR.mono ?_
      rintro e W3 (⟨rfl, hJ3, hk3⟩ | ⟨rfl, hJx3⟩)
      · replace hJ3 := Lib.hid hJ3
        gi_wp2
        go_roundw
        case rel => exact ⟨k + 1, by omega, by go_num, by rw [ht.out]; exact hJ3.out, hnx.trans hk3⟩
        case measure => simp [intOf]; omega
      · replace hJx3 := Lib.hid hJx3
        gi_wp2
        refine bodyPost_ret (results_none rfl _ _ _) rfl ?_
        exact ⟨⟨_, rfl⟩, .inr ⟨_, by rw [← ht.out]; exact List.take_prefix _ _, hJx3.out⟩⟩
    · obtain rfl : k = zs.length := by omega
      rw [List.take_length] at hJs
      replace hJs := Lib.hid hJs
      gi_wp2
      go_end0
      exact ⟨⟨_, rfl⟩, .inl ⟨_, rfl, hJs.out⟩⟩

/-- slices.Values(s): the slice is boxed; the function value captures the box. -/
theorem vals_any (a : Option Addr) (n c : Nat) (w : World) :
    Calls Tryd.prog 80 #[.slice a n c] w fun e w' => e = .returned (.func (.func 99) #[] #[.pointer (some ⟨w.heap.size, 0, none⟩)]) ∧ w.alloc (.cells #[.slice a n c] 22) = w' := by
  go_enter Tryd.func80, Tryd.ntmps80
  go_wp2
  go_ret
  exact ⟨rfl, rfl⟩

theorem vals_stops (F : Fence) (n : Nat) (hF : F.fn 99) (hro : F.round = none) (hn : 1 ≤ n) (Bs n0 : Nat) (v : Value) (zs : List Int) (w : World) (hBs : Bs < w.heap.size)
    (hc : w.cell? ⟨Bs, 0, none⟩ = some v) (hv : IntsAt w v zs) (hb : ∀ i, i < zs.length → (valAt v i).block < n0) :
    SeqStopsK F n Tryd.prog 99 #[.pointer (some ⟨Bs, 0, none⟩)] (fun x : Int => #[Value.int .i64 x]) (Below n0) (fun ys => ys = zs) (fun pre => pre <+: zs) zs.length w := fun l J Jx W hW _ _ hY h0 =>
  vals1_in F n hF hro hn l Bs n0 v zs J Jx hY W ((hW.cell (p := ⟨Bs, 0, none⟩) hBs).trans hc) (hv.below hW) hb h0

set_option maxHeartbeats 2000000 in
/-- slices.AppendSeq(nil, slices.Values(s)): a new list of the same numbers. -/
theorem appendSeq_in (F : Fence) (n : Nat) (hA : F.fn 104) (hV : F.fn 99) (hro : F.round = none) (hn : 3 ≤ n) (Bs : Nat) (v : Value) (zs : List Int) (hlen : zs.length ≤ 17592186044416) (w : World)
    (hBs : Bs < w.heap.size) (hc : w.cell? ⟨Bs, 0, none⟩ = some v) (hv : IntsAt w v zs) :
    CallsIn F n Tryd.prog 104 #[.slice none 0 0, .func (.func 99) #[] #[.pointer (some ⟨Bs, 0, none⟩)]] w fun e w' => ∃ x, e = .returned x ∧ OwnI w.heap.size w' x zs ∧ Below w.heap.size w w' := by
  have h1 : 1 ≤ n := by omega
  obtain ⟨i0, hi, hz0, hz1, hz2⟩ := info_parts iInt
  refine callsIn_of_wp_marks Tryd.func104 rfl hA ?_ hro
  simp only [Tryd.ntmps104, List.size_toArray, List.length_cons, List.length_nil, Nat.reduceAdd, Nat.reduceSub, Array.replicate_succ, Array.replicate_zero, List.push_toArray, List.append_toArray, List.nil_append, List.cons_append]
  replace hv := Lib.hid hv
  gi_wp2
  have bO := Boxed.new w 22 (.slice none 0 0)
  have hB0 : Below w.heap.size w (w.alloc (.cells #[.slice none 0 0] 22)) := (Below.refl _ w).alloc (Nat.le_refl _) _
  refine wpIn_rangeFunc_ownG hro h1 (gf := 99) (lb := #[.pointer (some ⟨Bs, 0, none⟩)]) rfl hV (enters_of Tryd.func99 (by kernel_rfl) rfl)
    (vals_stops F (n - 1) hV hro (by omega) Bs w.heap.size v zs _ (by simp; omega) ((hB0.cell (p := ⟨Bs, 0, none⟩) hBs).trans hc) (hv.out.below hB0) (fun i hi => hv.out.blk i hi)) belowK_t (belowK_b (by simp)) (Below.refl _ _) (fun _ => rfl)
    (fun pre W => (∃ v, Boxed W w.heap.size 22 v ∧ W.ownsRow w.heap.size 3 1 v pre.length (pre.map (Value.int .i64)) ∧ (v = .slice none 0 0 ↔ pre = [])) ∧ Below w.heap.size w W)
    (fun _ _ _ => False)
    (OwnFrom.and (Own.from (holdsRow_own w.heap.size w.heap.size 22 3 1 (fun pre => pre.length) (fun pre => pre.map (Value.int .i64)) (fun pre v => v = .slice none 0 0 ↔ pre = [])) _) (ownFrom_below (Nat.le_refl _) (by simp)))
    (fun _ _ _ _ _ hs _ _ => hs)
    ⟨⟨_, bO, World.ownsRow_nil _ _ _ _, by simp⟩, hB0⟩
    (fun x => { tmps := #[.slice none 0 0, .func (.func 99) #[] #[.pointer (some ⟨Bs, 0, none⟩)], .pointer (some ⟨w.heap.size, 0, none⟩), undef, .slice none 0 0, .int .i64 x, .func (.func 99) #[] #[.pointer (some ⟨Bs, 0, none⟩)], .int .i64 x, undef, undef, undef, undef, undef], defers := [] }) ?assign ?body ?done ?stop
  case assign =>
    intro l x W K hK
    gi_wp2
    exact hK
  case body =>
    rintro l pre x W ⟨⟨v, hv, hrow, hnil⟩, hB⟩ hlt
    have hc := hv.cell
    gi_wp2_with (gi_at_builtin; refine wpListIn_append_own _ rfl _ _ 22 rfl w.heap.size 3 i0 (.int .i64 0) 1 8 uInts hi hz0 hz1 hz2 rfl (by decide) _ _ _ rfl (hrow.alloc _) ⟨W.heap.size, 0, none⟩ 1 1 [.int .i64 x] rfl rfl (cell_one_new _ _ _) (by simp [Value.oneCell']) (by unfold maxLen; omega) (by omega) (by have := hB.size; simp; omega) ?_; intro v' w1 hown' hgrow _; obtain ⟨g', cap', rfl⟩ := ownsRow_succ hown'; obtain ⟨hv1, hv2, hr2, hk2, hb2⟩ := hv.appended (by decide) hrow hB.size (Nat.le_refl _) hown' hgrow; have hc1 := hv1.cell; have hf1 := hv1.frozen)
    exact ⟨hk2.from _, hb2, ⟨_, hv2, by simpa using hr2, by simp⟩, hB.trans hb2⟩
  case done =>
    rintro D ys W hD rfl ⟨⟨v, hv, hrow, hnil⟩, hB⟩ hK
    have hc := hv.cell
    gi_wp2
    refine ⟨by simp, .inl ⟨_, _, rfl, run_takeDeferred hK, ?_⟩⟩
    exact ⟨_, results_tmp rfl _ _ _, v, rfl, ownsRow_putObj hrow _ hK rfl, hB.trans (belowK_b (w := w) (Nat.le_refl _) W D _ _ (by simp at hD; omega) hK rfl rfl)⟩
  case stop =>
    rintro D c pre W _ _ h _
    exact h.elim

theorem collect_any (Bs : Nat) (v : Value) (zs : List Int) (hlen : zs.length ≤ 17592186044416) (w : World) (hBs : Bs < w.heap.size) (hc : w.cell? ⟨Bs, 0, none⟩ = some v) (hv : IntsAt w v zs) :
    Calls Tryd.prog 97 #[.func (.func 99) #[] #[.pointer (some ⟨Bs, 0, none⟩)]] w (Ret1 (fun x w' => OwnI w.heap.size w' x zs) w) := by
  have hA := (callsIn_wide (n := 6)).1 (appendSeq_in Fence.wide 6 trivial trivial rfl (by omega) Bs v zs hlen w hBs hc hv)
  go_enter Tryd.func97, Tryd.ntmps97
  go_wp2_with fail
  refine hA.mono ?_
  clear hA
  rintro e w1 ⟨x, rfl, ho, hb⟩
  replace ho := Lib.hid ho
  go_wp2
  go_ret
  exact ⟨_, rfl, hb, ho.out⟩
end Go.Proofs.YtbpdmpcakenjhaaDoor

namespace Go.Proofs.YtbpdmpcakenjhaaDoor
open Go.RowKit Go.Shelf Go.Sort
set_option maxRecDepth 100000

def Tryd.laysSort_ren : Go.Shelf.Ren := ⟨fun | 5 => 98 | 8 => 106 | 7 => 105 | 19 => 116 | 20 => 117 | 10 => 107 | 11 => 108 | 12 => 109 | 13 => 110 | 14 => 111 | 15 => 112 | 16 => 113 | 17 => 114 | 18 => 115 | 30 => 118 | 31 => 119 | 32 => 120 | 33 => 121 | 34 => 122 | 35 => 123 | 40 => 124 | n => n, fun | 23 => 22 | 25 => 3 | 3 => 3 | 32 => 109 | 22 => 22 | 0 => 0 | 44 => 131 | 46 => 134 | 4 => 4 | 36 => 158 | 35 => 157 | 41 => 85 | 5 => 5 | 9 => 9 | 53 => 165 | 57 => 169 | 63 => 171 | 64 => 172 | n => n, fun | n => n⟩
theorem Tryd.laysSort : Go.Proofs.SlLaysM.n5 Tryd.prog Tryd.laysSort_ren := {
  mixed := by kernel_rfl
  f5 := ⟨Tryd.f98.name, by decide, Tryd.func98.trans (congrArg some (by kernel_rfl))⟩
  f7 := ⟨Tryd.f105.name, by decide, Tryd.func105.trans (congrArg some (by kernel_rfl))⟩
  f8 := Tryd.func106.trans (congrArg some (by kernel_rfl))
  f10 := ⟨Tryd.f107.name, by decide, Tryd.func107.trans (congrArg some (by kernel_rfl))⟩
  f11 := ⟨Tryd.f108.name, by decide, Tryd.func108.trans (congrArg some (by kernel_rfl))⟩
  f12 := ⟨Tryd.f109.name, by decide, Tryd.func109.trans (congrArg some (by kernel_rfl))⟩
  f13 := ⟨Tryd.f110.name, by decide, Tryd.func110.trans (congrArg some (by kernel_rfl))⟩
  f14 := ⟨Tryd.f111.name, by decide, Tryd.func111.trans (congrArg some (by kernel_rfl))⟩
  f15 := ⟨Tryd.f112.name, by decide, Tryd.func112.trans (congrArg some (by kernel_rfl))⟩
  f16 := ⟨Tryd.f113.name, by decide, Tryd.func113.trans (congrArg some (by kernel_rfl))⟩
  f17 := ⟨Tryd.f114.name, by decide, Tryd.func114.trans (congrArg some (by kernel_rfl))⟩
  f18 := ⟨Tryd.f115.name, by decide, Tryd.func115.trans (congrArg some (by kernel_rfl))⟩
  f19 := Tryd.func116.trans (congrArg some (by kernel_rfl))
  f20 := Tryd.func117.trans (congrArg some (by kernel_rfl))
  f30 := ⟨Tryd.f118.name, by decide, Tryd.func118.trans (congrArg some (by kernel_rfl))⟩
  f31 := Tryd.func119.trans (congrArg some (by kernel_rfl))
  f32 := Tryd.func120.trans (congrArg some (by kernel_rfl))
  f33 := ⟨Tryd.f121.name, by decide, Tryd.func121.trans (congrArg some (by kernel_rfl))⟩
  f34 := ⟨Tryd.f122.name, by decide, Tryd.func122.trans (congrArg some (by kernel_rfl))⟩
  f35 := ⟨Tryd.f123.name, by decide, Tryd.func123.trans (congrArg some (by kernel_rfl))⟩
  f40 := ⟨Tryd.f124.name, by decide, Tryd.func124.trans (congrArg some (by kernel_rfl))⟩
  t0 := Tryd.underlying0
  a0 := Tryd.isAgg0
  z0 := Tryd.sizeOf0
  v0 := Tryd.zeroValue0
  t3 := Tryd.underlying3
  a3 := Tryd.isAgg3
  z3 := Tryd.sizeOf3
  v3 := Tryd.zeroValue3
  t4 := Tryd.underlying4
  a4 := Tryd.isAgg4
  z4 := Tryd.sizeOf4
  v4 := Tryd.zeroValue4
  t5 := Tryd.underlying5
  a5 := Tryd.isAgg5
  z5 := Tryd.sizeOf5
  v5 := Tryd.zeroValue5
  t9 := Tryd.underlying9
  a9 := Tryd.isAgg9
  z9 := Tryd.sizeOf9
  v9 := Tryd.zeroValue9
  t22 := Tryd.underlying22
  a22 := Tryd.isAgg22
  z22 := Tryd.sizeOf22
  v22 := Tryd.zeroValue22
  t23 := Tryd.underlying22
  a23 := Tryd.isAgg22
  z23 := Tryd.sizeOf22
  v23 := Tryd.zeroValue22
  t25 := Tryd.underlying3
  a25 := Tryd.isAgg3
  z25 := Tryd.sizeOf3
  v25 := Tryd.zeroValue3
  t32 := Tryd.underlying109
  a32 := Tryd.isAgg109
  z32 := Tryd.sizeOf109
  v32 := Tryd.zeroValue109
  t35 := Tryd.underlying157
  a35 := Tryd.isAgg157
  z35 := Tryd.sizeOf157
  v35 := Tryd.zeroValue157
  t36 := Tryd.underlying158
  a36 := Tryd.isAgg158
  z36 := Tryd.sizeOf158
  v36 := Tryd.zeroValue158
  t41 := Tryd.underlying85
  a41 := Tryd.isAgg85
  z41 := Tryd.sizeOf85
  v41 := Tryd.zeroValue85
  t44 := Tryd.underlying131
  a44 := Tryd.isAgg131
  z44 := Tryd.sizeOf131
  v44 := Tryd.zeroValue131
  t46 := Tryd.underlying134
  a46 := Tryd.isAgg134
  z46 := Tryd.sizeOf134
  v46 := Tryd.zeroValue134
  t53 := Tryd.underlying165
  a53 := Tryd.isAgg165
  z53 := Tryd.sizeOf165
  v53 := Tryd.zeroValue165
  t57 := Tryd.underlying169
  a57 := Tryd.isAgg169
  z57 := Tryd.sizeOf169
  v57 := Tryd.zeroValue169
  t63 := Tryd.underlying171
  a63 := Tryd.isAgg171
  z63 := Tryd.sizeOf171
  v63 := Tryd.zeroValue171
  t64 := Tryd.underlying172
  a64 := Tryd.isAgg172
  z64 := Tryd.sizeOf172
  v64 := Tryd.zeroValue172 }

/-- Ascending. -/
def srt (xs : List Int) : List Int := xs.mergeSort fun x y => decide (x ≤ y)
theorem srt_length (xs : List Int) : (srt xs).length = xs.length := by simp [srt]

/-- slices.Sort at a list of one's own. -/
theorem sort_own (B : Nat) (v : Value) (xs : List Int) (w : World) (h : OwnI B w v xs) (hl : xs.length ≤ 17592186044416) (hB : B ≤ w.heap.size) :
    Calls Tryd.prog 98 #[v] w fun e w' => e = .returned (.tuple #[]) ∧ OwnI B w' v (srt xs) ∧ Below B w w' := by
  rcases h.2 with ⟨rfl, hn⟩ | ⟨g, cap, cur, rfl, hb, hg, hn, hcm, hs, ht⟩
  · obtain rfl := List.length_eq_zero_iff.1 hn
    refine Calls.mono (AnyM.slices_Sort_int_none Tryd.laysSort none 0 w) ?_
    rintro e w' ⟨rfl, rfl⟩
    exact ⟨rfl, by simpa [srt] using h, Below.refl _ _⟩
  · have hlen : xs.length < 4611686018427387904 := by omega
    refine Calls.mono (AnyM.slices_Sort_int Tryd.laysSort g 0 cap xs w (holds_of_block_i hg (by simpa using ht)) (Array.getElem?_eq_some_iff.1 hg).1 hlen) ?_
    rintro e w' ⟨rfl, n, os, rfl⟩
    refine ⟨rfl, ?_, (Below.refl _ _).grown (grownBy_sorted_i _) hB (fun j hj => by cases hj; exact hb)⟩
    have := ownsRow_sorted_i (n := n) (os := os) (ts := srt xs) (srt_length xs) hb hg hn hcm hs
    unfold OwnI
    rw [srt_length]
    exact this

theorem sorted_any (Bs : Nat) (v : Value) (zs : List Int) (hlen : zs.length ≤ 17592186044416) (w : World) (hBs : Bs < w.heap.size) (hc : w.cell? ⟨Bs, 0, none⟩ = some v) (hv : IntsAt w v zs) :
    Calls Tryd.prog 79 #[.func (.func 99) #[] #[.pointer (some ⟨Bs, 0, none⟩)]] w (Ret1 (fun x w' => OwnI w.heap.size w' x (srt zs)) w) := by
  have hA := collect_any Bs v zs hlen w hBs hc hv
  go_enter Tryd.func79, Tryd.ntmps79
  go_wp2_with fail
  refine hA.mono ?_
  clear hA
  rintro e w1 ⟨x, rfl, hb, ho⟩
  have hs := hb.size
  go_wp2_with fail
  refine (sort_own w.heap.size x zs _ ho hlen hs).mono ?_
  rintro e w2 ⟨rfl, ho2, hb2⟩
  replace ho2 := Lib.hid ho2
  go_wp2
  go_ret
  exact ⟨_, rfl, hb.trans hb2, ho2.out⟩
end Go.Proofs.YtbpdmpcakenjhaaDoor

namespace Go.Proofs.YtbpdmpcakenjhaaDoor
open Go.RowKit Go.Shelf
set_option maxRecDepth 100000

def Tryd.laysRev_ren : Go.Shelf.Ren := ⟨fun | 112 => 81 | n => n, fun | 28 => 22 | 3 => 3 | 4 => 4 | 0 => 0 | n => n, fun | n => n⟩
theorem Tryd.laysRev : Go.Proofs.Lays.n112 Tryd.prog Tryd.laysRev_ren := {
  mixed := by kernel_rfl
  f112 := Tryd.func81.trans (congrArg some (by kernel_rfl))
  t0 := Tryd.underlying0
  a0 := Tryd.isAgg0
  z0 := Tryd.sizeOf0
  v0 := Tryd.zeroValue0
  t3 := Tryd.underlying3
  a3 := Tryd.isAgg3
  z3 := Tryd.sizeOf3
  v3 := Tryd.zeroValue3
  t4 := Tryd.underlying4
  a4 := Tryd.isAgg4
  z4 := Tryd.sizeOf4
  v4 := Tryd.zeroValue4
  t28 := Tryd.underlying22
  a28 := Tryd.isAgg22
  z28 := Tryd.sizeOf22
  v28 := Tryd.zeroValue22 }

theorem setCells_own {B g n cap : Nat} {w0 : World} : ∀ (zs : List Int) (o : Nat) (xs : List Int) (w : World), xs.length = n → o + zs.length ≤ n → OwnI B w (.slice (some ⟨g, 0, none⟩) n cap) xs → Below B w0 w →
    OwnI B (w.setCells g o (zs.map (Value.int .i64))) (.slice (some ⟨g, 0, none⟩) n cap) (xs.take o ++ zs ++ xs.drop (o + zs.length)) ∧ Below B w0 (w.setCells g o (zs.map (Value.int .i64)))
  | [], o, xs, w, _, _, h, hb => ⟨by simpa [World.setCells] using h, hb⟩
  | z :: r, o, xs, w, hn, ho, h, hb => by
    have hol : o < xs.length := by simp at ho; omega
    have h1 := h.set o hol z
    have h2 := h.setBelow hb o hol (.int .i64 z)
    rw [valAt_row] at h1 h2
    have ih := setCells_own r (o + 1) (xs.set o z) _ (by simpa using hn) (by simp at ho; omega) h1 h2
    have e : (xs.set o z).take (o + 1) ++ r ++ (xs.set o z).drop (o + 1 + r.length) = xs.take o ++ (z :: r) ++ xs.drop (o + (z :: r).length) := by
      rw [List.take_set, List.drop_set_of_lt (by omega)]
      rw [show (xs.take (o + 1)).set o z = xs.take o ++ [z] by rw [take_snoc xs o hol, List.set_append_right _ _ (by simp; omega)]; simp [show o - min o xs.length = 0 by omega]]
      simp [show o + 1 + r.length = o + (r.length + 1) by omega]
    rw [e] at ih
    exact ih

/-- slices.Reverse at a list of one's own. -/
theorem reverse_own (B : Nat) (v : Value) (xs : List Int) (w : World) (h : OwnI B w v xs) (hl : xs.length ≤ 9223372036854775807) :
    Calls Tryd.prog 81 #[v] w fun e w' => e = .returned (.tuple #[]) ∧ OwnI B w' v xs.reverse ∧ Below B w w' := by
  rcases h.2 with ⟨rfl, hn⟩ | ⟨g, cap, cur, rfl, hb, hg, hn, hm, hs, ht⟩
  · obtain rfl := List.length_eq_zero_iff.1 hn
    refine Calls.mono (Any.slices_Reverse_int_empty Tryd.laysRev none 0 w) ?_
    rintro e w' ⟨rfl, rfl⟩
    exact ⟨rfl, h, Below.refl _ _⟩
  · refine Calls.mono (Any.slices_Reverse_int_cells Tryd.laysRev g 0 xs.length cap xs w (Nat.le_refl _) hl (fun j hj => ?_) (fun j hj => ?_)) ?_
    · have := h.at.cellD j hj
      rw [valAt_row] at this
      simpa using this
    · have := h.frz j hj
      rw [valAt_row] at this
      simpa using this
    · rintro e w' ⟨rfl, q, rfl⟩
      rw [List.take_length]
      have := setCells_own (w0 := w) xs.reverse 0 xs (w.drewN q) rfl (by simp) (h.drewN q) (below_drewN (Below.refl _ _) q)
      simp at this
      simpa using ⟨this.1, this.2⟩

end Go.Proofs.YtbpdmpcakenjhaaDoor

namespace Go.Proofs.YtbpdmpcakenjhaaDoor
open Go.RowKit
set_option maxRecDepth 100000

/-- Plain numbers as ints. -/
def castI (l : List Nat) : List Int := l.map fun (x : Nat) => (x : Int)
theorem castI_len (l : List Nat) : (castI l).length = l.length := by simp [castI]
theorem castI_snoc (l : List Nat) (x : Nat) : castI (l ++ [x]) = castI l ++ [(x : Int)] := by simp [castI]
theorem castI_get {l : List Nat} {i x : Nat} (h : l[i]? = some x) : (castI l).getD i 0 = (x : Int) := by simp [castI, List.getD, h]
theorem castI_reverse (l : List Nat) : castI l.reverse = (castI l).reverse := by simp [castI]
theorem nodup_len : ∀ (n : Nat) (l : List Nat), l.Nodup → (∀ x ∈ l, x < n) → l.length ≤ n
  | 0, l, _, h => by
    cases l with
    | nil => exact Nat.le_refl _
    | cons a l => have := h a List.mem_cons_self; omega
  | n + 1, l, hn, h => by
    have hsub := nodup_len n (l.erase n) (hn.erase n) (fun x hx => by
      have h1 := h x (List.mem_of_mem_erase hx)
      have h2 : x ≠ n := fun e => by subst e; exact (List.Nodup.not_mem_erase hn) hx
      omega)
    have : l.length ≤ (l.erase n).length + 1 := by
      by_cases hm : n ∈ l
      · have := List.length_erase_of_mem hm; omega
      · rw [List.erase_of_not_mem hm]; omega
    omega
/-- The arrows from the least on, as plain numbers. -/
def srtN (l : List Int) : List Nat := (srt l).map Int.toNat
theorem srt_mem (l : List Int) (x : Int) : x ∈ srt l ↔ x ∈ l := by unfold srt; exact (List.mergeSort_perm l _).mem_iff
theorem srt_sorted (l : List Int) : (srt l).Pairwise (· ≤ ·) := by
  have := List.pairwise_mergeSort (le := fun (x y : Int) => decide (x ≤ y)) (fun a b c h1 h2 => by simp at *; omega) (fun a b => by simp; omega) l
  unfold srt
  exact this.imp (fun h => by simpa using h)
theorem srtN_sorted (l : List Int) (hp : ∀ x ∈ l, 0 ≤ x) : (srtN l).Pairwise (· ≤ ·) := by
  unfold srtN
  rw [List.pairwise_map]
  refine (srt_sorted l).imp_of_mem fun {a b} ha hb h => ?_
  have := hp a ((srt_mem l a).1 ha)
  omega
theorem srtN_mem (l : List Int) (t : Nat) : t ∈ srtN l ↔ t ∈ l.map Int.toNat := by
  unfold srtN
  simp only [List.mem_map, srt_mem]
theorem srtN_len (l : List Int) : (srtN l).length = l.length := by simp [srtN, srt_length]
theorem srtN_get (l : List Int) (hp : ∀ x ∈ l, 0 ≤ x) (j : Nat) (hj : j < l.length) : (srt l).getD j 0 = ((srtN l).getD j 0 : Int) := by
  have hj' : j < (srt l).length := by rw [srt_length]; exact hj
  have h0 := hp _ ((srt_mem l _).1 (List.getElem_mem hj'))
  simp only [srtN, List.getD_eq_getElem?_getD, List.getElem?_map, List.getElem?_eq_getElem hj', Option.map_some, Option.getD_some]
  omega

theorem tabI_neg1 (n : Nat) : tabI n (fun _ => -1) = List.replicate n (-1) := by
  unfold tabI; apply List.ext_getElem <;> simp
theorem rowsE (B : Nat) (w : World) : Rows B w (fun _ => none) := ⟨fun _ _ h => (by cases h), fun _ _ _ _ h => (by cases h)⟩
/-- What first leaves. -/
def FirstPost (w : World) (adj : Nat → List Nat) (a b : Nat) (x : Value) (w' : World) : Prop :=
  (∃ u, IsFirst adj a b u ∧ OwnI w.heap.size w' x (castI u)) ∨ (¬ Goes adj a b ∧ x = .slice none 0 0)
/-- The search's memory. -/
structure FN (f : Names) (cv qv : Value) (n : Nat) (came : Nat → Int) (q : List Nat) : Prop where
  came : f (1, 0) = some (rowI cv (tabI n came))
  queue : f (2, 0) = some (rowI qv (castI q))
section
variable {B : Nat} {w : World} {f : Names} {cv qv : Value} {n : Nat} {came : Nat → Int} {q : List Nat}
theorem FN.congr {f' : Names} (h : FN f cv qv n came q) (e1 : f' (1, 0) = f (1, 0)) (e2 : f' (2, 0) = f (2, 0)) : FN f' cv qv n came q := ⟨e1.trans h.came, e2.trans h.queue⟩
/-- came[t] = v. -/
theorem FN.set (h : FN f cv qv n came q) (hr : Rows B w f) (t : Nat) (ht : t < n) (v : Int) : ∃ f', Rows B (w.setCell (valAt cv t) (.int .i64 v)) f' ∧ FN f' cv qv n (updN came t v) q ∧ ∀ i, i ≠ (1, 0) → f' i = f i := by
  have hs := hr.setI h.came t (by rw [tabI_len]; exact ht) v
  rw [tabI_upd] at hs
  exact ⟨_, hs, ⟨upd_same _ _ _, by rw [upd_ne _ _ (by simp)]; exact h.queue⟩, fun i hi => upd_ne _ _ hi⟩
/-- queue = append(queue, t). -/
theorem FN.push (h : FN f cv qv n came q) (hr : Rows B w f) {w1 : World} {qv' : Value} (t : Nat) (ho : OwnI B w1 qv' (castI q ++ [(t : Int)]))
    (hal : (roomOf qv' = roomOf qv ∧ w.grownBy w1 qv.ownBlock) ∨ (∃ k, qv'.ownBlock = some k ∧ w.heap.size ≤ k ∧ w.grownBy w1 none)) : ∃ f', Rows B w1 f' ∧ FN f' cv qv' n came (q ++ [t]) ∧ ∀ i, i ≠ (2, 0) → f' i = f i := by
  have hO := hr.ownI h.queue
  have hg : w.grownBy w1 qv.ownBlock := grown_via (hal.imp (·.2) (fun ⟨_, _, _, q⟩ => q))
  have hob : qv'.ownBlock = qv.ownBlock ∨ ∃ k, qv'.ownBlock = some k ∧ w.heap.size ≤ k := by
    rcases hal with ⟨q, _⟩ | ⟨k, h1, h2, _⟩
    · obtain ⟨a1, n1, c1, e1⟩ := hO.at.shape
      obtain ⟨a2, n2, c2, e2⟩ := ho.at.shape
      exact .inl (ownBlock_of_room e1 e2 q)
    · exact .inr ⟨k, h1, h2⟩
  exact ⟨_, hr.grown (r' := rowI qv' (castI q ++ [(t : Int)])) h.queue hg ho hob, ⟨by rw [upd_ne _ _ (by simp)]; exact h.came, by rw [upd_same, castI_snoc]⟩, fun i hi => upd_ne _ _ hi⟩
end

set_option maxHeartbeats 4000000 in
theorem first_any (na : Option Addr) (nc : Nat) (G : List (List Int)) (a b : Nat) (w : World) (h : ListsAt w (.slice na G.length nc) G) (hok : GraphOk G) (hn : G.length ≤ 8200) (ha : a < G.length) (hb : b < G.length) (hsz : ∀ k, k < G.length → (G.getD k []).length ≤ 17592186044416) :
    Calls Tryd.prog 52 #[.slice na G.length nc, .int .i64 a, .int .i64 b] w (Ret1 (FirstPost w (adjOf G) a b) w) := by
  have b0 := belowAlloc w (.cells #[.int .i64 (-1)] 3)
  have hI := (OwnI.lit w.heap.size w (Nat.le_refl _) [-1] (by simp [maxLen]) #[.int .i64 (-1)] rfl 1 rfl).at
  have hRep := repeat_any _ (-1) G.length _ hI (by omega)
  have hinit := BBase.init (adjOf G) a
  replace hI := Lib.hid hI
  replace h := Lib.hid h
  replace hok := Lib.hid hok
  replace hsz := Lib.hid hsz
  replace hinit := Lib.hid hinit
  replace hRep := Lib.hid hRep
  go_enter Tryd.func52, Tryd.ntmps52
  go_wp2_with fail
  refine hRep.out.mono ?_
  rintro e w1 ⟨cv, rfl, b1, hcv⟩
  obtain ⟨w0, hw0⟩ : ∃ w0 : World, w0 = w.alloc (.cells #[.int .i64 (-1)] 3) := ⟨_, rfl⟩
  rw [← hw0] at b0 b1 hcv
  rw [← tabI_neg1] at hcv
  clear hRep hI hw0
  have b01 := Below.step b0 b1
  have R1 := (rowsE w.heap.size w0).add (i := (1, 0)) (r' := rowI cv (tabI G.length fun _ => -1)) b1 (hcv.mono b0.size) (fun k hk => (hcv.lt k hk).1)
  have iA := fun w' => hcv.at.idx a (by rw [tabI_len]; exact ha) w'
  have cA := hcv.at.cellD a (by rw [tabI_len]; exact ha)
  have fA := hcv.frz a (by rw [tabI_len]; exact ha)
  have kA := (hcv.toV.blkB a (by rw [List.length_map, tabI_len]; exact ha)).2
  have R2 := R1.setI (upd_same _ _ _) a (by rw [tabI_len]; exact ha) (a : Int)
  rw [tabI_upd] at R2
  have b2 : Below w.heap.size w (w1.setCell (valAt cv a) (.int .i64 (a : Int))) := b01.setCell (Nat.le_trans b0.size kA) _
  generalize valAt cv a = ca at *
  generalize (tabI G.length fun _ => -1).getD a 0 = oa at cA
  obtain ⟨W2, hW2⟩ : ∃ W2 : World, W2 = w1.setCell ca (.int .i64 (a : Int)) := ⟨_, rfl⟩
  rw [← hW2] at R2 b2
  replace R2 := Lib.hid R2
  replace R1 := Lib.hid R1
  replace hcv := Lib.hid hcv
  go_upto_region 3 with fail
  rw [← hW2]
  clear hW2 iA cA fA
  have hB2 := b2.size
  have hal2 := belowAlloc W2 (.cells #[.int .i64 (a : Int)] 3)
  have hq2 := OwnI.lit W2.heap.size W2 (Nat.le_refl _) [(a : Int)] (by simp [maxLen]) #[.int .i64 (a : Int)] rfl 1 rfl
  have R3 := R2.out.add (i := (2, 0)) (r' := rowI (.slice (some ⟨W2.heap.size, 0, none⟩) 1 1) [(a : Int)]) hal2 (hq2.mono hB2) (fun k hk => (hq2.lt k hk).1)
  have b3 := b2.trans (hal2.mono hB2)
  obtain ⟨W3, hW3⟩ : ∃ W3 : World, W3 = W2.alloc (.cells #[.int .i64 (a : Int)] 3) := ⟨_, rfl⟩
  rw [← hW3] at R3 b3
  obtain ⟨q2, hq2e⟩ : ∃ q2, q2 = W2.heap.size := ⟨_, rfl⟩
  rw [← hq2e] at R3
  have hF0 : FN (upd (upd (upd (fun _ => none) (1, 0) (some (rowI cv (tabI G.length fun _ => -1)))) (1, 0) (some (rowI cv (tabI G.length (updN (fun _ => (-1 : Int)) a (a : Int)))))) (2, 0) (some (rowI (.slice (some ⟨q2, 0, none⟩) 1 1) [(a : Int)]))) cv (.slice (some ⟨q2, 0, none⟩) 1 1) G.length (updN (fun _ => (-1 : Int)) a (a : Int)) [a] :=
    ⟨by rw [upd_ne _ _ (by simp), upd_same], by rw [upd_same]; rfl⟩
  replace R3 := Lib.hid R3
  replace hq2 := Lib.hid hq2
  go_wp2_with fail
  rw [← hW3, ← hq2e]
  clear hW3 hq2e R2 R1 hal2 hq2
  go_loopw [8, 9] (fun qv iv wr => ∃ (i : Nat) (came : Nat → Int) (q : List Nat) (par dist : Nat → Nat) (f' : Names) (qw : Value), qw = qv ∧ iv = .int .i64 i ∧ i ≤ q.length ∧ Rows w.heap.size wr f' ∧ Below w.heap.size w wr ∧ FN f' cv qw G.length came q ∧ BOut (adjOf G) a came q par dist i ∧ ∀ x ∈ q, x < G.length) (fun _ iv _ => G.length + 1 - (intOf iv).toNat)
  case atStart => exact ⟨0, _, [a], _, _, _, _, rfl, rfl, by omega, R3.out, b3, hF0, hinit.out, fun x hx => by cases List.mem_singleton.1 hx; exact ha⟩
  case round =>
    obtain ⟨i, came, q, par, dist, f1, qv, rfl, rfl, hi, hr1, b1', h1, hO, hqn⟩ := hrel
    obtain ⟨wo, rfl⟩ : ∃ wo : World, wo = wr := ⟨_, rfl⟩
    have hql := nodup_len G.length q hO.nodup hqn
    have hOQ := hr1.ownI h1.queue
    have lQ := hOQ.at.len
    rw [castI_len] at lQ
    have hOC := hr1.ownI h1.came
    have iB := fun w' => hOC.at.idx b (by rw [tabI_len]; exact hb) w'
    have cB := hOC.at.cellD b (by rw [tabI_len]; exact hb)
    rw [tabI_get _ _ _ hb] at cB
    generalize valAt cv b = pb at *
    obtain ⟨cb, hcb⟩ : ∃ cb, came b = cb := ⟨_, rfl⟩
    rw [hcb] at cB
    by_cases hil : i < q.length
    · by_cases hneg : cb < 0
      · obtain ⟨v, hv⟩ : ∃ v, q[i]? = some v := ⟨_, List.getElem?_eq_getElem hil⟩
        have hvn := hqn v (List.mem_of_getElem? hv)
        have iV := fun w' => hOQ.at.idx i (by rw [castI_len]; exact hil) w'
        have cV := hOQ.at.cellD i (by rw [castI_len]; exact hil)
        rw [castI_get hv] at cV
        obtain ⟨mv, iR, cR, hM⟩ := (h.out.below (b1' : Below w.heap.size w wo)).row v hvn
        have hgx := hsz.out v hvn
        have hgp : ∀ x ∈ G.getD v [], 0 ≤ x ∧ x < G.length := hok.out v hvn
        have hadj : adjOf G v = (G.getD v []).map Int.toNat := rfl
        generalize G.getD v [] = gx at *
        obtain ⟨ma, mn, mc, rfl⟩ := hM.shape
        generalize valAt qv i = qa at *
        generalize valAt (.slice na G.length nc) v = ra at *
        replace hcb := Lib.hid hcb
        replace hr1 := Lib.hid hr1
        replace hOQ := Lib.hid hOQ
        replace hOC := Lib.hid hOC
        replace hM := Lib.hid hM
        replace hO := Lib.hid hO
        replace hqn := Lib.hid hqn
        replace hgp := Lib.hid hgp
        replace hadj := Lib.hid hadj
        replace hv := Lib.hid hv
        go_wp2_with fail
        refine (vals_any ma mn mc _).mono ?_
        rintro e w2 ⟨rfl, rfl⟩
        have hbv := belowAlloc wo (.cells #[.slice ma mn mc] 22)
        clear iB cB iV cV iR cR
        go_wp2_with fail
        refine (sorted_any wo.heap.size (.slice ma mn mc) gx hgx _ (by simp) (by simp) (hM.out.below hbv)).mono ?_
        rintro e w3 ⟨lv, rfl, b3', hL⟩
        have b4 : Below wo.heap.size wo w3 := hbv.trans (b3'.mono hbv.size)
        have hBo : w.heap.size ≤ wo.heap.size := b1'.size
        have R4 := hr1.out.add (i := (3, 0)) (r' := rowI lv (srt gx)) b4 (hL.mono (Nat.le_trans hBo hbv.size)) (fun k hk => Nat.le_trans hbv.size (hL.lt k hk).1)
        have h4 : FN (upd f1 (3, 0) (some (rowI lv (srt gx)))) cv qv G.length came q := h1.congr (upd_ne _ _ (by simp)) (upd_ne _ _ (by simp))
        have e4 : upd f1 (3, 0) (some (rowI lv (srt gx))) (3, 0) = some (rowI lv (srt gx)) := upd_same _ _ _
        have b5 := b1'.trans (b4.mono hBo)
        have hIn := hO.out.enter hv.out (l := (srtN gx).drop 0) (fun t => by rw [List.drop_zero, hadj.out]; exact srtN_mem gx t) (by rw [List.drop_zero]; exact srtN_sorted gx fun x hx => (hgp.out x hx).1)
        have lL := hL.at.len
        have hsl : (srt gx).length = gx.length := srt_length gx
        generalize upd f1 (3, 0) (some (rowI lv (srt gx))) = f4 at *
        replace R4 := Lib.hid R4
        replace hIn := Lib.hid hIn
        replace hL := Lib.hid hL
        replace e4 := Lib.hid e4
        go_wp2_with fail
        clear lL lQ
        go_loopw [8, 49] (fun qv jv wr => ∃ (j : Nat) (came : Nat → Int) (q : List Nat) (par dist : Nat → Nat) (f' : Names) (qw : Value), qw = qv ∧ jv = .int .i64 j ∧ j ≤ gx.length ∧ Rows w.heap.size wr f' ∧ Below w.heap.size w wr ∧ FN f' cv qw G.length came q ∧ f' (3, 0) = some (rowI lv (srt gx)) ∧ BIn (adjOf G) a came q par dist i v ((srtN gx).drop j) ∧ ∀ x ∈ q, x < G.length) (fun _ jv _ => gx.length - (intOf jv).toNat)
        case atStart => exact ⟨0, came, q, par, dist, f4, qv, rfl, rfl, by omega, R4.out, b5, h4, e4.out, hIn.out, hqn.out⟩
        case round =>
          clear hIn R4 e4 h4 b5 h1 hi hil hO hqn hv hOQ hOC hneg hcb
          obtain ⟨j, came, q, par, dist, f4, qv, rfl, rfl, hj, hr4, b5, h4, e4, hIn, hqn⟩ := hrel
          obtain ⟨wo, rfl⟩ : ∃ wo : World, wo = wr := ⟨_, rfl⟩
          have hOL := hr4.ownI e4
          have lL := hOL.at.len
          rw [hsl] at lL
          by_cases hjl : j < gx.length
          · have hjs : j < (srtN gx).length := by rw [srtN_len]; exact hjl
            obtain ⟨t, ht⟩ : ∃ t, (srtN gx)[j]? = some t := ⟨_, List.getElem?_eq_getElem hjs⟩
            have htd : (srtN gx).getD j 0 = t := by simp [List.getD, ht]
            have hdr : (srtN gx).drop j = t :: (srtN gx).drop (j + 1) := by
              rw [List.drop_eq_getElem_cons hjs]
              rw [List.getElem?_eq_getElem hjs] at ht
              injection ht with ht
              rw [ht]
            have htn : t < G.length := by
              have hm := (srtN_mem gx t).1 (List.mem_of_getElem? ht)
              obtain ⟨x, hx, rfl⟩ := List.mem_map.1 hm
              have := hgp.out x hx
              omega
            have iT := fun w' => hOL.at.idx j (by rw [hsl]; exact hjl) w'
            have cT := hOL.at.cellD j (by rw [hsl]; exact hjl)
            rw [srtN_get gx (fun x hx => (hgp.out x hx).1) j hjl, htd] at cT
            rw [hdr] at hIn
            have hOC := hr4.ownI h4.came
            have iC := fun w' => hOC.at.idx t (by rw [tabI_len]; exact htn) w'
            have cC := hOC.at.cellD t (by rw [tabI_len]; exact htn)
            rw [tabI_get _ _ _ htn] at cC
            have fC := hOC.frz t (by rw [tabI_len]; exact htn)
            have kC := (hOC.toV.blkB t (by rw [List.length_map, tabI_len]; exact htn)).2
            obtain ⟨f5, hr5, h5, k5⟩ := h4.set hr4 t htn (v : Int)
            have e5 : f5 (3, 0) = some (rowI lv (srt gx)) := (k5 _ (by simp)).trans e4
            have b6 : Below w.heap.size w (wo.setCell (valAt cv t) (.int .i64 (v : Int))) := b5.setCell kC _
            generalize valAt lv j = la at *
            generalize valAt cv t = ta at *
            obtain ⟨ct, hct⟩ : ∃ ct, came t = ct := ⟨_, rfl⟩
            rw [hct] at cC
            by_cases htc : ct < 0
            · have hadd := hIn.add (by rw [hct]; exact htc)
              have hqn2 : ∀ x ∈ q ++ [t], x < G.length := fun x hx => by
                rcases List.mem_append.1 hx with hx | hx
                · exact hqn x hx
                · cases List.mem_singleton.1 hx; exact htn
              have hql2 := nodup_len G.length q hIn.base.nodup hqn
              replace hadd := Lib.hid hadd
              replace hqn2 := Lib.hid hqn2
              replace hIn := Lib.hid hIn
              replace hqn := Lib.hid hqn
              replace hr4 := Lib.hid hr4
              replace hr5 := Lib.hid hr5
              replace hOC := Lib.hid hOC
              replace hOL := Lib.hid hOL
              replace hct := Lib.hid hct
              replace hdr := Lib.hid hdr
              replace htd := Lib.hid htd
              replace ht := Lib.hid ht
              replace k5 := Lib.hid k5
              replace e4 := Lib.hid e4
              replace e5 := Lib.hid e5
              go_upto_region 13 with fail
              obtain ⟨W5, hW5⟩ : ∃ W5 : World, W5 = wo.setCell ta (.int .i64 (v : Int)) := ⟨_, rfl⟩
              rw [← hW5]
              rw [← hW5] at hr5 b6
              clear hW5 iT cT iC cC fC lL
              have hOQ5 := hr5.out.ownI h5.queue
              have hB5 : w.heap.size ≤ W5.heap.size := b6.size
              go_wp2_with (at_builtin; refine wpl_app1 rfl _ _ rfl w.heap.size qv (castI q) t hOQ5 rfl rfl (by rw [castI_len]; omega) hB5 ?_)
              intro qv' w7 ho7 b7 hal7
              obtain ⟨f7, hr7, h7, k7⟩ := h5.push hr5.out t ho7 hal7
              replace hr7 := Lib.hid hr7
              replace ho7 := Lib.hid ho7
              replace k7 := Lib.hid k7
              clear hal7
              go_wp2
              go_roundw
              case measure => simp [intOf]; omega
              case rel => exact ⟨j + 1, _, _, _, _, f7, qv', rfl, by go_num, by omega, hr7.out, b6.trans b7, h7, (k7.out _ (by simp)).trans e5.out, hadd.out, hqn2.out⟩
            · have hold := hIn.old (by rw [hct]; omega)
              replace hold := Lib.hid hold
              replace hIn := Lib.hid hIn
              replace hqn := Lib.hid hqn
              replace hr4 := Lib.hid hr4
              replace hr5 := Lib.hid hr5
              replace hOC := Lib.hid hOC
              replace hOL := Lib.hid hOL
              replace hct := Lib.hid hct
              replace hdr := Lib.hid hdr
              replace htd := Lib.hid htd
              replace ht := Lib.hid ht
              replace k5 := Lib.hid k5
              replace e4 := Lib.hid e4
              replace e5 := Lib.hid e5
              go_wp2
              go_roundw
              case measure => simp [intOf]; omega
              case rel => exact ⟨j + 1, came, q, par, dist, f4, qv, rfl, by go_num, by omega, hr4.out, b5, h4, e4.out, hold.out, hqn.out⟩
          · obtain rfl : j = gx.length := by omega
            rw [List.drop_eq_nil_of_le (by rw [srtN_len]; exact Nat.le_refl _)] at hIn
            have hOut := hIn.leave
            have hil := get_of hIn.cur
            have hql2 := nodup_len G.length q hIn.base.nodup hqn
            replace hOut := Lib.hid hOut
            replace hIn := Lib.hid hIn
            replace hqn := Lib.hid hqn
            replace hr4 := Lib.hid hr4
            replace hOL := Lib.hid hOL
            replace e4 := Lib.hid e4
            go_wp2
            go_roundw
            case measure => simp [intOf]; omega
            case rel => exact ⟨i + 1, came, q, par, dist, f4, qv, rfl, by go_num, by omega, hr4.out, b5, h4, hOut.out, hqn.out⟩
      · have hcb0 : ¬ came b < 0 := by rw [hcb]; exact hneg
        have hbq := (hO.cameIff b).1 (by omega)
        obtain ⟨k0, hk0⟩ := List.mem_iff_getElem?.1 hbq
        have hlit := OwnI.lit wo.heap.size wo (Nat.le_refl _) [(b : Int)] (by simp [maxLen]) #[.int .i64 (b : Int)] rfl 1 rfl
        have halw := belowAlloc wo (.cells #[.int .i64 (b : Int)] 3)
        have hBo : w.heap.size ≤ wo.heap.size := b1'.size
        have R8 := hr1.add (i := (4, 0)) (r' := rowI (.slice (some ⟨wo.heap.size, 0, none⟩) 1 1) (castI [b].reverse)) halw (hlit.mono hBo) (fun k hk => (hlit.lt k hk).1)
        have b8 := b1'.trans (halw.mono hBo)
        have hcame8 : (upd f1 (4, 0) (some (rowI (.slice (some ⟨wo.heap.size, 0, none⟩) 1 1) (castI [b].reverse)))) (1, 0) = some (rowI cv (tabI G.length came)) := (upd_ne _ _ (by simp)).trans h1.came
        have hway8 := upd_same f1 (4, 0) (some (rowI (.slice (some ⟨wo.heap.size, 0, none⟩) 1 1) (castI [b].reverse)))
        generalize upd f1 (4, 0) (some (rowI (.slice (some ⟨wo.heap.size, 0, none⟩) 1 1) (castI [b].reverse))) = f8 at *
        obtain ⟨W8, hW8⟩ : ∃ W8 : World, W8 = wo.alloc (.cells #[.int .i64 (b : Int)] 3) := ⟨_, rfl⟩
        obtain ⟨s8, hs8⟩ : ∃ s8, s8 = wo.heap.size := ⟨_, rfl⟩
        rw [← hW8] at R8 b8
        rw [← hs8] at hway8
        have htree : Tree came q (adjOf G) b b [b] := .one b hbq
        replace hcb := Lib.hid hcb
        replace hr1 := Lib.hid hr1
        replace hOQ := Lib.hid hOQ
        replace hOC := Lib.hid hOC
        replace hO := Lib.hid hO
        replace hqn := Lib.hid hqn
        replace hlit := Lib.hid hlit
        replace R8 := Lib.hid R8
        replace hk0 := Lib.hid hk0
        replace hcame8 := Lib.hid hcame8
        replace hway8 := Lib.hid hway8
        replace htree := Lib.hid htree
        clear halw
        go_wp2_with fail
        rw [← hW8, ← hs8]
        clear hW8 hs8 iB cB lQ
        go_loopg [13, 14] k0 (fun k wv vv wr => ∃ (x : Nat) (u : List Nat) (f' : Names) (ww : Value), ww = wv ∧ vv = .int .i64 x ∧ q[k]? = some x ∧ Tree came q (adjOf G) x b u ∧ Rows w.heap.size wr f' ∧ Below w.heap.size w wr ∧ f' (1, 0) = some (rowI cv (tabI G.length came)) ∧ f' (4, 0) = some (rowI ww (castI u.reverse)) ∧ u.length ≤ G.length + 1 - k)
        case atStart => exact ⟨b, [b], f8, _, rfl, rfl, hk0.out, htree.out, R8.out, b8, hcame8.out, hway8.out, by have := get_of hk0.out; simp only [List.length_cons, List.length_nil]; omega⟩
        case round =>
          clear R8 b8 hcame8 hway8 htree hk0
          obtain ⟨x, u, f9, wv, rfl, rfl, hk, hT, hr9, b9, hc9, hw9, hul⟩ := hrel
          obtain ⟨wo, rfl⟩ : ∃ wo : World, wo = wr := ⟨_, rfl⟩
          obtain ⟨k, rfl⟩ : ∃ k : Nat, k = gk := ⟨_, rfl⟩
          have hxn := hqn.out x (List.mem_of_getElem? hk)
          have hkl := get_of hk
          by_cases hxa : x = a
          · subst hxa
            have hfirst := hO.out.first hT
            have hOW := hr9.ownI hw9
            have hrev := reverse_own w.heap.size wv (castI u.reverse) wo hOW (by rw [castI_len, List.length_reverse]; omega)
            have hrr : (castI u.reverse).reverse = castI u := by rw [castI_reverse, List.reverse_reverse]
            rw [hrr] at hrev
            replace hrev := Lib.hid hrev
            replace hfirst := Lib.hid hfirst
            replace hT := Lib.hid hT
            replace hr9 := Lib.hid hr9
            replace hOW := Lib.hid hOW
            replace hc9 := Lib.hid hc9
            replace hw9 := Lib.hid hw9
            replace hk := Lib.hid hk
            replace hrr := Lib.hid hrr
            go_wp2_with fail
            refine hrev.out.mono ?_
            rintro e w10 ⟨rfl, ho10, b10⟩
            replace ho10 := Lib.hid ho10
            go_wp2
            go_ret
            exact ⟨_, rfl, b9.trans b10, .inl ⟨u, hfirst.out, ho10.out⟩⟩
          · have hk1 : 0 < k := by
              by_cases e : 0 < k
              · exact e
              · obtain rfl : k = 0 := by omega
                have := hO.out.hd
                rw [hk] at this
                injection this with this
                exact absurd this hxa
            obtain ⟨p1, p2, p, p3, p4, p5, p6⟩ := hO.out.parLt k x hk1 hk
            have hT2 := Tree.cons _ _ p3 hk hk1 p4 hT
            have hpn := hqn.out p (List.mem_of_getElem? p3)
            have hne : ((x : Int) != (a : Int)) = true := by rw [bne_iff_ne]; omega
            have hOC9 := hr9.ownI hc9
            have iX := fun w' => hOC9.at.idx x (by rw [tabI_len]; exact hxn) w'
            have cX := hOC9.at.cellD x (by rw [tabI_len]; exact hxn)
            rw [tabI_get _ _ _ hxn, p4] at cX
            have hOW := hr9.ownI hw9
            have hB9 : w.heap.size ≤ wo.heap.size := b9.size
            have hlu : (castI u.reverse).length < 4398046511104 := by rw [castI_len, List.length_reverse]; omega
            have hgrow := fun (w' : World) (wv' : Value) (ho : OwnI w.heap.size w' wv' (castI u.reverse ++ [(p : Int)])) (hal : (roomOf wv' = roomOf wv ∧ wo.grownBy w' wv.ownBlock) ∨ (∃ k, wv'.ownBlock = some k ∧ wo.heap.size ≤ k ∧ wo.grownBy w' none)) => show ∃ f', Rows w.heap.size w' f' ∧ f' (1, 0) = some (rowI cv (tabI G.length came)) ∧ f' (4, 0) = some (rowI wv' (castI (p :: u).reverse)) from by
              have hg : wo.grownBy w' wv.ownBlock := grown_via (hal.imp (·.2) (fun ⟨_, _, _, q⟩ => q))
              have hob : wv'.ownBlock = wv.ownBlock ∨ ∃ k, wv'.ownBlock = some k ∧ wo.heap.size ≤ k := by
                rcases hal with ⟨q, _⟩ | ⟨k, h1, h2, _⟩
                · obtain ⟨a1, n1, c1, e1⟩ := hOW.at.shape
                  obtain ⟨a2, n2, c2, e2⟩ := ho.at.shape
                  exact .inl (ownBlock_of_room e1 e2 q)
                · exact .inr ⟨k, h1, h2⟩
              exact ⟨_, hr9.grown (r' := rowI wv' (castI u.reverse ++ [(p : Int)])) hw9 hg ho hob, by rw [upd_ne _ _ (by simp)]; exact hc9, by rw [upd_same, List.reverse_cons, castI_snoc]⟩
            generalize valAt cv x = xa at *
            replace hgrow := Lib.hid hgrow
            replace hT := Lib.hid hT
            replace hT2 := Lib.hid hT2
            replace hr9 := Lib.hid hr9
            replace hOC9 := Lib.hid hOC9
            replace hc9 := Lib.hid hc9
            replace hw9 := Lib.hid hw9
            replace hk := Lib.hid hk
            replace p3 := Lib.hid p3
            replace p4 := Lib.hid p4
            replace p6 := Lib.hid p6
            go_wp2_with (at_builtin; refine wpl_app1 rfl _ _ rfl w.heap.size wv (castI u.reverse) p hOW rfl rfl hlu hB9 ?_)
            intro wv' w11 ho11 b11 hal11
            obtain ⟨f11, hr11, hc11, hw11⟩ := hgrow.out w11 wv' ho11 hal11
            replace ho11 := Lib.hid ho11
            replace hr11 := Lib.hid hr11
            replace hc11 := Lib.hid hc11
            replace hw11 := Lib.hid hw11
            clear hal11
            go_wp2
            go_roundg (par k)
            case measure => exact p2
            case rel => exact ⟨p, p :: u, f11, wv', rfl, rfl, p3.out, hT2.out, hr11.out, b9.trans b11, hc11.out, hw11.out, by simp only [List.length_cons]; omega⟩
    · by_cases hneg : cb < 0
      · have hnone := hO.none (by omega) (by rw [hcb]; exact hneg)
        replace hnone := Lib.hid hnone
        replace hcb := Lib.hid hcb
        replace hr1 := Lib.hid hr1
        replace hOQ := Lib.hid hOQ
        replace hOC := Lib.hid hOC
        replace hO := Lib.hid hO
        replace hqn := Lib.hid hqn
        go_wp2
        go_ret
        exact ⟨_, rfl, b1', .inr ⟨hnone.out, rfl⟩⟩
      · have hcb0 : ¬ came b < 0 := by rw [hcb]; exact hneg
        have hbq := (hO.cameIff b).1 (by omega)
        obtain ⟨k0, hk0⟩ := List.mem_iff_getElem?.1 hbq
        have hlit := OwnI.lit wo.heap.size wo (Nat.le_refl _) [(b : Int)] (by simp [maxLen]) #[.int .i64 (b : Int)] rfl 1 rfl
        have halw := belowAlloc wo (.cells #[.int .i64 (b : Int)] 3)
        have hBo : w.heap.size ≤ wo.heap.size := b1'.size
        have R8 := hr1.add (i := (4, 0)) (r' := rowI (.slice (some ⟨wo.heap.size, 0, none⟩) 1 1) (castI [b].reverse)) halw (hlit.mono hBo) (fun k hk => (hlit.lt k hk).1)
        have b8 := b1'.trans (halw.mono hBo)
        have hcame8 : (upd f1 (4, 0) (some (rowI (.slice (some ⟨wo.heap.size, 0, none⟩) 1 1) (castI [b].reverse)))) (1, 0) = some (rowI cv (tabI G.length came)) := (upd_ne _ _ (by simp)).trans h1.came
        have hway8 := upd_same f1 (4, 0) (some (rowI (.slice (some ⟨wo.heap.size, 0, none⟩) 1 1) (castI [b].reverse)))
        generalize upd f1 (4, 0) (some (rowI (.slice (some ⟨wo.heap.size, 0, none⟩) 1 1) (castI [b].reverse))) = f8 at *
        obtain ⟨W8, hW8⟩ : ∃ W8 : World, W8 = wo.alloc (.cells #[.int .i64 (b : Int)] 3) := ⟨_, rfl⟩
        obtain ⟨s8, hs8⟩ : ∃ s8, s8 = wo.heap.size := ⟨_, rfl⟩
        rw [← hW8] at R8 b8
        rw [← hs8] at hway8
        have htree : Tree came q (adjOf G) b b [b] := .one b hbq
        replace hcb := Lib.hid hcb
        replace hr1 := Lib.hid hr1
        replace hOQ := Lib.hid hOQ
        replace hOC := Lib.hid hOC
        replace hO := Lib.hid hO
        replace hqn := Lib.hid hqn
        replace hlit := Lib.hid hlit
        replace R8 := Lib.hid R8
        replace hk0 := Lib.hid hk0
        replace hcame8 := Lib.hid hcame8
        replace hway8 := Lib.hid hway8
        replace htree := Lib.hid htree
        clear halw
        go_wp2_with fail
        rw [← hW8, ← hs8]
        clear hW8 hs8 iB cB lQ
        go_loopg [13, 14] k0 (fun k wv vv wr => ∃ (x : Nat) (u : List Nat) (f' : Names) (ww : Value), ww = wv ∧ vv = .int .i64 x ∧ q[k]? = some x ∧ Tree came q (adjOf G) x b u ∧ Rows w.heap.size wr f' ∧ Below w.heap.size w wr ∧ f' (1, 0) = some (rowI cv (tabI G.length came)) ∧ f' (4, 0) = some (rowI ww (castI u.reverse)) ∧ u.length ≤ G.length + 1 - k)
        case atStart => exact ⟨b, [b], f8, _, rfl, rfl, hk0.out, htree.out, R8.out, b8, hcame8.out, hway8.out, by have := get_of hk0.out; simp only [List.length_cons, List.length_nil]; omega⟩
        case round =>
          clear R8 b8 hcame8 hway8 htree hk0
          obtain ⟨x, u, f9, wv, rfl, rfl, hk, hT, hr9, b9, hc9, hw9, hul⟩ := hrel
          obtain ⟨wo, rfl⟩ : ∃ wo : World, wo = wr := ⟨_, rfl⟩
          obtain ⟨k, rfl⟩ : ∃ k : Nat, k = gk := ⟨_, rfl⟩
          have hxn := hqn.out x (List.mem_of_getElem? hk)
          have hkl := get_of hk
          by_cases hxa : x = a
          · subst hxa
            have hfirst := hO.out.first hT
            have hOW := hr9.ownI hw9
            have hrev := reverse_own w.heap.size wv (castI u.reverse) wo hOW (by rw [castI_len, List.length_reverse]; omega)
            have hrr : (castI u.reverse).reverse = castI u := by rw [castI_reverse, List.reverse_reverse]
            rw [hrr] at hrev
            replace hrev := Lib.hid hrev
            replace hfirst := Lib.hid hfirst
            replace hT := Lib.hid hT
            replace hr9 := Lib.hid hr9
            replace hOW := Lib.hid hOW
            replace hc9 := Lib.hid hc9
            replace hw9 := Lib.hid hw9
            replace hk := Lib.hid hk
            replace hrr := Lib.hid hrr
            go_wp2_with fail
            refine hrev.out.mono ?_
            rintro e w10 ⟨rfl, ho10, b10⟩
            replace ho10 := Lib.hid ho10
            go_wp2
            go_ret
            exact ⟨_, rfl, b9.trans b10, .inl ⟨u, hfirst.out, ho10.out⟩⟩
          · have hk1 : 0 < k := by
              by_cases e : 0 < k
              · exact e
              · obtain rfl : k = 0 := by omega
                have := hO.out.hd
                rw [hk] at this
                injection this with this
                exact absurd this hxa
            obtain ⟨p1, p2, p, p3, p4, p5, p6⟩ := hO.out.parLt k x hk1 hk
            have hT2 := Tree.cons _ _ p3 hk hk1 p4 hT
            have hpn := hqn.out p (List.mem_of_getElem? p3)
            have hne : ((x : Int) != (a : Int)) = true := by rw [bne_iff_ne]; omega
            have hOC9 := hr9.ownI hc9
            have iX := fun w' => hOC9.at.idx x (by rw [tabI_len]; exact hxn) w'
            have cX := hOC9.at.cellD x (by rw [tabI_len]; exact hxn)
            rw [tabI_get _ _ _ hxn, p4] at cX
            have hOW := hr9.ownI hw9
            have hB9 : w.heap.size ≤ wo.heap.size := b9.size
            have hlu : (castI u.reverse).length < 4398046511104 := by rw [castI_len, List.length_reverse]; omega
            have hgrow := fun (w' : World) (wv' : Value) (ho : OwnI w.heap.size w' wv' (castI u.reverse ++ [(p : Int)])) (hal : (roomOf wv' = roomOf wv ∧ wo.grownBy w' wv.ownBlock) ∨ (∃ k, wv'.ownBlock = some k ∧ wo.heap.size ≤ k ∧ wo.grownBy w' none)) => show ∃ f', Rows w.heap.size w' f' ∧ f' (1, 0) = some (rowI cv (tabI G.length came)) ∧ f' (4, 0) = some (rowI wv' (castI (p :: u).reverse)) from by
              have hg : wo.grownBy w' wv.ownBlock := grown_via (hal.imp (·.2) (fun ⟨_, _, _, q⟩ => q))
              have hob : wv'.ownBlock = wv.ownBlock ∨ ∃ k, wv'.ownBlock = some k ∧ wo.heap.size ≤ k := by
                rcases hal with ⟨q, _⟩ | ⟨k, h1, h2, _⟩
                · obtain ⟨a1, n1, c1, e1⟩ := hOW.at.shape
                  obtain ⟨a2, n2, c2, e2⟩ := ho.at.shape
                  exact .inl (ownBlock_of_room e1 e2 q)
                · exact .inr ⟨k, h1, h2⟩
              exact ⟨_, hr9.grown (r' := rowI wv' (castI u.reverse ++ [(p : Int)])) hw9 hg ho hob, by rw [upd_ne _ _ (by simp)]; exact hc9, by rw [upd_same, List.reverse_cons, castI_snoc]⟩
            generalize valAt cv x = xa at *
            replace hgrow := Lib.hid hgrow
            replace hT := Lib.hid hT
            replace hT2 := Lib.hid hT2
            replace hr9 := Lib.hid hr9
            replace hOC9 := Lib.hid hOC9
            replace hc9 := Lib.hid hc9
            replace hw9 := Lib.hid hw9
            replace hk := Lib.hid hk
            replace p3 := Lib.hid p3
            replace p4 := Lib.hid p4
            replace p6 := Lib.hid p6
            go_wp2_with (at_builtin; refine wpl_app1 rfl _ _ rfl w.heap.size wv (castI u.reverse) p hOW rfl rfl hlu hB9 ?_)
            intro wv' w11 ho11 b11 hal11
            obtain ⟨f11, hr11, hc11, hw11⟩ := hgrow.out w11 wv' ho11 hal11
            replace ho11 := Lib.hid ho11
            replace hr11 := Lib.hid hr11
            replace hc11 := Lib.hid hc11
            replace hw11 := Lib.hid hw11
            clear hal11
            go_wp2
            go_roundg (par k)
            case measure => exact p2
            case rel => exact ⟨p, p :: u, f11, wv', rfl, rfl, p3.out, hT2.out, hr11.out, b9.trans b11, hc11.out, hw11.out, by simp only [List.length_cons]; omega⟩
end Go.Proofs.YtbpdmpcakenjhaaDoor

namespace Go.Proofs.YtbpdmpcakenjhaaDoor
open Go.RowKit
set_option maxRecDepth 100000

/-- u stands on a loop. -/
def OnLoop (adj : Nat → List Nat) (u : Nat) : Prop := ∃ t ∈ adj u, Goes adj t u
/-- v stands between two loops. -/
def IsLive (n : Nat) (adj : Nat → List Nat) (v : Nat) : Prop := (∃ u, u < n ∧ OnLoop adj u ∧ Goes adj u v) ∧ ∃ u, u < n ∧ OnLoop adj u ∧ Goes adj v u
structure LiveList (n : Nat) (adj : Nat → List Nat) (L : List Nat) : Prop where
  sorted : L.Pairwise (· < ·)
  mem : ∀ v, v ∈ L ↔ v < n ∧ IsLive n adj v
theorem sorted_eq : ∀ {L M : List Nat}, L.Pairwise (· < ·) → M.Pairwise (· < ·) → (∀ v, v ∈ L ↔ v ∈ M) → L = M
  | [], [], _, _, _ => rfl
  | [], b :: M, _, _, h => absurd ((h b).2 List.mem_cons_self) (by simp)
  | a :: L, [], _, _, h => absurd ((h a).1 List.mem_cons_self) (by simp)
  | a :: L, b :: M, hL, hM, h => by
    obtain ⟨a1, a2⟩ := List.pairwise_cons.1 hL
    obtain ⟨b1, b2⟩ := List.pairwise_cons.1 hM
    have hab : a = b := by
      rcases List.mem_cons.1 ((h a).1 List.mem_cons_self) with e | e
      · exact e
      · rcases List.mem_cons.1 ((h b).2 List.mem_cons_self) with e2 | e2
        · exact e2.symm
        · have := b1 a e; have := a1 b e2; omega
    subst hab
    rw [sorted_eq a2 b2 fun v => ?_]
    have := h v
    simp only [List.mem_cons] at this
    constructor
    · intro hv
      rcases this.1 (.inr hv) with e | e
      · subst e; exact absurd (a1 v hv) (Nat.lt_irrefl _)
      · exact e
    · intro hv
      rcases this.2 (.inr hv) with e | e
      · subst e; exact absurd (b1 v hv) (Nat.lt_irrefl _)
      · exact e
theorem LiveList.unique {n : Nat} {adj : Nat → List Nat} {L M : List Nat} (h : LiveList n adj L) (k : LiveList n adj M) : L = M := sorted_eq h.sorted k.sorted fun v => by rw [h.mem, k.mem]
theorem turned_adj {G H : List (List Int)} (h : TurnedOf G H) (hok : GraphOk G) {t v : Nat} (ht : t < G.length) : v ∈ adjOf H t ↔ v < G.length ∧ t ∈ adjOf G v := by
  unfold adjOf
  simp only [List.mem_map]
  constructor
  · rintro ⟨y, hy, rfl⟩
    obtain ⟨x, rfl, hx, hm⟩ := (h.2.2 t ht y).1 hy
    exact ⟨by simpa using hx, (t : Int), by simpa using hm, by simp⟩
  · rintro ⟨hv, y, hy, rfl⟩
    have := hok v hv y hy
    exact ⟨(v : Int), (h.2.2 y.toNat ht v).2 ⟨v, rfl, hv, by rw [Int.toNat_of_nonneg this.1]; exact hy⟩, by simp⟩
theorem turned_ok {G H : List (List Int)} (h : TurnedOf G H) : GraphOk H := by
  intro t ht y hy
  rw [h.1] at ht ⊢
  obtain ⟨x, rfl, hx, _⟩ := (h.2.2 t ht y).1 hy
  omega
theorem goes_lt {G : List (List Int)} (hok : GraphOk G) {x y : Nat} (h : Goes (adjOf G) x y) (hx : x < G.length) : y < G.length :=
  Goes.closed (P := fun z => z < G.length) (fun z hz t ht => hok.lt z hz t ht) h hx
theorem turned_goes {G H : List (List Int)} (h : TurnedOf G H) (hok : GraphOk G) {x y : Nat} (hg : Goes (adjOf H) x y) (hx : x < G.length) : Goes (adjOf G) y x := by
  induction hg with
  | refl => exact .refl _
  | @step y z hg hz ih =>
    have hy : y < G.length := by have := goes_lt (turned_ok h) hg (by rw [h.1]; exact hx); rwa [h.1] at this
    exact (Goes.one ((turned_adj h hok hy).1 hz).2).trans ih
theorem goes_turned {G H : List (List Int)} (h : TurnedOf G H) (hok : GraphOk G) {x y : Nat} (hg : Goes (adjOf G) x y) (hx : x < G.length) : Goes (adjOf H) y x := by
  induction hg with
  | refl => exact .refl _
  | @step y z hg hz ih =>
    have hy := goes_lt hok hg hx
    exact (Goes.one ((turned_adj h hok (hok.lt y hy z hz)).2 ⟨hy, hz⟩)).trans ih
theorem onLoop_parts {G : List (List Int)} (hok : GraphOk G) {ps : List Int} (hp : PartsOf G.length (adjOf G) ps) {x : Nat} (hx : x < G.length) : OnLoop (adjOf G) x ↔ ∃ t ∈ adjOf G x, ps.getD t 0 = ps.getD x 0 := by
  constructor
  · rintro ⟨t, ht, hg⟩
    exact ⟨t, ht, (hp.eq (hok.lt x hx t ht) hx).2 ⟨hg, .one ht⟩⟩
  · rintro ⟨t, ht, he⟩
    exact ⟨t, ht, ((hp.eq (hok.lt x hx t ht) hx).1 he).1⟩
/-- What Live leaves. -/
def LivePost (r : Nat → Addr) (w : World) (G : List (List Int)) (x y : Value) (w' : World) : Prop :=
  ErrIs r w' (checkG G) y ∧ (checkG G = none → ∃ L, LiveList G.length (adjOf G) L ∧ OwnI w.heap.size w' x (castI L)) ∧ (checkG G ≠ none → x = .slice none 0 0)
/-- The marks of the vertices on loops: of the first k, and of the next by its first j arrows. -/
def LoopTo (G : List (List Int)) (ps : List Int) (k j : Nat) (m : Nat → Bool) : Prop :=
  ∀ x, x < G.length → (m x = true ↔ (x < k ∧ ∃ t ∈ adjOf G x, ps.getD t 0 = ps.getD x 0) ∨ (x = k ∧ ∃ t ∈ (adjOf G k).take j, ps.getD t 0 = ps.getD k 0))
theorem LoopTo.next {G : List (List Int)} {ps : List Int} {k : Nat} {m : Nat → Bool} (h : LoopTo G ps k (adjOf G k).length m) : LoopTo G ps (k + 1) 0 m := by
  intro x hx
  rw [h x hx, List.take_length]
  constructor
  · rintro (⟨a, b⟩ | ⟨rfl, b⟩)
    · exact .inl ⟨by omega, b⟩
    · exact .inl ⟨by omega, b⟩
  · rintro (⟨a, b⟩ | ⟨_, t, ht, _⟩)
    · by_cases e : x = k
      · subst e; exact .inr ⟨rfl, b⟩
      · exact .inl ⟨by omega, b⟩
    · simp at ht
theorem LoopTo.add {G : List (List Int)} {ps : List Int} {k j t : Nat} {m : Nat → Bool} (h : LoopTo G ps k j m) (ht : (adjOf G k)[j]? = some t) (m' : Nat → Bool)
    (hm : m' = if ps.getD t 0 = ps.getD k 0 then updN m k true else m) : LoopTo G ps k (j + 1) m' := by
  intro x hx
  have htk : (adjOf G k).take (j + 1) = (adjOf G k).take j ++ [t] := by rw [List.take_add_one, ht]; rfl
  by_cases hp : ps.getD t 0 = ps.getD k 0
  · rw [if_pos hp] at hm
    subst hm
    by_cases e : x = k
    · subst e
      rw [updN_same]
      exact ⟨fun _ => .inr ⟨rfl, t, by rw [htk]; simp, hp⟩, fun _ => rfl⟩
    · rw [updN_other _ _ _ e, h x hx]
      exact ⟨fun q => q.imp id (fun q => absurd q.1 e), fun q => q.imp id (fun q => absurd q.1 e)⟩
  · rw [if_neg hp] at hm
    subst hm
    rw [h x hx, htk]
    constructor
    · rintro (q | ⟨e, s, hs, hq⟩)
      · exact .inl q
      · exact .inr ⟨e, s, List.mem_append_left _ hs, hq⟩
    · rintro (q | ⟨e, s, hs, hq⟩)
      · exact .inl q
      · rcases List.mem_append.1 hs with hs | hs
        · exact .inr ⟨e, s, hs, hq⟩
        · cases List.mem_singleton.1 hs; exact absurd hq hp

set_option maxHeartbeats 4000000 in
theorem live_any (r : Nat → Addr) (na : Option Addr) (nc : Nat) (G : List (List Int)) (w : World) (hg : Glob r w) (h : ListsAt w (.slice na G.length nc) G) (hsz : ∀ k, k < G.length → (G.getD k []).length ≤ 17592186044416) :
    Calls Tryd.prog 24 #[.slice na G.length nc] w (Ret2 (LivePost r w G) w) := by
  have hP := parts_any r na nc G w hg h hsz
  replace h := Lib.hid h
  replace hg := Lib.hid hg
  replace hsz := Lib.hid hsz
  cases hck : checkG G with
  | some t =>
    replace hck := Lib.hid hck
    go_enter Tryd.func24, Tryd.ntmps24
    go_wp2_with fail
    refine hP.mono ?_
    rintro e w1 ⟨x, y, rfl, b1, he, _, hx⟩
    rw [hck.out] at he hx
    obtain rfl := hx (by simp)
    obtain ⟨T, a, rfl⟩ := he.some_shape
    replace he := Lib.hid he
    clear hx hP
    go_wp2
    go_ret2
    exact ⟨_, _, rfl, b1, ⟨by rw [hck.out]; exact he.out, ⟨fun q => (by rw [hck.out] at q; cases q), fun _ => rfl⟩⟩⟩
  | none =>
    obtain ⟨hn, harr, hok⟩ := checkG_none hck
    replace hck := Lib.hid hck
    replace hok := Lib.hid hok
    go_enter Tryd.func24, Tryd.ntmps24
    go_wp2_with fail
    refine hP.mono ?_
    rintro e w1 ⟨pv, y, rfl, b1, he, hps0, _⟩
    rw [hck.out] at he hps0
    obtain rfl := he.none_eq
    obtain ⟨ps, hps, hpo⟩ := hps0 rfl
    clear hps0
    have hpl := hps.len
    obtain ⟨pa, pn, pc, rfl⟩ := hpo.at.shape
    have hp1 := hpo.at
    clear he hP hpo
    obtain ⟨lv, w2, mk, hl2, hb2⟩ := run_makeW oneBoolG (G.length : Int) G.length w1 rfl (by omega)
    have hz : tabB G.length (fun _ => false) = List.replicate G.length (.bool false) := by
      unfold tabB; apply List.ext_getElem <;> simp
    rw [← hz] at hl2
    obtain ⟨la, ln, lc, rfl⟩ := hl2.shape
    have hz0 : LoopTo G ps 0 0 (fun _ => false) := by
      intro x hx
      simp
    replace hz0 := Lib.hid hz0
    replace hz := Lib.hid hz
    replace hl2 := Lib.hid hl2
    replace hp1 := Lib.hid hp1
    replace hps := Lib.hid hps
    replace hpl := Lib.hid hpl
    go_wp2_with fail
    clear mk
    go_loopw [28] (fun kv wr => ∃ (k : Nat) (m : Nat → Bool), k ≤ G.length ∧ kv = .int .i64 k ∧ OwnV 4 w1.heap.size wr (.slice la ln lc) (tabB G.length m) ∧ Below w1.heap.size w1 wr ∧ LoopTo G ps k 0 m) (fun kv _ => G.length - (intOf kv).toNat)
    case atStart => exact ⟨0, _, by omega, rfl, hl2.out, hb2, hz0.out⟩
    case round =>
      clear hl2
      obtain ⟨k, m, hk, rfl, hlo, b3, hm⟩ := hrel
      obtain ⟨wo, rfl⟩ : ∃ wo : World, wo = wr := ⟨_, rfl⟩
      by_cases hlt : k < G.length
      · obtain ⟨mv, iR, cR0, hM0⟩ := h.out.row k hlt
        have hbw : Below w.heap.size w wo := b1.trans (b3.mono b1.size)
        have cR := (hbw.cell (World.block_lt_of_cell? _ _ cR0)).trans cR0
        have hM := hM0.below hbw
        have hgp := hok.out k hlt
        have hal := adjOf_len G k
        have hag : ∀ j (hj : j < (G.getD k []).length), (adjOf G k)[j]? = some ((G.getD k [])[j]).toNat := fun j hj => by
          show ((G.getD k []).map Int.toNat)[j]? = _
          rw [List.getElem?_map, List.getElem?_eq_getElem hj]; rfl
        have hglen := hsz.out k hlt
        generalize G.getD k [] = gk at *
        have lM := hM.len
        generalize valAt (.slice na G.length nc) k = ra at *
        replace hm := Lib.hid hm
        replace hlo := Lib.hid hlo
        replace hM := Lib.hid hM
        replace hM0 := Lib.hid hM0
        replace hgp := Lib.hid hgp
        replace hag := Lib.hid hag
        replace hal := Lib.hid hal
        go_wp2_with fail
        clear iR cR cR0 lM hbw
        go_loopw [35] (fun jv wr => ∃ (j : Nat) (m : Nat → Bool), j ≤ gk.length ∧ jv = .int .i64 j ∧ OwnV 4 w1.heap.size wr (.slice la ln lc) (tabB G.length m) ∧ Below w1.heap.size w1 wr ∧ LoopTo G ps k j m) (fun jv _ => gk.length - (intOf jv).toNat)
        case atStart => exact ⟨0, m, by omega, rfl, hlo.out, b3, hm.out⟩
        case round =>
          clear hlo b3 hm hM
          obtain ⟨j, m, hj, rfl, hlo, b3, hm⟩ := hrel
          obtain ⟨wo, rfl⟩ : ∃ wo : World, wo = wr := ⟨_, rfl⟩
          by_cases hjl : j < gk.length
          · have hMj := hM0.out.below (b1.trans (b3.mono b1.size))
            have hgj := hgp.out gk[j] (List.getElem_mem hjl)
            obtain ⟨t, hu⟩ : ∃ t : Nat, gk[j] = t := Int.eq_ofNat_of_zero_le hgj.1
            have htn : t < G.length := by rw [hu] at hgj; omega
            have hgd : gk.getD j 0 = (t : Int) := by rw [List.getD_eq_getElem?_getD, List.getElem?_eq_getElem hjl, hu]; rfl
            have hta : (adjOf G k)[j]? = some t := by rw [hag.out j hjl, hu]; rfl
            have iJ := fun w' => hMj.idx j hjl w'
            have cJ := hMj.cellD j hjl
            rw [hgd] at cJ
            have hPt := hp1.out.below b3
            have iT := fun w' => hPt.idx t (by rw [hpl.out]; exact htn) w'
            have cT := hPt.cellD t (by rw [hpl.out]; exact htn)
            have iK := fun w' => hPt.idx k (by rw [hpl.out]; exact hlt) w'
            have cK := hPt.cellD k (by rw [hpl.out]; exact hlt)
            have hadd := hm.add hta
            have iL := fun w' => hlo.at.idx oneBoolG k (by rw [tabB_len]; exact hlt) w'
            have cL := hlo.at.cellV k (by rw [tabB_len]; exact hlt)
            rw [tabB_get _ _ _ hlt] at cL
            have fL := hlo.frz k (by rw [tabB_len]; exact hlt)
            have kL := (hlo.blkB k (by rw [tabB_len]; exact hlt)).2
            have hset := hlo.set k (by rw [tabB_len]; exact hlt) (.bool true)
            rw [tabB_upd] at hset
            generalize valAt mv j = ja at *
            generalize valAt (.slice pa pn pc) t = ta at *
            generalize valAt (.slice pa pn pc) k = ka at *
            generalize valAt (.slice la ln lc) k = qa at *
            obtain ⟨pt, hpt⟩ : ∃ pt, ps.getD t 0 = pt := ⟨_, rfl⟩
            obtain ⟨pk, hpk⟩ : ∃ pk, ps.getD k 0 = pk := ⟨_, rfl⟩
            rw [hpt] at cT hadd
            rw [hpk] at cK hadd
            generalize m k = mk at cL
            replace hm := Lib.hid hm
            replace hlo := Lib.hid hlo
            replace hset := Lib.hid hset
            replace hPt := Lib.hid hPt
            replace hMj := Lib.hid hMj
            replace hpt := Lib.hid hpt
            replace hpk := Lib.hid hpk
            replace hgd := Lib.hid hgd
            replace hgj := Lib.hid hgj
            replace hu := Lib.hid hu
            replace hta := Lib.hid hta
            by_cases he : pt = pk
            · have hq : (pt == pk) = true := by simp [he]
              have hn2 := hadd _ (if_pos he).symm
              replace hn2 := Lib.hid hn2
              replace he := Lib.hid he
              clear hadd
              go_upto_region 11 with fail
              go_quiet (fail)
              go_wp2
              go_roundw
              case measure => simp [intOf]; omega
              case rel =>
                refine ⟨j + 1, _, by omega, by go_num, ?_, ?_, hn2.out⟩
                · exact hset.out
                · exact (below_drewN b3 nq).setCell kL _
            · have hq : (pt == pk) = false := by simp [he]
              have hn2 := hadd _ (if_neg he).symm
              replace hn2 := Lib.hid hn2
              replace he := Lib.hid he
              clear hadd
              go_upto_region 11 with fail
              go_quiet (fail)
              go_wp2
              go_roundw
              case measure => simp [intOf]; omega
              case rel => exact ⟨j + 1, m, by omega, by go_num, hlo.out, b3.trans ⟨rfl, rfl, rfl, Nat.le_refl _, fun _ _ => rfl⟩, hn2.out⟩
          · obtain rfl : j = gk.length := by omega
            have hnext := (hal.out ▸ hm : LoopTo G ps k (adjOf G k).length m).next
            replace hnext := Lib.hid hnext
            replace hm := Lib.hid hm
            replace hlo := Lib.hid hlo
            go_wp2
            go_roundw
            case measure => simp [intOf]; omega
            case rel => exact ⟨k + 1, m, by omega, by go_num, hlo.out, b3, hnext.out⟩
      · obtain rfl : k = G.length := by omega
        have hbw : Below w.heap.size w wo := b1.trans (b3.mono b1.size)
        have hR1 := reach_any na nc G (.slice la ln lc) m wo (h.out.below hbw) hok.out (by omega) hlo.at
        have hon : ∀ x, x < G.length → (m x = true ↔ OnLoop (adjOf G) x) := fun x hx => by
          rw [hm x hx, onLoop_parts hok.out hps.out hx]
          constructor
          · rintro (⟨_, q⟩ | ⟨e, _⟩)
            · exact q
            · omega
          · intro q; exact .inl ⟨hx, q⟩
        replace hm := Lib.hid hm
        replace hon := Lib.hid hon
        replace hR1 := Lib.hid hR1
        have hlo' := Lib.hid hlo
        clear hlo
        go_wp2_with fail
        refine hR1.out.mono ?_
        rintro e w4 ⟨bv, rfl, b4, bm, hbo, hbm⟩
        have hb4 := Below.step hbw b4
        have hBk := graph_back na nc G w4 (h.out.below hb4) hok.out (by omega) harr
        replace hBk := Lib.hid hBk
        go_wp2_with fail
        refine hBk.out.mono ?_
        rintro e w5 ⟨hv, rfl, b5, H, hT, hHl⟩
        obtain ⟨ha, hc, rfl⟩ := hHl.shape
        have hHn := hT.1
        have hR2 := reach_any ha hc H (.slice la ln lc) m w5 hHl (turned_ok hT) (by omega) (by rw [hHn]; exact (hlo'.out.at.below b4).below b5)
        replace hR2 := Lib.hid hR2
        replace hHn := Lib.hid hHn
        replace hT := Lib.hid hT
        replace hHl := Lib.hid hHl
        go_wp2_with fail
        refine hR2.out.mono ?_
        rintro e w6 ⟨av, rfl, b6, am, hao, ham⟩
        rw [hHn.out] at hao ham
        have hboth : ∀ x, x < G.length → ((bm x && am x) = true ↔ IsLive G.length (adjOf G) x) := fun x hx => by
          rw [Bool.and_eq_true, hbm x hx, ham x hx]
          unfold IsLive
          constructor
          · rintro ⟨⟨u, hu, h1, h2⟩, v, hv, h3, h4⟩
            exact ⟨⟨u, hu, (hon.out u hu).1 h1, h2⟩, v, hv, (hon.out v hv).1 h3, turned_goes hT.out hok.out h4 hv⟩
          · rintro ⟨⟨u, hu, h1, h2⟩, v, hv, h3, h4⟩
            exact ⟨⟨u, hu, (hon.out u hu).2 h1, h2⟩, v, hv, (hon.out v hv).2 h3, goes_turned hT.out hok.out h4 hx⟩
        have hbv := hbo.at.below (Below.step b5 b6)
        have hav := hao.at
        have hw6 := Below.step hb4 (Below.step b5 b6)
        replace hboth := Lib.hid hboth
        replace hbm := Lib.hid hbm
        replace ham := Lib.hid ham
        replace hbv := Lib.hid hbv
        replace hav := Lib.hid hav
        replace hbo := Lib.hid hbo
        replace hao := Lib.hid hao
        clear hR1 hR2 hBk
        go_wp2_with fail
        go_loopw [13, 62] (fun qv kv wr => ∃ (k : Nat) (L : List Nat) (qw : Value), qw = qv ∧ kv = .int .i64 k ∧ k ≤ G.length ∧ L.length ≤ k ∧ OwnI w6.heap.size wr qw (castI L) ∧ Below w6.heap.size w6 wr ∧ L.Pairwise (· < ·) ∧ ∀ v, v ∈ L ↔ (v < k ∧ (bm v && am v) = true)) (fun _ kv _ => G.length - (intOf kv).toNat)
        case atStart => exact ⟨0, [], _, rfl, rfl, by omega, by simp, OwnI.nil _ _, Below.refl _ _, List.Pairwise.nil, fun v => ⟨fun q => (by cases q), fun q => by omega⟩⟩
        case round =>
          obtain ⟨k, L, qv, rfl, rfl, hk, hLk, hLo, b7, hLs, hLm⟩ := hrel
          obtain ⟨wo, rfl⟩ : ∃ wo : World, wo = wr := ⟨_, rfl⟩
          by_cases hlt : k < G.length
          · have hB := hbv.out.below b7
            have hA := hav.out.below b7
            have iB := fun w' => hB.idx oneBoolG k (by rw [tabB_len]; exact hlt) w'
            have cB := hB.cellV k (by rw [tabB_len]; exact hlt)
            rw [tabB_get _ _ _ hlt] at cB
            have iA := fun w' => hA.idx oneBoolG k (by rw [tabB_len]; exact hlt) w'
            have cA := hA.cellV k (by rw [tabB_len]; exact hlt)
            rw [tabB_get _ _ _ hlt] at cA
            generalize valAt bv k = qb at *
            generalize valAt av k = qa at *
            have hyes : (bm k && am k) = true → ∀ v, v ∈ L ++ [k] ↔ (v < k + 1 ∧ (bm v && am v) = true) := fun hq v => by
              rw [List.mem_append, hLm v, List.mem_singleton]
              constructor
              · rintro (⟨a, b⟩ | rfl)
                · exact ⟨by omega, b⟩
                · exact ⟨by omega, hq⟩
              · rintro ⟨a, b⟩
                by_cases e : v = k
                · exact .inr e
                · exact .inl ⟨by omega, b⟩
            have hno : (bm k && am k) = false → ∀ v, v ∈ L ↔ (v < k + 1 ∧ (bm v && am v) = true) := fun hq v => by
              rw [hLm v]
              constructor
              · rintro ⟨a, b⟩; exact ⟨by omega, b⟩
              · rintro ⟨a, b⟩
                by_cases e : v = k
                · subst e; rw [hq] at b; cases b
                · exact ⟨by omega, b⟩
            have hsrt2 : (L ++ [k]).Pairwise (· < ·) := by
              rw [List.pairwise_append]
              refine ⟨hLs, List.pairwise_singleton _ _, fun x hx y hy => ?_⟩
              cases List.mem_singleton.1 hy
              exact ((hLm x).1 hx).1
            obtain ⟨bk, hbk⟩ : ∃ bk, bm k = bk := ⟨_, rfl⟩
            obtain ⟨ak, hak⟩ : ∃ ak, am k = ak := ⟨_, rfl⟩
            rw [hbk] at cB hyes hno
            rw [hak] at cA hyes hno
            replace hB := Lib.hid hB
            replace hA := Lib.hid hA
            replace hLm := Lib.hid hLm
            replace hLs := Lib.hid hLs
            replace hsrt2 := Lib.hid hsrt2
            replace hbk := Lib.hid hbk
            replace hak := Lib.hid hak
            cases bk with
            | false =>
              have hn := hno rfl
              replace hn := Lib.hid hn
              replace hLo := Lib.hid hLo
              clear hyes hno
              go_wp2
              go_roundw
              case measure => simp [intOf]; omega
              case rel => exact ⟨k + 1, L, qv, rfl, by go_num, by omega, by omega, hLo.out, b7, hLs.out, hn.out⟩
            | true =>
              cases ak with
              | false =>
                have hn := hno rfl
                replace hn := Lib.hid hn
                replace hLo := Lib.hid hLo
                clear hyes hno
                go_wp2
                go_roundw
                case measure => simp [intOf]; omega
                case rel => exact ⟨k + 1, L, qv, rfl, by go_num, by omega, by omega, hLo.out, b7, hLs.out, hn.out⟩
              | true =>
                have hy := hyes rfl
                replace hy := Lib.hid hy
                clear hyes hno
                have hB7 : w6.heap.size ≤ wo.heap.size := b7.size
                go_wp2_with (at_builtin; refine wpl_app1 rfl _ _ rfl w6.heap.size qv (castI L) k hLo rfl rfl (by rw [castI_len]; omega) hB7 ?_)
                intro qv' w8 ho8 b8 hal8
                replace ho8 := Lib.hid ho8
                clear hal8 hLo
                go_wp2
                go_roundw
                case measure => simp [intOf]; omega
                case rel => exact ⟨k + 1, L ++ [k], qv', rfl, by go_num, by omega, by rw [List.length_append]; simp only [List.length_cons, List.length_nil]; omega, by rw [castI_snoc]; exact ho8.out, b7.trans b8, hsrt2.out, hy.out⟩
          · obtain rfl : k = G.length := by omega
            have hLL : LiveList G.length (adjOf G) L := ⟨hLs, fun v => by
              rw [hLm v]
              constructor
              · rintro ⟨a, b⟩; exact ⟨a, (hboth.out v a).1 b⟩
              · rintro ⟨a, b⟩; exact ⟨a, (hboth.out v a).2 b⟩⟩
            obtain ⟨qa, qn, qc, rfl⟩ := hLo.at.shape
            replace hLL := Lib.hid hLL
            replace hLo := Lib.hid hLo
            replace hLm := Lib.hid hLm
            replace hLs := Lib.hid hLs
            go_wp2
            go_ret2
            exact ⟨_, _, rfl, Below.step hw6 b7, ⟨by rw [hck.out]; rfl, ⟨fun _ => ⟨L, hLL.out, hLo.out.mono hw6.size⟩, fun q => absurd hck.out q⟩⟩⟩
end Go.Proofs.YtbpdmpcakenjhaaDoor

namespace Go.Proofs.YtbpdmpcakenjhaaDoor
open Go.RowKit
set_option maxRecDepth 100000

/-- No vertex of G. -/
def outG (G : List (List Int)) (a : Int) : Prop := a < 0 ∨ (G.length : Int) ≤ a
instance (G : List (List Int)) (a : Int) : Decidable (outG G a) := by unfold outG; infer_instance
/-- What Path tells of its arguments. -/
def pathE (G : List (List Int)) (a b : Int) : PErr :=
  match checkG G with
  | some t => some t
  | none => if outG G a then fresh sGraph 1 3 else if outG G b then fresh sGraph 2 3 else none
theorem pathE_none {G : List (List Int)} {a b : Int} (h : pathE G a b = none) : checkG G = none ∧ ∃ x y : Nat, a = x ∧ b = y ∧ x < G.length ∧ y < G.length := by
  unfold pathE at h
  cases hc : checkG G with
  | some t => rw [hc] at h; cases h
  | none =>
    rw [hc] at h
    dsimp only at h
    by_cases ha : outG G a
    · rw [if_pos ha] at h; cases h
    rw [if_neg ha] at h
    by_cases hb : outG G b
    · rw [if_pos hb] at h; cases h
    unfold outG at ha hb
    exact ⟨rfl, a.toNat, b.toNat, by omega, by omega, by omega, by omega⟩
theorem pathE_ok {G : List (List Int)} {x y : Nat} (hc : checkG G = none) (hx : x < G.length) (hy : y < G.length) : pathE G x y = none := by
  unfold pathE
  rw [hc]
  dsimp only
  rw [if_neg (by unfold outG; omega), if_neg (by unfold outG; omega)]
/-- What Path leaves. -/
def PathPost (r : Nat → Addr) (w : World) (G : List (List Int)) (a b : Int) (x y : Value) (w' : World) : Prop :=
  ErrIs r w' (pathE G a b) y ∧ (pathE G a b = none → FirstPost w (adjOf G) a.toNat b.toNat x w') ∧ (pathE G a b ≠ none → x = .slice none 0 0)
theorem FirstPost.step {w1 w2 w3 : World} {adj : Nat → List Nat} {a b : Nat} {x : Value} (h : FirstPost w2 adj a b x w3) (hs : w1.heap.size ≤ w2.heap.size) : FirstPost w1 adj a b x w3 := by
  rcases h with ⟨u, h1, h2⟩ | h
  · exact .inl ⟨u, h1, h2.mono hs⟩
  · exact .inr h
theorem FirstPost.shape {w w' : World} {adj : Nat → List Nat} {a b : Nat} {x : Value} (h : FirstPost w adj a b x w') : ∃ p n c, x = .slice p n c := by
  rcases h with ⟨u, _, h2⟩ | ⟨_, h⟩
  · exact h2.at.shape
  · exact ⟨_, _, _, h⟩

set_option maxHeartbeats 4000000 in
theorem path_any (r : Nat → Addr) (na : Option Addr) (nc : Nat) (G : List (List Int)) (a b : Int) (w : World) (hg : Glob r w) (h : ListsAt w (.slice na G.length nc) G) (hsz : ∀ k, k < G.length → (G.getD k []).length ≤ 17592186044416) :
    Calls Tryd.prog 19 #[.slice na G.length nc, .int .i64 a, .int .i64 b] w (Ret2 (PathPost r w G a b) w) := by
  have hC := graph_check r na nc G w hg h hsz
  cases hck : checkG G with
  | some t =>
    rw [hck] at hC
    have hp : pathE G a b = some t := by unfold pathE; rw [hck]
    replace hp := Lib.hid hp
    replace hck := Lib.hid hck
    replace h := Lib.hid h
    replace hg := Lib.hid hg
    replace hsz := Lib.hid hsz
    go_enter Tryd.func19, Tryd.ntmps19
    go_wp2_with fail
    refine hC.mono ?_
    rintro e w1 ⟨y, rfl, b1, he⟩
    obtain ⟨T, p, rfl⟩ := he.some_shape
    replace he := Lib.hid he
    go_wp2
    go_ret2
    exact ⟨_, _, rfl, b1, ⟨by rw [hp.out]; exact he.out, ⟨fun q => (by rw [hp.out] at q; cases q), fun _ => rfl⟩⟩⟩
  | none =>
    rw [hck] at hC
    obtain ⟨hn, harr, hok⟩ := checkG_none hck
    by_cases ha : outG G a
    · have hp : pathE G a b = fresh sGraph 1 3 := by unfold pathE; rw [hck]; dsimp only; rw [if_pos ha]
      replace hp := Lib.hid hp
      replace hck := Lib.hid hck
      replace h := Lib.hid h
      replace hg := Lib.hid hg
      replace hsz := Lib.hid hsz
      replace hok := Lib.hid hok
      rcases ha with ha | ha
      · go_enter Tryd.func19, Tryd.ntmps19
        go_wp2_with fail
        refine hC.mono ?_
        rintro e w1 ⟨y, rfl, b1, he⟩
        obtain rfl := he.none_eq
        clear he hC
        go_wp2_with fail
        refine (graph_wrong r _ _ _ (hg.out.below b1) (by decide) (by decide)).mono ?_
        rintro e w2 ⟨y, rfl, b2, he⟩
        replace he := Lib.hid he
        go_wp2
        go_ret2
        exact ⟨_, _, rfl, Below.step b1 b2, ⟨by rw [hp.out]; exact he.out, ⟨fun q => (by rw [hp.out] at q; cases q), fun _ => rfl⟩⟩⟩
      · have ha0 : ¬ a < 0 := by omega
        go_enter Tryd.func19, Tryd.ntmps19
        go_wp2_with fail
        refine hC.mono ?_
        rintro e w1 ⟨y, rfl, b1, he⟩
        obtain rfl := he.none_eq
        clear he hC
        go_wp2_with fail
        refine (graph_wrong r _ _ _ (hg.out.below b1) (by decide) (by decide)).mono ?_
        rintro e w2 ⟨y, rfl, b2, he⟩
        replace he := Lib.hid he
        go_wp2
        go_ret2
        exact ⟨_, _, rfl, Below.step b1 b2, ⟨by rw [hp.out]; exact he.out, ⟨fun q => (by rw [hp.out] at q; cases q), fun _ => rfl⟩⟩⟩
    · have ha1 : 0 ≤ a ∧ a < G.length := by unfold outG at ha; omega
      obtain ⟨ha1, ha2⟩ := ha1
      by_cases hb : outG G b
      · have hp : pathE G a b = fresh sGraph 2 3 := by unfold pathE; rw [hck]; dsimp only; rw [if_neg ha, if_pos hb]
        replace hp := Lib.hid hp
        replace hck := Lib.hid hck
        replace h := Lib.hid h
        replace hg := Lib.hid hg
        replace hsz := Lib.hid hsz
        replace hok := Lib.hid hok
        clear ha
        rcases hb with hb | hb
        · go_enter Tryd.func19, Tryd.ntmps19
          go_wp2_with fail
          refine hC.mono ?_
          rintro e w1 ⟨y, rfl, b1, he⟩
          obtain rfl := he.none_eq
          clear he hC
          go_wp2_with fail
          refine (graph_wrong r _ _ _ (hg.out.below b1) (by decide) (by decide)).mono ?_
          rintro e w2 ⟨y, rfl, b2, he⟩
          replace he := Lib.hid he
          go_wp2
          go_ret2
          exact ⟨_, _, rfl, Below.step b1 b2, ⟨by rw [hp.out]; exact he.out, ⟨fun q => (by rw [hp.out] at q; cases q), fun _ => rfl⟩⟩⟩
        · have hb0 : ¬ b < 0 := by omega
          go_enter Tryd.func19, Tryd.ntmps19
          go_wp2_with fail
          refine hC.mono ?_
          rintro e w1 ⟨y, rfl, b1, he⟩
          obtain rfl := he.none_eq
          clear he hC
          go_wp2_with fail
          refine (graph_wrong r _ _ _ (hg.out.below b1) (by decide) (by decide)).mono ?_
          rintro e w2 ⟨y, rfl, b2, he⟩
          replace he := Lib.hid he
          go_wp2
          go_ret2
          exact ⟨_, _, rfl, Below.step b1 b2, ⟨by rw [hp.out]; exact he.out, ⟨fun q => (by rw [hp.out] at q; cases q), fun _ => rfl⟩⟩⟩
      · have hb1 : 0 ≤ b ∧ b < G.length := by unfold outG at hb; omega
        obtain ⟨hb1, hb2⟩ := hb1
        have hp : pathE G a b = none := by unfold pathE; rw [hck]; dsimp only; rw [if_neg ha, if_neg hb]
        obtain ⟨x, rfl⟩ := Int.eq_ofNat_of_zero_le ha1
        obtain ⟨y, rfl⟩ := Int.eq_ofNat_of_zero_le hb1
        have hx : x < G.length := by omega
        have hy : y < G.length := by omega
        clear ha hb ha1 hb1 ha2 hb2
        replace hp := Lib.hid hp
        replace hck := Lib.hid hck
        replace h := Lib.hid h
        replace hg := Lib.hid hg
        replace hsz := Lib.hid hsz
        replace hok := Lib.hid hok
        go_enter Tryd.func19, Tryd.ntmps19
        go_wp2_with fail
        refine hC.mono ?_
        rintro e w1 ⟨y', rfl, b1, he⟩
        obtain rfl := he.none_eq
        clear he hC
        go_wp2_with fail
        refine (first_any na nc G x y _ (h.out.below b1) hok.out (by omega) hx hy hsz.out).mono ?_
        rintro e w2 ⟨z, rfl, b2, hz⟩
        obtain ⟨zp, zn, zc, rfl⟩ := hz.shape
        replace hz := Lib.hid hz
        go_wp2
        go_ret2
        exact ⟨_, _, rfl, Below.step b1 b2, ⟨by rw [hp.out]; rfl, ⟨fun _ => by rw [Int.toNat_natCast, Int.toNat_natCast]; exact hz.out.step b1.size, fun q => absurd hp.out q⟩⟩⟩
end Go.Proofs.YtbpdmpcakenjhaaDoor

namespace Go.Proofs.YtbpdmpcakenjhaaDoor
open Go.RowKit
set_option maxRecDepth 100000

/-- Arrows to v now lead to n. -/
def mapW (v n : Nat) (l : List Int) : List Int := l.map fun t => if t = (v : Int) then (n : Int) else t
theorem mapW_len (v n : Nat) (l : List Int) : (mapW v n l).length = l.length := by simp [mapW]
/-- The lists behind the first k. -/
def wideTo (G : List (List Int)) (v k : Nat) : Nat → List Int := fun u => if u < k then mapW v G.length (G.getD u []) else []
def wideG (G : List (List Int)) (v : Nat) : List (List Int) := rowsOf (G.length + 1) (wideTo G v G.length)
/-- Within a list: the first j. -/
def midW (v n : Nat) (l : List Int) (j : Nat) : List Int := mapW v n (l.take j) ++ l.drop j
theorem midW_zero (v n : Nat) (l : List Int) : midW v n l 0 = l := by simp [midW, mapW]
theorem midW_full (v n : Nat) (l : List Int) : midW v n l l.length = mapW v n l := by simp [midW]
theorem midW_len (v n : Nat) (l : List Int) (j : Nat) (hj : j ≤ l.length) : (midW v n l j).length = l.length := by simp [midW, mapW_len]; omega
theorem mapW_append (v n : Nat) (a b : List Int) : mapW v n (a ++ b) = mapW v n a ++ mapW v n b := by unfold mapW; exact List.map_append
theorem midW_next (v n : Nat) (l : List Int) (j : Nat) (hj : j < l.length) : midW v n l (j + 1) = mapW v n (l.take j) ++ (if l[j] = (v : Int) then (n : Int) else l[j]) :: l.drop (j + 1) := by
  unfold midW
  rw [take_snoc l j hj, mapW_append, List.append_assoc]
  rfl
theorem midW_now (v n : Nat) (l : List Int) (j : Nat) (hj : j < l.length) : midW v n l j = mapW v n (l.take j) ++ l[j] :: l.drop (j + 1) := by
  unfold midW
  rw [← List.drop_eq_getElem_cons hj]
theorem midW_step (v n : Nat) (l : List Int) (j : Nat) (hj : j < l.length) : midW v n l (j + 1) = (midW v n l j).set j (if l[j] = (v : Int) then (n : Int) else l[j]) := by
  have hl : (mapW v n (l.take j)).length = j := by rw [mapW_len, List.length_take]; omega
  rw [midW_next v n l j hj, midW_now v n l j hj, List.set_append_right _ _ (by omega), hl, Nat.sub_self, List.set_cons_zero]
theorem midW_same (v n : Nat) (l : List Int) (j : Nat) (hj : j < l.length) (he : l[j] ≠ (v : Int)) : midW v n l (j + 1) = midW v n l j := by
  rw [midW_next v n l j hj, midW_now v n l j hj, if_neg he]
theorem updN_updN {α : Type} (f : Nat → α) (k : Nat) (a b : α) : updN (updN f k a) k b = updN f k b := by
  funext x
  by_cases e : x = k
  · subst e; rw [updN_same, updN_same]
  · rw [updN_other _ _ _ e, updN_other _ _ _ e, updN_other _ _ _ e]
theorem wideTo_succ (G : List (List Int)) (v k : Nat) : updN (wideTo G v k) k (mapW v G.length (G.getD k [])) = wideTo G v (k + 1) := by
  funext u
  unfold wideTo
  by_cases e : u = k
  · subst e; rw [updN_same, if_pos (by omega)]
  · rw [updN_other _ _ _ e]
    by_cases q : u < k
    · rw [if_pos q, if_pos (by omega)]
    · rw [if_neg q, if_neg (by omega)]
theorem wideG_len (G : List (List Int)) (v : Nat) : (wideG G v).length = G.length + 1 := rowsOf_len _ _
theorem wideG_row (G : List (List Int)) (v u : Nat) (hu : u < G.length) : (wideG G v).getD u [] = mapW v G.length (G.getD u []) := by
  unfold wideG
  rw [rowsOf_get _ _ _ (by omega)]
  exact if_pos hu
theorem wideG_last (G : List (List Int)) (v : Nat) : (wideG G v).getD G.length [] = [] := by
  unfold wideG
  rw [rowsOf_get _ _ _ (by omega)]
  exact if_neg (by omega)
theorem wideG_ok {G : List (List Int)} (hok : GraphOk G) (v : Nat) : GraphOk (wideG G v) := by
  intro u hu t ht
  rw [wideG_len] at hu ⊢
  by_cases e : u < G.length
  · rw [wideG_row G v u e] at ht
    obtain ⟨x, hx, rfl⟩ := List.mem_map.1 ht
    have := hok u e x hx
    split <;> omega
  · obtain rfl : u = G.length := by omega
    rw [wideG_last] at ht; cases ht
theorem wide_adj {G : List (List Int)} (hok : GraphOk G) (v : Nat) {u : Nat} (hu : u < G.length) (t : Nat) : t ∈ adjOf (wideG G v) u ↔ (t ≠ v ∧ t ∈ adjOf G u ∧ t < G.length) ∨ (t = G.length ∧ v ∈ adjOf G u) := by
  unfold adjOf
  rw [wideG_row G v u hu]
  simp only [List.mem_map, mapW]
  constructor
  · rintro ⟨y, ⟨x, hx, rfl⟩, rfl⟩
    have := hok u hu x hx
    by_cases e : x = (v : Int)
    · rw [if_pos e]; exact .inr ⟨by simp, x, hx, by rw [e]; simp⟩
    · rw [if_neg e]; exact .inl ⟨by omega, ⟨x, hx, rfl⟩, by omega⟩
  · rintro (⟨h1, ⟨x, hx, rfl⟩, _⟩ | ⟨rfl, x, hx, he⟩)
    · have := hok u hu x hx
      exact ⟨x, ⟨x, hx, if_neg (by omega)⟩, rfl⟩
    · have := hok u hu x hx
      exact ⟨(G.length : Int), ⟨x, hx, if_pos (by omega)⟩, by simp⟩
theorem wide_end (G : List (List Int)) (v : Nat) : adjOf (wideG G v) G.length = [] := by unfold adjOf; rw [wideG_last]; rfl
/-- What Loop tells of its arguments. -/
def loopE (G : List (List Int)) (a : Int) : PErr :=
  match checkG G with
  | some t => some t
  | none => if outG G a then fresh sGraph 1 3 else none
theorem loopE_ok {G : List (List Int)} {x : Nat} (hc : checkG G = none) (hx : x < G.length) : loopE G x = none := by
  unfold loopE
  rw [hc]
  dsimp only
  rw [if_neg (by unfold outG; omega)]
def LoopWay (w : World) (G : List (List Int)) (v : Nat) (x : Value) (w' : World) : Prop :=
  (∃ u, IsFirst (adjOf (wideG G v)) v G.length u ∧ OwnI w.heap.size w' x (castI u.dropLast)) ∨ (¬ Goes (adjOf (wideG G v)) v G.length ∧ x = .slice none 0 0)
/-- What Loop leaves. -/
def LoopPost (r : Nat → Addr) (w : World) (G : List (List Int)) (a : Int) (x y : Value) (w' : World) : Prop :=
  ErrIs r w' (loopE G a) y ∧ (loopE G a = none → LoopWay w G a.toNat x w') ∧ (loopE G a ≠ none → x = .slice none 0 0)
/-- One's own slice, cut at its end. -/
theorem OwnI.cut {B : Nat} {w : World} {g m c : Nat} {xs : List Int} (h : OwnI B w (.slice (some ⟨g, 0, none⟩) (m + 1) c) xs) (hl : xs.length = m + 1) : OwnI B w (.slice (some ⟨g, 0, none⟩) m c) (xs.take m) := by
  rcases h.2 with ⟨e, _⟩ | ⟨g', cap', cur, e, hB, hg, hn, hm, hs, ht⟩
  · cases e
  · injection e with e1 e2 e3
    injection e1 with e1
    injection e1 with e1
    subst e1; subst e3
    have hml : (xs.take m).length = m := by simp; omega
    refine ⟨by simp, .inr ⟨g, c, cur, by rw [hml], hB, hg, by rw [hml]; omega, hm, hs, ?_⟩⟩
    rw [hml]
    rw [hl] at ht
    have := congrArg (List.take m) ht
    rw [List.take_take] at this
    simp only [Nat.mul_one] at this ⊢
    rw [Nat.min_eq_left (by omega)] at this
    rw [this, List.map_take]

set_option maxHeartbeats 1000000 in
theorem loopG_any (r : Nat → Addr) (na : Option Addr) (nc : Nat) (G : List (List Int)) (a : Int) (w : World) (hg : Glob r w) (h : ListsAt w (.slice na G.length nc) G) (hsz : ∀ k, k < G.length → (G.getD k []).length ≤ 17592186044416) :
    Calls Tryd.prog 21 #[.slice na G.length nc, .int .i64 a] w (Ret2 (LoopPost r w G a) w) := by
  have hC := graph_check r na nc G w hg h hsz
  cases hck : checkG G with
  | some t =>
    rw [hck] at hC
    have hp : loopE G a = some t := by unfold loopE; rw [hck]
    replace hp := Lib.hid hp
    replace hck := Lib.hid hck
    replace h := Lib.hid h
    replace hg := Lib.hid hg
    replace hsz := Lib.hid hsz
    go_enter Tryd.func21, Tryd.ntmps21
    go_wp2_with fail
    refine hC.mono ?_
    rintro e w1 ⟨y, rfl, b1, he⟩
    obtain ⟨T, p, rfl⟩ := he.some_shape
    replace he := Lib.hid he
    go_wp2
    go_ret2
    exact ⟨_, _, rfl, b1, ⟨by rw [hp.out]; exact he.out, ⟨fun q => (by rw [hp.out] at q; cases q), fun _ => rfl⟩⟩⟩
  | none =>
    rw [hck] at hC
    obtain ⟨hn, harr, hok⟩ := checkG_none hck
    by_cases ha : outG G a
    · have hp : loopE G a = fresh sGraph 1 3 := by unfold loopE; rw [hck]; dsimp only; rw [if_pos ha]
      replace hp := Lib.hid hp
      replace hck := Lib.hid hck
      replace h := Lib.hid h
      replace hg := Lib.hid hg
      replace hsz := Lib.hid hsz
      replace hok := Lib.hid hok
      rcases ha with ha | ha
      · go_enter Tryd.func21, Tryd.ntmps21
        go_wp2_with fail
        refine hC.mono ?_
        rintro e w1 ⟨y, rfl, b1, he⟩
        obtain rfl := he.none_eq
        clear he hC
        go_wp2_with fail
        refine (graph_wrong r _ _ _ (hg.out.below b1) (by decide) (by decide)).mono ?_
        rintro e w2 ⟨y, rfl, b2, he⟩
        replace he := Lib.hid he
        go_wp2
        go_ret2
        exact ⟨_, _, rfl, Below.step b1 b2, ⟨by rw [hp.out]; exact he.out, ⟨fun q => (by rw [hp.out] at q; cases q), fun _ => rfl⟩⟩⟩
      · have ha0 : ¬ a < 0 := by omega
        go_enter Tryd.func21, Tryd.ntmps21
        go_wp2_with fail
        refine hC.mono ?_
        rintro e w1 ⟨y, rfl, b1, he⟩
        obtain rfl := he.none_eq
        clear he hC
        go_wp2_with fail
        refine (graph_wrong r _ _ _ (hg.out.below b1) (by decide) (by decide)).mono ?_
        rintro e w2 ⟨y, rfl, b2, he⟩
        replace he := Lib.hid he
        go_wp2
        go_ret2
        exact ⟨_, _, rfl, Below.step b1 b2, ⟨by rw [hp.out]; exact he.out, ⟨fun q => (by rw [hp.out] at q; cases q), fun _ => rfl⟩⟩⟩
    · have ha1 : 0 ≤ a ∧ a < G.length := by unfold outG at ha; omega
      obtain ⟨ha1, ha2⟩ := ha1
      obtain ⟨v, rfl⟩ := Int.eq_ofNat_of_zero_le ha1
      have hv : v < G.length := by omega
      have hp : loopE G (v : Int) = none := loopE_ok hck hv
      have hd1 : decide ((v : Int) < 0) = false := by simp
      have hd2 : decide (G.length ≤ v) = false := by simp; omega
      clear ha ha1 ha2
      replace hp := Lib.hid hp
      replace hck := Lib.hid hck
      replace h := Lib.hid h
      replace hg := Lib.hid hg
      replace hsz := Lib.hid hsz
      replace hok := Lib.hid hok
      go_enter Tryd.func21, Tryd.ntmps21
      go_wp2_with fail
      refine hC.mono ?_
      rintro e w1 ⟨y', rfl, b1, he⟩
      obtain rfl := he.none_eq
      clear he hC
      obtain ⟨ov, w2, mk, ho, hb2⟩ := run_makeW oneLists ((G.length : Int) + 1) (G.length + 1) w1 (by omega) (by omega)
      obtain ⟨f1, hr1, h1⟩ := WN.made (G.length + 1) hb2 (Nat.le_refl _) ho
      have h1 : WN f1 ov (List.replicate (G.length + 1) (.slice none 0 0)) (G.length + 1) (wideTo G v 0) := by
        have : (fun _ : Nat => ([] : List Int)) = wideTo G v 0 := by funext u; unfold wideTo; rw [if_neg (by omega)]
        rw [← this]; exact h1
      obtain ⟨oa, on, oc, rfl⟩ := ho.shape
      replace ho := Lib.hid ho
      replace hr1 := Lib.hid hr1
      go_wp2_with fail
      clear mk
      go_loopw [35] (fun kv wr => ∃ (k : Nat) (f : Names) (vals : List Value), k ≤ G.length ∧ kv = .int .i64 k ∧ Rows w1.heap.size wr f ∧ Below w1.heap.size w1 wr ∧ WN f (.slice oa on oc) vals (G.length + 1) (wideTo G v k)) (fun kv _ => G.length - (intOf kv).toNat)
      case atStart => exact ⟨0, f1, _, by omega, rfl, hr1.out, hb2, h1⟩
      case round =>
        clear h1 ho hr1
        obtain ⟨k, f2, vals, hk, rfl, hr2, b2, h2⟩ := hrel
        obtain ⟨wo, rfl⟩ : ∃ wo : World, wo = wr := ⟨_, rfl⟩
        by_cases hlt : k < G.length
        · obtain ⟨mv, iR, cR0, hM0⟩ := h.out.row k hlt
          have hbw : Below w.heap.size w wo := b1.trans (b2.mono b1.size)
          have cR := (hbw.cell (World.block_lt_of_cell? _ _ cR0)).trans cR0
          have hM := hM0.below hbw
          have hglen := hsz.out k hlt
          have hsucc := wideTo_succ G v k
          generalize G.getD k [] = gk at *
          have hcl := clone_any mv gk wo hM hglen
          have hOV := (hr2.ownV h2.outer).at
          have iO := fun w' => hOV.idx oneLists k (by rw [h2.len]; omega) w'
          have hput := fun (w1' : World) (v' : Value) (xs : List Int) => h2.put (B := w1.heap.size) (w1 := w1') (u := k) (by omega) (v' := v') (xs := xs)
          have hnew := fun (w1' : World) (v' : Value) (xs : List Int) => h2.new (B := w1.heap.size) hr2 (w1 := w1') k (v' := v') (xs := xs)
          have hBo := b2.size
          generalize valAt (.slice na G.length nc) k = ra at *
          obtain ⟨ua, hua⟩ : ∃ ua, valAt (.slice oa on oc) k = ua := ⟨_, rfl⟩
          rw [hua] at iO
          simp only [hua] at hput
          replace hua := Lib.hid hua
          replace hput := Lib.hid hput
          replace hnew := Lib.hid hnew
          replace hOV := Lib.hid hOV
          replace hr2 := Lib.hid hr2
          replace hM := Lib.hid hM
          replace hM0 := Lib.hid hM0
          replace hcl := Lib.hid hcl
          replace hsucc := Lib.hid hsucc
          go_wp2_with fail
          clear cR cR0 iR hbw
          refine hcl.out.mono ?_
          rintro e w3 ⟨cv, rfl, b3, hcv⟩
          have hR3 := hnew.out w3 cv gk b3 hBo hcv
          obtain ⟨y1, y2, y3, f4, hr4, h4, _⟩ := hput.out w3 cv gk hR3
          obtain ⟨va, vn, vc, rfl⟩ := hcv.at.shape
          have b4 : Below w1.heap.size w1 (w3.setCell ua (.slice va vn vc)) := (b2.trans (b3.mono hBo)).setCell y3 _
          have h4 : WN f4 (.slice oa on oc) (vals.set k (.slice va vn vc)) (G.length + 1) (updN (wideTo G v k) k (midW v G.length gk 0)) := by rw [midW_zero]; exact h4
          have lM := (hM0.out.below (b1.trans (b4.mono b1.size))).len
          obtain ⟨W4, hW4⟩ : ∃ W4 : World, W4 = w3.setCell ua (.slice va vn vc) := ⟨_, rfl⟩
          rw [← hW4] at hr4 b4
          replace hr4 := Lib.hid hr4
          replace hR3 := Lib.hid hR3
          replace hcv := Lib.hid hcv
          clear hcl
          go_upto_region 12 with fail
          rw [← hW4]
          clear hW4 y1 y2 iO
          go_wp2_with fail
          clear lM
          generalize vals.set k (.slice va vn vc) = vals at *
          go_loopw [47] (fun jv wr => ∃ (j : Nat) (f : Names) (vals : List Value), j ≤ gk.length ∧ jv = .int .i64 j ∧ Rows w1.heap.size wr f ∧ Below w1.heap.size w1 wr ∧ WN f (.slice oa on oc) vals (G.length + 1) (updN (wideTo G v k) k (midW v G.length gk j))) (fun jv _ => gk.length - (intOf jv).toNat)
          case atStart => exact ⟨0, f4, _, by omega, rfl, hr4.out, b4, h4⟩
          case round =>
            clear hr4 h4 b4 hR3 hcv hM hr2 hnew hput hOV y3
            obtain ⟨j, f5, vals, hj, rfl, hr5, b5, h5⟩ := hrel
            obtain ⟨wo, rfl⟩ : ∃ wo : World, wo = wr := ⟨_, rfl⟩
            by_cases hjl : j < gk.length
            · have hMj := hM0.out.below (b1.trans (b5.mono b1.size))
              have iJ := fun w' => hMj.idx j hjl w'
              have cJ := hMj.cell j hjl
              generalize valAt mv j = ja at *
              have hstep := midW_step v G.length gk j hjl
              have hsame := midW_same v G.length gk j hjl
              obtain ⟨t, ht⟩ : ∃ t, gk[j] = t := ⟨_, rfl⟩
              rw [ht] at cJ hstep hsame
              replace hMj := Lib.hid hMj
              replace ht := Lib.hid ht
              by_cases htv : t = (v : Int)
              · have hq : (t == (v : Int)) = true := by simp [htv]
                rw [if_pos htv] at hstep
                have hOV := (hr5.ownV h5.outer).at
                have iO := fun w' => hOV.idx oneLists k (by rw [h5.len]; omega) w'
                have cO := hOV.cellV k (by rw [h5.len]; omega)
                have hrow := hr5.ownI (h5.rows k (by omega))
                rw [updN_same] at hrow
                have hml : (midW v G.length gk j).length = gk.length := midW_len _ _ _ _ hj
                have iE := fun w' => hrow.at.idx j (by rw [hml]; exact hjl) w'
                have cE := hrow.at.cellD j (by rw [hml]; exact hjl)
                have fE := hrow.frz j (by rw [hml]; exact hjl)
                have kE := (hrow.toV.blkB j (by rw [List.length_map, hml]; exact hjl)).2
                obtain ⟨f6, hr6, h6⟩ := h5.elem hr5 k (by omega) j (by rw [updN_same, hml]; exact hjl) (G.length : Int)
                rw [updN_same, ← hstep, updN_updN] at h6
                have b6 : Below w1.heap.size w1 (wo.setCell (valAt (vAt vals k) j) (.int .i64 (G.length : Int))) := b5.setCell kE _
                generalize valAt (vAt vals k) j = ea at *
                generalize vAt vals k = ev at *
                generalize valAt (.slice oa on oc) k = ua at *
                generalize (midW v G.length gk j).getD j 0 = eo at *
                subst htv
                replace hr6 := Lib.hid hr6
                replace hr5 := Lib.hid hr5
                replace hOV := Lib.hid hOV
                replace hrow := Lib.hid hrow
                replace hstep := Lib.hid hstep
                replace hsame := Lib.hid hsame
                replace hml := Lib.hid hml
                go_wp2
                go_roundw
                case measure => simp [intOf]; omega
                case rel => exact ⟨j + 1, f6, vals, by omega, by go_num, hr6.out, b6, h6⟩
              · have hq : (t == (v : Int)) = false := by simp [htv]
                have h6 := h5
                rw [← hsame htv] at h6
                replace hr5 := Lib.hid hr5
                replace hstep := Lib.hid hstep
                replace hsame := Lib.hid hsame
                go_wp2
                go_roundw
                case measure => simp [intOf]; omega
                case rel => exact ⟨j + 1, f5, vals, by omega, by go_num, hr5.out, b5, h6⟩
            · obtain rfl : j = gk.length := by omega
              rw [midW_full, hsucc.out] at h5
              replace hr5 := Lib.hid hr5
              go_wp2
              go_roundw
              case measure => simp [intOf]; omega
              case rel => exact ⟨k + 1, f5, vals, by omega, by go_num, hr5.out, b5, h5⟩
        · obtain rfl : k = G.length := by omega
          have hWL := h2.lists hr2
          have hWL : ListsAt wo (.slice oa on oc) (wideG G v) := hWL
          obtain ⟨oa', oc', he⟩ := hWL.shape
          injection he with he1 he2 he3
          clear he1 he3
          rw [he2] at hWL
          have hF := first_any oa oc (wideG G v) v G.length wo hWL (wideG_ok hok.out v) (by rw [wideG_len]; omega) (by rw [wideG_len]; omega) (by rw [wideG_len]; omega) (fun u hu => by
            rw [wideG_len] at hu
            by_cases e : u < G.length
            · rw [wideG_row G v u e, mapW_len]; exact hsz.out u e
            · obtain rfl : u = G.length := by omega
              rw [wideG_last]; exact Nat.zero_le _)
          rw [← he2] at hF
          replace hF := Lib.hid hF
          replace he2 := Lib.hid he2
          replace hWL := Lib.hid hWL
          replace hr2 := Lib.hid hr2
          go_wp2_with fail
          refine hF.out.mono ?_
          rintro e w5 ⟨xv, rfl, b5, hx⟩
          have hbw : Below w.heap.size w wo := b1.trans (b2.mono b1.size)
          rcases hx with ⟨u, hu, hxo⟩ | ⟨hno, rfl⟩
          · have hul := hu.way.pos
            obtain ⟨g, c, e1, e2⟩ := row_shape (show w5.ownsRow wo.heap.size 3 1 xv (castI u).length ((castI u).map (Value.int .i64)) from hxo) (by rw [castI_len]; exact hul)
            obtain ⟨m, hm⟩ : ∃ m, u.length = m + 1 := ⟨u.length - 1, by omega⟩
            rw [castI_len, hm] at e1 e2
            subst e1
            have hcut := hxo.cut (by rw [castI_len, hm])
            have hdl : (castI u).take m = castI u.dropLast := by
              unfold castI
              rw [List.dropLast_eq_take, hm, ← List.map_take]; rfl
            rw [hdl] at hcut
            have hmb : m ≤ 9223372036854775806 := by
              have := hxo.at.len_le
              rw [castI_len, hm] at this; omega
            have hwr : IntKind.i64.wrap (m : Int) = m := wrapK (by omega) (by omega)
            have hsl : (0 ≤ (m : Int) ∧ (m : Int) ≤ (c : Int)) := ⟨by omega, by omega⟩
            have hne : (((m : Int) + 1) == 0) = false := by rw [beq_eq_false_iff_ne]; omega
            replace hcut := Lib.hid hcut
            replace hxo := Lib.hid hxo
            replace hdl := Lib.hid hdl
            replace hm := Lib.hid hm
            go_wp2
            go_ret2
            exact ⟨_, _, rfl, Below.step hbw b5, ⟨by rw [hp.out]; rfl, ⟨fun _ => by rw [Int.toNat_natCast]; exact .inl ⟨u, hu, hcut.out.mono hbw.size⟩, fun q => absurd hp.out q⟩⟩⟩
          · replace hno := Lib.hid hno
            go_wp2
            go_ret2
            exact ⟨_, _, rfl, Below.step hbw b5, ⟨by rw [hp.out]; rfl, ⟨fun _ => by rw [Int.toNat_natCast]; exact .inr ⟨hno.out, rfl⟩, fun q => absurd hp.out q⟩⟩⟩
end Go.Proofs.YtbpdmpcakenjhaaDoor

namespace Go.Proofs.YtbpdmpcakenjhaaDoor
open Go.RowKit
set_option maxRecDepth 100000

def sixG : List (List Int) := [[1], [2], [1, 3], [4], [4], [0]]
theorem six_check : checkG sixG = none := by rfl
theorem six_ok : GraphOk sixG := (checkG_none six_check).2.2
theorem six_sz : ∀ k, k < sixG.length → (sixG.getD k []).length ≤ 17592186044416 := by
  intro k hk
  have : k < 6 := hk
  match k, this with
  | 0, _ => decide
  | 1, _ => decide
  | 2, _ => decide
  | 3, _ => decide
  | 4, _ => decide
  | 5, _ => decide
/-- A number for each vertex that no arrow lowers. -/
def rk6 (v : Nat) : Nat := [1, 2, 2, 3, 4, 0].getD v 9
theorem adj6 (v : Nat) : adjOf sixG v = [[1], [2], [1, 3], [4], [4], [0]].getD v [] := by
  match v with
  | 0 => rfl
  | 1 => rfl
  | 2 => rfl
  | 3 => rfl
  | 4 => rfl
  | 5 => rfl
  | n + 6 => rfl
theorem rk6_step {x t : Nat} (ht : t ∈ adjOf sixG x) : rk6 x ≤ rk6 t := by
  rw [adj6] at ht
  match x, ht with
  | 0, ht => simp at ht; subst ht; decide
  | 1, ht => simp at ht; subst ht; decide
  | 2, ht => simp at ht; rcases ht with rfl | rfl <;> decide
  | 3, ht => simp at ht; subst ht; decide
  | 4, ht => simp at ht; subst ht; decide
  | 5, ht => simp at ht; subst ht; decide
  | n + 6, ht => simp at ht
theorem rk6_goes {x y : Nat} (h : Goes (adjOf sixG) x y) : rk6 x ≤ rk6 y := by
  induction h with
  | refl => exact Nat.le_refl _
  | step _ hz ih => exact Nat.le_trans ih (rk6_step hz)
theorem g01 : Goes (adjOf sixG) 0 1 := .one (by rw [adj6]; decide)
theorem g12 : Goes (adjOf sixG) 1 2 := .one (by rw [adj6]; decide)
theorem g21 : Goes (adjOf sixG) 2 1 := .one (by rw [adj6]; decide)
theorem g23 : Goes (adjOf sixG) 2 3 := .one (by rw [adj6]; decide)
theorem g34 : Goes (adjOf sixG) 3 4 := .one (by rw [adj6]; decide)
theorem six_parts {ps : List Int} (h : PartsOf sixG.length (adjOf sixG) ps) : ps = [0, 1, 1, 2, 3, 4] := by
  obtain ⟨p, hp, rfl⟩ := h
  have ne : ∀ x y, x < 6 → y < 6 → rk6 x ≠ rk6 y → p x ≠ p y := fun x y hx hy hr he => by
    obtain ⟨a, b⟩ := (hp x y hx hy).1 he
    have := rk6_goes a
    have := rk6_goes b
    omega
  have e12 : p 2 = p 1 := (hp 2 1 (by decide) (by decide)).2 ⟨g21, g12⟩
  have h10 := ne 1 0 (by decide) (by decide) (by decide)
  have h30 := ne 3 0 (by decide) (by decide) (by decide)
  have h31 := ne 3 1 (by decide) (by decide) (by decide)
  have h40 := ne 4 0 (by decide) (by decide) (by decide)
  have h41 := ne 4 1 (by decide) (by decide) (by decide)
  have h43 := ne 4 3 (by decide) (by decide) (by decide)
  have h50 := ne 5 0 (by decide) (by decide) (by decide)
  have h51 := ne 5 1 (by decide) (by decide) (by decide)
  have h53 := ne 5 3 (by decide) (by decide) (by decide)
  have h54 := ne 5 4 (by decide) (by decide) (by decide)
  have o0 : numO p 0 = 0 := by simp [numO, numM, updM]
  have o1 : numO p 1 = 1 := by simp [numO, numM, updM, h10]
  have o2 : numO p 2 = 1 := by rw [(numO_eq p 2 1).2 e12]; exact o1
  have m2 : numM p 3 = numM p 2 := by
    show (if _ then _ else _) = _
    rw [if_pos]
    rw [e12]
    have := numM_own p 1
    rw [this]; rfl
  have m2s : (numM p 2).2 = 2 := by simp [numM, updM, h10]
  have m2n : ∀ q, q ≠ p 0 → q ≠ p 1 → (numM p 2).1 q = none := fun q h0 h1 => by simp [numM, updM, h10, h0, h1]
  have m3 : numM p 4 = (updM (numM p 2).1 (p 3) 2, 3) := by
    show (if ((numM p 3).1 (p 3)).isSome then _ else _) = _
    rw [m2, m2n _ h30 h31, m2s]; rfl
  have o3 : numO p 3 = 2 := by unfold numO; rw [m3]; simp [updM]
  have m4 : numM p 5 = (updM (updM (numM p 2).1 (p 3) 2) (p 4) 3, 4) := by
    have e : (updM (numM p 2).1 (p 3) 2) (p 4) = none := by unfold updM; rw [if_neg h43]; exact m2n _ h40 h41
    show (if ((numM p 4).1 (p 4)).isSome then _ else _) = _
    rw [if_neg (by rw [m3]; show ¬ ((updM (numM p 2).1 (p 3) 2) (p 4)).isSome = true; rw [e]; decide), m3]; rfl
  have o4 : numO p 4 = 3 := by unfold numO; rw [m4]; simp [updM]
  have m5 : numM p 6 = (updM (updM (updM (numM p 2).1 (p 3) 2) (p 4) 3) (p 5) 4, 5) := by
    have e : (updM (updM (numM p 2).1 (p 3) 2) (p 4) 3) (p 5) = none := by unfold updM; rw [if_neg h54, if_neg h53]; exact m2n _ h50 h51
    show (if ((numM p 5).1 (p 5)).isSome then _ else _) = _
    rw [if_neg (by rw [m4]; show ¬ ((updM (updM (numM p 2).1 (p 3) 2) (p 4) 3) (p 5)).isSome = true; rw [e]; decide), m4]; rfl
  have o5 : numO p 5 = 4 := by unfold numO; rw [m5]; simp [updM]
  show [numO p 0, numO p 1, numO p 2, numO p 3, numO p 4, numO p 5] = _
  rw [o0, o1, o2, o3, o4, o5]
theorem six_live {L : List Nat} (h : LiveList sixG.length (adjOf sixG) L) : L = [1, 2, 3, 4] := by
  refine h.unique ⟨by decide, fun v => ?_⟩
  have l1 : OnLoop (adjOf sixG) 1 := ⟨2, by rw [adj6]; decide, g21⟩
  have l4 : OnLoop (adjOf sixG) 4 := ⟨4, by rw [adj6]; decide, .refl 4⟩
  have onl : ∀ u, OnLoop (adjOf sixG) u → u < 6 → 2 ≤ rk6 u := fun u ⟨t, ht, hg⟩ hu => by
    rw [adj6] at ht
    match u, ht, hu with
    | 0, ht, _ => simp at ht; subst ht; have := rk6_goes hg; exact absurd this (by decide)
    | 1, _, _ => decide
    | 2, _, _ => decide
    | 3, _, _ => decide
    | 4, _, _ => decide
    | 5, ht, _ => simp at ht; subst ht; have := rk6_goes hg; exact absurd this (by decide)
    | n + 6, _, hu => omega
  constructor
  · intro hv
    simp at hv
    rcases hv with rfl | rfl | rfl | rfl
    · exact ⟨by decide, ⟨1, by decide, l1, .refl 1⟩, 4, by decide, l4, g12.trans (g23.trans g34)⟩
    · exact ⟨by decide, ⟨1, by decide, l1, g12⟩, 4, by decide, l4, g23.trans g34⟩
    · exact ⟨by decide, ⟨1, by decide, l1, g12.trans g23⟩, 4, by decide, l4, g34⟩
    · exact ⟨by decide, ⟨1, by decide, l1, g12.trans (g23.trans g34)⟩, 4, by decide, l4, .refl 4⟩
  · rintro ⟨hv, ⟨u, hu, h1, h2⟩, _⟩
    have a := onl u h1 hu
    have b := rk6_goes h2
    have hv : v < 6 := hv
    match v, hv, b with
    | 0, _, b => exact absurd (Nat.le_trans a b) (by decide)
    | 1, _, _ => decide
    | 2, _, _ => decide
    | 3, _, _ => decide
    | 4, _, _ => decide
    | 5, _, b => exact absurd (Nat.le_trans a b) (by decide)
    | n + 6, hv, _ => omega
/-- How many arrows to 4, at the least. -/
def ds6 (v : Nat) : Nat := [4, 3, 2, 1, 0, 5].getD v 9
theorem ds6_way {x y : Nat} {w : List Nat} (h : Way (adjOf sixG) x y w) : y = 4 → ds6 x + 1 ≤ w.length := by
  induction h with
  | one x => intro h; subst h; decide
  | @cons x t y w ht h ih =>
    intro hy
    have := ih hy
    have hx : ds6 x ≤ ds6 t + 1 := by
      rw [adj6] at ht
      match x, ht with
      | 0, ht => simp at ht; subst ht; decide
      | 1, ht => simp at ht; subst ht; decide
      | 2, ht => simp at ht; rcases ht with rfl | rfl <;> decide
      | 3, ht => simp at ht; subst ht; decide
      | 4, ht => simp at ht; subst ht; decide
      | 5, ht => simp at ht; subst ht; decide
      | n + 6, ht => simp at ht
    simp only [List.length_cons]; omega
theorem six_path {u : List Nat} (h : IsFirst (adjOf sixG) 0 4 u) : u = [0, 1, 2, 3, 4] := by
  have hw : Way (adjOf sixG) 0 4 [0, 1, 2, 3, 4] := .cons (by rw [adj6]; decide) (.cons (by rw [adj6]; decide) (.cons (by rw [adj6]; decide) (.cons (by rw [adj6]; decide) (.one 4))))
  have h5 := h.short _ hw
  have hu := h.way
  cases hu with
  | cons ht h1 =>
    rw [adj6] at ht; simp at ht; subst ht
    cases h1 with
    | cons ht h2 =>
      rw [adj6] at ht; simp at ht; subst ht
      cases h2 with
      | cons ht h3 =>
        rw [adj6] at ht; simp at ht
        rcases ht with rfl | rfl
        · have := ds6_way h3 rfl
          simp only [List.length_cons] at h5
          have e : ds6 1 = 3 := rfl
          simp at h5
          omega
        · cases h3 with
          | cons ht h4 =>
            rw [adj6] at ht; simp at ht; subst ht
            cases h4 with
            | one => rfl
            | cons ht h6 =>
              have := h6.pos
              simp only [List.length_cons, List.length_nil] at h5
              omega
theorem six_goes : Goes (adjOf sixG) 0 4 := g01.trans (g12.trans (g23.trans g34))

set_option maxHeartbeats 1000000 in
theorem six_any (w : World) : Calls Tryd.prog 50 #[] w (Ret1 (fun x w' => ∃ na nc, x = .slice na sixG.length nc ∧ ListsAt w' x sixG) w) := by
  go_enter Tryd.func50, Tryd.ntmps50
  go_wp2
  go_ret
  have hr : ∀ W' : World, W' = (((((((w.alloc (.cells #[.int .i64 1] 3)).alloc (.cells #[.int .i64 2] 3)).alloc (.cells #[.int .i64 1, .int .i64 3] 3)).alloc (.cells #[.int .i64 4] 3)).alloc (.cells #[.int .i64 4] 3)).alloc (.cells #[.int .i64 0] 3)).alloc
      (.cells #[.slice (some ⟨w.heap.size, 0, none⟩) 1 1, .slice (some ⟨w.heap.size + 1, 0, none⟩) 1 1, .slice (some ⟨w.heap.size + 1 + 1, 0, none⟩) 2 2, .slice (some ⟨w.heap.size + 1 + 1 + 1, 0, none⟩) 1 1, .slice (some ⟨w.heap.size + 1 + 1 + 1 + 1, 0, none⟩) 1 1, .slice (some ⟨w.heap.size + 1 + 1 + 1 + 1 + 1, 0, none⟩) 1 1] 22)) →
      Below w.heap.size w W' ∧ ListsAt W' (.slice (some ⟨w.heap.size + 1 + 1 + 1 + 1 + 1 + 1, 0, none⟩) 6 6) sixG := by
    intro W' hW'
    obtain ⟨W1, e1⟩ : ∃ W1 : World, W1 = w.alloc (.cells #[.int .i64 1] 3) := ⟨_, rfl⟩
    rw [← e1] at hW'
    obtain ⟨W2, e2⟩ : ∃ W2 : World, W2 = W1.alloc (.cells #[.int .i64 2] 3) := ⟨_, rfl⟩
    rw [← e2] at hW'
    obtain ⟨W3, e3⟩ : ∃ W3 : World, W3 = W2.alloc (.cells #[.int .i64 1, .int .i64 3] 3) := ⟨_, rfl⟩
    rw [← e3] at hW'
    obtain ⟨W4, e4⟩ : ∃ W4 : World, W4 = W3.alloc (.cells #[.int .i64 4] 3) := ⟨_, rfl⟩
    rw [← e4] at hW'
    obtain ⟨W5, e5⟩ : ∃ W5 : World, W5 = W4.alloc (.cells #[.int .i64 4] 3) := ⟨_, rfl⟩
    rw [← e5] at hW'
    obtain ⟨W6, e6⟩ : ∃ W6 : World, W6 = W5.alloc (.cells #[.int .i64 0] 3) := ⟨_, rfl⟩
    rw [← e6] at hW'
    have s1 : W1.heap.size = w.heap.size + 1 := by rw [e1]; simp
    have s2 : W2.heap.size = W1.heap.size + 1 := by rw [e2]; simp
    have s3 : W3.heap.size = W2.heap.size + 1 := by rw [e3]; simp
    have s4 : W4.heap.size = W3.heap.size + 1 := by rw [e4]; simp
    have s5 : W5.heap.size = W4.heap.size + 1 := by rw [e5]; simp
    have s6 : W6.heap.size = W5.heap.size + 1 := by rw [e6]; simp
    rw [← s1, ← s2, ← s3, ← s4, ← s5] at hW'
    rw [← s1, ← s2, ← s3, ← s4, ← s5, ← s6]
    have lit : ∀ (W V : World) (xs : List Int) (cs : Array Value), V = W.alloc (.cells cs 3) → cs.toList = xs.map (Value.int .i64) → xs.length ≤ 10 → Below W.heap.size W V ∧ IntsAt V (.slice (some ⟨W.heap.size, 0, none⟩) xs.length xs.length) xs := by
      intro W V xs cs hV hc hl
      subst hV
      exact ⟨belowAlloc W _, (OwnI.lit W.heap.size W (Nat.le_refl _) xs (by unfold maxLen; omega) cs hc xs.length rfl).at⟩
    obtain ⟨b1, i1⟩ := lit w W1 [1] _ e1 rfl (by decide)
    obtain ⟨b2, i2⟩ := lit W1 W2 [2] _ e2 rfl (by decide)
    obtain ⟨b3, i3⟩ := lit W2 W3 [1, 3] _ e3 rfl (by decide)
    obtain ⟨b4, i4⟩ := lit W3 W4 [4] _ e4 rfl (by decide)
    obtain ⟨b5, i5⟩ := lit W4 W5 [4] _ e5 rfl (by decide)
    obtain ⟨b6, i6⟩ := lit W5 W6 [0] _ e6 rfl (by decide)
    have b7 : Below W6.heap.size W6 W' := by rw [hW']; exact belowAlloc W6 _
    have b26 := Below.step b3 (Below.step b4 (Below.step b5 b6))
    refine ⟨Below.step b1 (Below.step b2 (Below.step b26 b7)), [.slice (some ⟨w.heap.size, 0, none⟩) 1 1, .slice (some ⟨W1.heap.size, 0, none⟩) 1 1, .slice (some ⟨W2.heap.size, 0, none⟩) 2 2, .slice (some ⟨W3.heap.size, 0, none⟩) 1 1, .slice (some ⟨W4.heap.size, 0, none⟩) 1 1, .slice (some ⟨W5.heap.size, 0, none⟩) 1 1], ?_, rfl, fun i hi => ?_⟩
    · have hown : OwnV 22 W6.heap.size W' (.slice (some ⟨W6.heap.size, 0, none⟩) 6 6) [.slice (some ⟨w.heap.size, 0, none⟩) 1 1, .slice (some ⟨W1.heap.size, 0, none⟩) 1 1, .slice (some ⟨W2.heap.size, 0, none⟩) 2 2, .slice (some ⟨W3.heap.size, 0, none⟩) 1 1, .slice (some ⟨W4.heap.size, 0, none⟩) 1 1, .slice (some ⟨W5.heap.size, 0, none⟩) 1 1] := by
        rw [hW']
        exact ⟨rfl, .inr ⟨W6.heap.size, 6, _, rfl, Nat.le_refl _, heap_alloc_new W6 _, Nat.le_refl _, by unfold maxLen; omega, rfl, rfl⟩⟩
      exact hown.at
    · have hi : i < 6 := hi
      match i, hi with
      | 0, _ => exact ((i1.below b2).below b26).below b7
      | 1, _ => exact (i2.below b26).below b7
      | 2, _ => exact (i3.below (Below.step b4 (Below.step b5 b6))).below b7
      | 3, _ => exact (i4.below (Below.step b5 b6)).below b7
      | 4, _ => exact (i5.below b6).below b7
      | 5, _ => exact i6.below b7
      | n + 6, hi => omega
  have := hr _ rfl
  exact ⟨_, rfl, this.1, _, _, rfl, this.2⟩
end Go.Proofs.YtbpdmpcakenjhaaDoor

namespace Go.Proofs.YtbpdmpcakenjhaaDoor
open Go.RowKit
set_option maxRecDepth 100000

theorem lit_ints (w : World) (xs : List Int) (cs : Array Value) (hc : cs.toList = xs.map (Value.int .i64)) (hl : xs.length ≤ 10) : IntsAt (w.alloc (.cells cs 3)) (.slice (some ⟨w.heap.size, 0, none⟩) xs.length xs.length) xs :=
  (OwnI.lit w.heap.size w (Nat.le_refl _) xs (by unfold maxLen; omega) cs hc xs.length rfl).at

set_option maxHeartbeats 2000000 in
theorem awake12 (r : Nat → Addr) (w : World) (hg : Glob r w) : Calls Tryd.prog 17 #[] w (Ret1 (fun x _ => x = .bool true) w) := by
  replace hg := Lib.hid hg
  go_enter Tryd.func17, Tryd.ntmps17
  go_wp2_with fail
  refine (six_any _).mono ?_
  rintro e w1 ⟨x, rfl, b1, na, nc, rfl, hL⟩
  go_wp2_with fail
  refine (parts_any r na nc sixG w1 (hg.out.below b1) hL six_sz).mono ?_
  rintro e w2 ⟨pv, y, rfl, b2, he, hps, _⟩
  rw [six_check] at he
  obtain rfl := he.none_eq
  obtain ⟨ps, hps1, hpo⟩ := hps six_check
  obtain rfl := six_parts hps1
  have b02 := Below.step b1 b2
  clear he hps hps1 hL
  replace hpo := Lib.hid hpo
  go_wp2_with fail
  refine (six_any _).mono ?_
  rintro e w3 ⟨x, rfl, b3, ma, mc, rfl, hL⟩
  have b03 := Below.step b02 b3
  go_wp2_with fail
  refine (live_any r ma mc sixG w3 (hg.out.below b03) hL six_sz).mono ?_
  rintro e w4 ⟨lv, y, rfl, b4, he, hls, _⟩
  rw [six_check] at he
  obtain rfl := he.none_eq
  obtain ⟨L, hL1, hlo⟩ := hls six_check
  obtain rfl := six_live hL1
  have b04 := Below.step b03 b4
  clear he hls hL1 hL
  replace hlo := Lib.hid hlo
  go_wp2_with fail
  refine (six_any _).mono ?_
  rintro e w5 ⟨x, rfl, b5, qa, qc, rfl, hL⟩
  have b05 := Below.step b04 b5
  go_wp2_with fail
  refine (path_any r qa qc sixG 0 4 w5 (hg.out.below b05) hL six_sz).mono ?_
  rintro e w6 ⟨wv, y, rfl, b6, he, hfs, _⟩
  have hpe : pathE sixG 0 4 = none := pathE_ok (x := 0) (y := 4) six_check (by decide) (by decide)
  rw [hpe] at he
  obtain rfl := he.none_eq
  have b06 := Below.step b05 b6
  obtain ⟨u, hu, huo⟩ : ∃ u, IsFirst (adjOf sixG) 0 4 u ∧ OwnI w5.heap.size w6 wv (castI u) := by
    rcases hfs hpe with h | ⟨h, _⟩
    · exact h
    · exact absurd six_goes h
  obtain rfl := six_path hu
  clear he hfs hu hL hpe
  have hp6 := hpo.out.at.below (Below.step b3 (Below.step b4 (Below.step b5 b6)))
  have hl6 := hlo.out.at.below (Below.step b5 b6)
  have hw6 := huo.at
  replace hp6 := Lib.hid hp6
  replace hl6 := Lib.hid hl6
  replace hw6 := Lib.hid hw6
  replace huo := Lib.hid huo
  have bl1 := belowAlloc w6 (.cells #[.int .i64 0, .int .i64 1, .int .i64 1, .int .i64 2, .int .i64 3, .int .i64 4] 3)
  have hlit1 := lit_ints w6 [0, 1, 1, 2, 3, 4] #[.int .i64 0, .int .i64 1, .int .i64 1, .int .i64 2, .int .i64 3, .int .i64 4] rfl (by decide)
  replace hlit1 := Lib.hid hlit1
  go_wp2_with fail
  refine (ints_any pv _ _ _ _ (hp6.out.below bl1) hlit1.out).mono ?_
  rintro e w7 h7
  obtain ⟨rfl, b7⟩ := h7.below
  clear h7
  rw [show decide (([0, 1, 1, 2, 3, 4] : List Int) = [0, 1, 1, 2, 3, 4]) = true by decide]
  have b67 := Below.step bl1 b7
  have bl2 := belowAlloc w7 (.cells #[.int .i64 1, .int .i64 2, .int .i64 3, .int .i64 4] 3)
  have hlit2 := lit_ints w7 [1, 2, 3, 4] #[.int .i64 1, .int .i64 2, .int .i64 3, .int .i64 4] rfl (by decide)
  replace hlit2 := Lib.hid hlit2
  go_wp2_with fail
  refine (ints_any lv _ _ _ _ ((hl6.out.below b67).below bl2) hlit2.out).mono ?_
  rintro e w8 h8
  obtain ⟨rfl, b8⟩ := h8.below
  clear h8
  rw [show decide (castI [1, 2, 3, 4] = [1, 2, 3, 4]) = true by decide]
  have b68 := Below.step b67 (Below.step bl2 b8)
  have bl3 := belowAlloc w8 (.cells #[.int .i64 0, .int .i64 1, .int .i64 2, .int .i64 3, .int .i64 4] 3)
  have hlit3 := lit_ints w8 [0, 1, 2, 3, 4] #[.int .i64 0, .int .i64 1, .int .i64 2, .int .i64 3, .int .i64 4] rfl (by decide)
  replace hlit3 := Lib.hid hlit3
  go_wp2_with fail
  refine (ints_any wv _ _ _ _ ((hw6.out.below b68).below bl3) hlit3.out).mono ?_
  rintro e w9 h9
  obtain ⟨rfl, b9⟩ := h9.below
  clear h9
  rw [show decide (castI [0, 1, 2, 3, 4] = [0, 1, 2, 3, 4]) = true by decide]
  go_wp2
  go_ret
  exact ⟨_, rfl, Below.step b06 (Below.step b68 (Below.step bl3 b9)), rfl⟩

/-- heavy: what it tells of lists that are not. -/
def HeavyPost (G : List (List Int)) (x : Value) : Prop := ∃ b : Bool, x = .bool b ∧ (b = false → G.length ≤ 300 ∧ arrowsTo G G.length ≤ 4000)
set_option maxHeartbeats 1000000 in
theorem heavy_any (na : Option Addr) (nc : Nat) (G : List (List Int)) (w : World) (h : ListsAt w (.slice na G.length nc) G) (hsz : ∀ k, k < G.length → (G.getD k []).length ≤ 17592186044416) :
    Calls Tryd.prog 28 #[.slice na G.length nc] w (Ret1 (fun x _ => HeavyPost G x) w) := by
  have hn63 : G.length ≤ 9223372036854775807 := by
    obtain ⟨vs, h1, h2, _⟩ := h
    have := h1.len_le; omega
  replace h := Lib.hid h
  replace hsz := Lib.hid hsz
  go_enter Tryd.func28, Tryd.ntmps28
  go_wp2_with fail
  go_loopw [3, 4] (fun nv kv wr => ∃ k n : Nat, k ≤ G.length ∧ kv = .int .i64 k ∧ nv = .int .i64 (arrowsTo G k) ∧ arrowsTo G k ≤ 17592186054416 ∧ wr = w.drewN n) (fun _ kv _ => G.length - (intOf kv).toNat)
  case atStart => exact ⟨0, 0, by omega, rfl, rfl, by simp [arrowsTo], rfl⟩
  case round =>
    obtain ⟨k, n, hk, rfl, rfl, hle, rfl⟩ := hrel
    by_cases hlt : k < G.length
    · by_cases hbig : 4000 < arrowsTo G k
      · by_cases h300 : 300 < G.length
        · go_wp2
          go_ret
          exact ⟨_, rfl, below_drewN (Below.refl _ _) n, _, rfl, fun q => by simp at q <;> omega⟩
        · go_wp2
          go_ret
          exact ⟨_, rfl, below_drewN (Below.refl _ _) n, _, rfl, fun q => by simp at q <;> omega⟩
      · obtain ⟨mv, iR, cR, hM⟩ := h.out.row k hlt
        have hll := hsz.out k hlt
        have ha1 : arrowsTo G (k + 1) = arrowsTo G k + (G.getD k []).length := rfl
        generalize G.getD k [] = gk at *
        have lenM := hM.len
        generalize valAt (.slice na G.length nc) k = ra at *
        replace hM := Lib.hid hM
        replace ha1 := Lib.hid ha1
        go_wp2
        go_roundw
        case measure => simp [intOf]; omega
        case rel => exact ⟨k + 1, _, by omega, by go_num, by rw [ha1.out]; go_num, by rw [ha1.out]; omega, rfl⟩
    · obtain rfl : k = G.length := by omega
      by_cases h300 : 300 < G.length
      · go_wp2
        go_ret
        exact ⟨_, rfl, below_drewN (Below.refl _ _) n, _, rfl, fun q => by simp at q <;> omega⟩
      · by_cases hbig : 4000 < arrowsTo G G.length
        · go_wp2
          go_ret
          exact ⟨_, rfl, below_drewN (Below.refl _ _) n, _, rfl, fun q => by simp at q <;> omega⟩
        · go_wp2
          go_ret
          exact ⟨_, rfl, below_drewN (Below.refl _ _) n, _, rfl, fun _ => ⟨by omega, by omega⟩⟩

/-- vertex: what it tells where it says yes. -/
def VertexPost (G : List (List Int)) (a : Int) (x : Value) : Prop := ∃ b : Bool, x = .bool b ∧ (b = true → G.length ≤ 300 ∧ arrowsTo G G.length ≤ 4000 ∧ checkG G = none ∧ ∃ v : Nat, a = v ∧ v < G.length)
set_option maxHeartbeats 1000000 in
theorem vertex_any (r : Nat → Addr) (na : Option Addr) (nc : Nat) (G : List (List Int)) (a : Int) (w : World) (hg : Glob r w) (h : ListsAt w (.slice na G.length nc) G) (hsz : ∀ k, k < G.length → (G.getD k []).length ≤ 17592186044416) :
    Calls Tryd.prog 18 #[.slice na G.length nc, .int .i64 a] w (Ret1 (fun x _ => VertexPost G a x) w) := by
  have hH := heavy_any na nc G w h hsz
  replace h := Lib.hid h
  replace hg := Lib.hid hg
  replace hsz := Lib.hid hsz
  go_enter Tryd.func18, Tryd.ntmps18
  go_wp2_with fail
  refine hH.mono ?_
  rintro e w1 ⟨x, rfl, b1, b, rfl, hb⟩
  clear hH
  cases b with
  | true =>
    clear hb
    go_wp2
    go_ret
    exact ⟨_, rfl, b1, false, rfl, fun q => by cases q⟩
  | false =>
    obtain ⟨hn, ha⟩ := hb rfl
    clear hb
    have hC := graph_check r na nc G w1 (hg.out.below b1) (h.out.below b1) hsz.out
    go_wp2_with fail
    refine hC.mono ?_
    rintro e w2 ⟨y, rfl, b2, he⟩
    clear hC
    have b02 := Below.step b1 b2
    cases hck : checkG G with
    | some t =>
      rw [hck] at he
      obtain ⟨T, p, rfl⟩ := he.some_shape
      replace he := Lib.hid he
      replace hck := Lib.hid hck
      go_wp2
      go_ret
      exact ⟨_, rfl, b02, false, rfl, fun q => by cases q⟩
    | none =>
      rw [hck] at he
      obtain rfl := he.none_eq
      clear he
      replace hck := Lib.hid hck
      by_cases h0 : a < 0
      · go_wp2
        go_ret
        exact ⟨_, rfl, b02, false, rfl, fun q => by cases q⟩
      · obtain ⟨v, rfl⟩ := Int.eq_ofNat_of_zero_le (show 0 ≤ a by omega)
        by_cases hv : v < G.length
        · go_wp2
          go_ret
          exact ⟨_, rfl, b02, true, rfl, fun _ => ⟨hn, ha, hck.out, v, rfl, hv⟩⟩
        · go_wp2
          go_ret
          exact ⟨_, rfl, b02, false, rfl, fun q => by cases q⟩

set_option maxHeartbeats 1000000 in
theorem leads_any (na : Option Addr) (nc : Nat) (G : List (List Int)) (v : Nat) (t : Int) (w : World) (h : ListsAt w (.slice na G.length nc) G) (hv : v < G.length) (hsz : ∀ k, k < G.length → (G.getD k []).length ≤ 17592186044416) :
    Calls Tryd.prog 23 #[.slice na G.length nc, .int .i64 v, .int .i64 t] w (RetB (decide (t ∈ G.getD v [])) w) := by
  obtain ⟨mv, iR, cR, hM⟩ := h.row v hv
  have hll := hsz v hv
  clear h hsz
  generalize G.getD v [] = gx at *
  have lM := hM.len
  generalize valAt (.slice na G.length nc) v = ra at *
  replace hM := Lib.hid hM
  go_enter Tryd.func23, Tryd.ntmps23
  go_wp2_with fail
  go_loopw [7] (fun jv wr => ∃ j n : Nat, j ≤ gx.length ∧ jv = .int .i64 j ∧ (∀ i (hi : i < gx.length), i < j → gx[i] ≠ t) ∧ wr = w.drewN n) (fun jv _ => gx.length - (intOf jv).toNat)
  case atStart => exact ⟨0, 0, by omega, rfl, fun i _ hi => by omega, rfl⟩
  case round =>
    obtain ⟨j, n, hj, rfl, hne, rfl⟩ := hrel
    by_cases hjl : j < gx.length
    · have iJ := hM.out.idx j hjl
      have cJ := hM.out.cell j hjl
      obtain ⟨x, hx⟩ : ∃ x, gx[j] = x := ⟨_, rfl⟩
      rw [hx] at cJ
      generalize valAt mv j = ja at *
      by_cases he : x = t
      · have hmem : decide (t ∈ gx) = true := by
          rw [decide_eq_true_iff, ← he, ← hx]; exact List.getElem_mem hjl
        have hq : (x == t) = true := by simp [he]
        replace hmem := Lib.hid hmem
        replace hne := Lib.hid hne
        replace hx := Lib.hid hx
        replace he := Lib.hid he
        go_wp2
        go_ret
        exact ⟨n, by rw [hmem.out]; rfl, rfl⟩
      · have hq : (x == t) = false := by simp [he]
        have hne2 : ∀ i (hi : i < gx.length), i < j + 1 → gx[i] ≠ t := fun i hi hij => by
          by_cases e : i = j
          · subst e; rw [hx]; exact he
          · exact hne i hi (by omega)
        replace hne2 := Lib.hid hne2
        replace hne := Lib.hid hne
        replace hx := Lib.hid hx
        replace he := Lib.hid he
        go_wp2
        go_roundw
        case measure => simp [intOf]; omega
        case rel => exact ⟨j + 1, n, by omega, by go_num, hne2.out, rfl⟩
    · obtain rfl : j = gx.length := by omega
      have hmem : decide (t ∈ gx) = false := by
        rw [decide_eq_false_iff_not]
        intro hm
        obtain ⟨i, hi, e⟩ := List.mem_iff_getElem.1 hm
        exact hne i hi hi e
      replace hmem := Lib.hid hmem
      replace hne := Lib.hid hne
      go_wp2
      go_ret
      exact ⟨n, by rw [hmem.out]; rfl, rfl⟩
end Go.Proofs.YtbpdmpcakenjhaaDoor
