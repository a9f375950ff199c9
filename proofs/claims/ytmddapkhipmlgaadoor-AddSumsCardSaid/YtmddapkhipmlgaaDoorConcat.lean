/-
  Walks: slices.Grow of nil, slices.Concat, slices.Reverse at []int; word.Back.
-/
import Derived.Test.YtmddapkhipmlgaaDoorLib
import Derived.Test.YtmddapkhipmlgaaDoorFam
import Derived.Test.YtmddapkhipmlgaaDoorLent
import Derived.Lib.AppendZeros
import Derived.RegionTactic
namespace Go.Proofs.YtmddapkhipmlgaaDoor
open Go.RowKit
set_option maxRecDepth 100000

theorem size_zeroC (n : Nat) : (Builtin.zeroCells (Value.cells (.int .i64 0)) n).size = n := by
  rw [size_zeroCells]; simp [Value.cells]

theorem grow_nil (n : Nat) (w : World) (hn : n ≤ 1048576) :
    Calls Tryd.prog 121 #[.slice none 0 0, .int .i64 n] w (Ret1 (fun x w' => OwnI w.heap.size w' x []) w) := by
  by_cases h0 : n = 0
  · subst h0
    go_enter Tryd.func121, Tryd.ntmps121
    go_wp2
    go_ret
    exact ⟨_, rfl, Below.refl _ _, OwnI.nil _ _⟩
  · have h1 : 1 ≤ n := by omega
    clear h0
    obtain ⟨i, hi, hz0, hz1, hz2⟩ := info_parts iInt
    have hap := Lib.run_append_nil_zeros (P := Tryd.prog) w 22 3 22 3 i (.int .i64 0) .i64 .i64 uInts (by kernel_rfl) hi hz0 n h1 (by rw [hz1]; decide) (by omega) (by rw [hz2]; omega)
    have hb : Tryd.t3.bytes = 8 := by kernel_rfl
    have hns : ¬ (281474976710656 < Builtin.nextslicecap n 0 * 8) := by rw [nextslicecap_zero (by omega)]; omega
    have hlt : ¬ (281474976710656 < (n : Int) * (Tryd.t3.bytes : Int)) := by rw [hb]; omega
    go_enter Tryd.func121, Tryd.ntmps121
    go_wp2
    go_ret
    have hge := grownCap_ge w n 0 3
    have hcm : grownCap w n 0 3 ≤ maxLen := grownCap_le_maxLen w _ 0 3 (by unfold maxLen; omega)
    refine ⟨_, rfl, (belowAlloc w _).drew, by simp, .inr ⟨w.heap.size, grownCap w n 0 3, _, rfl, Nat.le_refl _, heap_alloc_new w.drew _, by simp, hcm, ?_, by simp⟩⟩
    unfold grownCap at hge ⊢
    simp only [Array.size_append, size_zeroCells]
    simp
    omega

/-- The first n of a list of []ints, one after the other. -/
def catN (xs : Nat → List Int) (n : Nat) : List Int := (List.range n).flatMap xs
theorem catN_succ (xs : Nat → List Int) (n : Nat) : catN xs (n + 1) = catN xs n ++ xs n := by simp [catN, List.range_succ]

/-- The lengths' sum. -/
def lenN (xs : Nat → List Int) : Nat → Nat
  | 0 => 0
  | n + 1 => lenN xs n + (xs n).length
theorem catN_length (xs : Nat → List Int) (n : Nat) : (catN xs n).length = lenN xs n := by
  induction n with
  | zero => rfl
  | succ n ih => rw [catN_succ, List.length_append, ih]; rfl

/-- slices.Concat, at lists that all lie ready. -/
theorem concat_any (v : Value) (vs : List Value) (xs : Nat → List Int) (w : World) (h : ValsAt w v vs) (hx : ∀ t (ht : t < vs.length), IntsAt w vs[t] (xs t)) (hn : vs.length ≤ 100) (hl : ∀ t, t < vs.length → (xs t).length ≤ 8192) :
    Calls Tryd.prog 99 #[v] w (Ret1 (fun x w' => OwnI w.heap.size w' x (catN xs vs.length)) w) := by
  have hlen : ∀ n, n ≤ vs.length → lenN xs n ≤ n * 8192 := by
    intro n
    induction n with
    | zero => intro _; exact Nat.le_refl _
    | succ n ih =>
      intro hn'
      have := ih (by omega)
      have := hl n (by omega)
      show lenN xs n + (xs n).length ≤ _
      omega
  have hll := h.len oneLists
  replace hx := Lib.hid hx
  replace hl := Lib.hid hl
  replace hlen := Lib.hid hlen
  replace h := Lib.hid h
  go_enter Tryd.func99, Tryd.ntmps99
  go_wp2
  go_loop [3, 11] (fun s i => ∃ j : Nat, j ≤ vs.length ∧ i = .int .i64 j ∧ s = .int .i64 (lenN xs j)) (fun _ i => vs.length - (intOf i).toNat)
  case atStart => exact ⟨0, by omega, rfl, rfl⟩
  case round =>
    obtain ⟨j, hj, rfl, rfl⟩ := hrel
    have hj1 := hlen.out j hj
    by_cases hjl : j < vs.length
    · have i1 := h.out.idx oneLists j hjl
      have c1 := h.out.cell j hjl
      have hxj := hx.out j hjl
      have l1 := hxj.len
      have hlj := hl.out j hjl
      obtain ⟨a, n, c, hv⟩ := hxj.shape
      replace hxj := Lib.hid hxj
      rw [hv] at c1 l1
      clear hv
      have e : Hid (lenN xs (j + 1) = lenN xs j + (xs j).length) := rfl
      go_wp2
      go_round
      case rel => exact ⟨j + 1, by omega, by go_num, by rw [e.out]; go_num⟩
      case measure => simp [intOf]; omega
    · obtain rfl : j = vs.length := by omega
      have hL : lenN xs vs.length ≤ 1048576 := by omega
      go_wp2_with fail
      refine (grow_nil _ _ hL).mono ?_
      rintro e w1 ⟨x, rfl, hb, ho⟩
      go_wp2
      go_loopw [6, 27] (fun s i wr => ∃ j : Nat, j ≤ vs.length ∧ i = .int .i64 j ∧ OwnI w.heap.size wr s (catN xs j) ∧ Below w.heap.size w wr) (fun _ i _ => vs.length - (intOf i).toNat)
      case atStart => exact ⟨0, by omega, rfl, by simpa [catN] using ho, hb⟩
      case round =>
        obtain ⟨j, hj, rfl, ho, hb⟩ := hrel
        by_cases hjl : j < vs.length
        · have hv := h.out.below hb
          have i1 := hv.idx oneLists j hjl
          have c1 := hv.cell j hjl
          have hxj := (hx.out j hjl).below hb
          have hlj := hl.out j hjl
          have hcl := hlen.out j (by omega)
          have hcc := catN_length xs j
          clear hv
          generalize vs[j] = u at c1 hxj
          obtain ⟨a, n, c, rfl⟩ := hxj.shape
          replace hxj := Lib.hid hxj
          replace ho := Lib.hid ho
          go_wp2_with (at_builtin; refine wpl_append rfl _ _ rfl w.heap.size _ _ (catN xs j) (xs j) ho.out hxj.out rfl rfl (by omega) hb.size ?_)
          intro v' w' ho' hb' _ _
          go_wp2
          go_roundw
          case rel => exact ⟨j + 1, by omega, by go_num, by rw [catN_succ]; exact ho', hb.trans hb'⟩
          case measure => simp [intOf]; omega
        · obtain rfl : j = vs.length := by omega
          go_wp2
          go_ret
          exact ⟨_, rfl, hb, ho⟩
end Go.Proofs.YtmddapkhipmlgaaDoor
