/-
  Walks: package edenraw (what statements share).
-/
import Derived.Test.YtmddapkhipmlgaaDoorLib
namespace Go.Proofs.YtmddapkhipmlgaaDoor
open Go.RowKit
set_option maxRecDepth 100000

theorem ints_len (v u : Value) (xs ys : List Int) (w : World) (h : IntsAt w v xs) (k : IntsAt w u ys) (hne : xs.length ≠ ys.length) :
    Calls Tryd.prog 17 #[v, u] w (RetB false w) := by
  have h1 := h.len
  have h2 := k.len
  have hd : ((xs.length : Int) != (ys.length : Int)) = true := by simp; omega
  clear h k hne
  go_enter Tryd.func17, Tryd.ntmps17
  go_wp2
  go_ret
  exact ⟨0, rfl, rfl⟩

theorem ints_any (v u : Value) (xs ys : List Int) (w : World) (h : IntsAt w v xs) (k : IntsAt w u ys) :
    Calls Tryd.prog 17 #[v, u] w (RetB (decide (xs = ys)) w) := by
  by_cases hl : xs.length = ys.length
  case neg =>
    rw [show decide (xs = ys) = false by simp; intro e; exact hl (by rw [e])]
    exact ints_len v u xs ys w h k hl
  have h1 := h.len
  have h2 := k.len
  have hm := h.len_le
  have hd : ((xs.length : Int) != (ys.length : Int)) = false := by simp; omega
  have hl' := Lib.hid hl
  have hlt' : xs.length ≤ ys.length := by omega
  clear hl
  go_enter Tryd.func17, Tryd.ntmps17
  go_wp2
  go_loopw [5] (fun i wr => (∃ j : Nat, j ≤ xs.length ∧ i = .int .i64 j ∧ ∀ t (h1 : t < xs.length) (h2 : t < ys.length), t < j → xs[t] = ys[t]) ∧ ∃ n, wr = w.drewN n) (fun i _ => xs.length - (intOf i).toNat)
  case atStart => exact ⟨⟨0, by omega, rfl, by intro t _ _ h; omega⟩, 0, rfl⟩
  case round =>
    obtain ⟨⟨j, hj, rfl, hp⟩, n, rfl⟩ := hrel
    replace hp := Lib.hid hp
    by_cases hlt : j < xs.length
    · have i1 := h.idx j hlt
      have i2 := k.idx j (by omega)
      have c1 : w.cell? (valAt v j) = some (.int .i64 xs[j]) := h.cell j hlt
      have c2 : w.cell? (valAt u j) = some (.int .i64 ys[j]) := k.cell j (by omega)
      clear h k
      by_cases he : xs[j] = ys[j]
      · have hq : (xs[j] != ys[j]) = false := by simp [he]
        have hE := Lib.hid he
        clear he
        generalize hx : xs[j] = x at c1 hq
        generalize hy : ys[j] = y at c2 hq
        clear hx hy
        go_wp2
        go_quiet (fail)
        go_wp2
        go_roundw
        case rel =>
          refine ⟨⟨j + 1, by omega, by go_num, ?_⟩, _, rfl⟩
          intro t h1 h2 ht
          by_cases e : t = j
          · subst e; exact hE.out
          · exact hp.out t h1 h2 (by omega)
        case measure => simp [intOf]; omega
      · have hq : (xs[j] != ys[j]) = true := by simp [he]
        have hE := Lib.hid he
        clear he
        generalize hx : xs[j] = x at c1 hq
        generalize hy : ys[j] = y at c2 hq
        clear hx hy
        go_wp2
        go_quiet (fail)
        go_wp2
        go_ret
        refine ⟨_, ret_bool ?_, World.drewN_drewN ..⟩
        symm
        rw [decide_eq_false_iff_not]
        intro e
        exact hE.out (by subst e; rfl)
    · go_wp2
      go_ret
      refine ⟨_, ret_bool ?_, rfl⟩
      symm
      rw [decide_eq_true_iff]
      exact List.ext_getElem hl'.out fun t h1 h2 => hp.out t h1 h2 (by omega)
end Go.Proofs.YtmddapkhipmlgaaDoor
