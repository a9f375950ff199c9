/-
  Walks: Go's package slices at []int.
-/
import Derived.Test.YtmddapkhipmlgaaDoorRule
namespace Go.Proofs.YtmddapkhipmlgaaDoor
open Go.RowKit
set_option maxRecDepth 100000

/-- A call returns a bool; only draws were made. -/
def RetB (b : Bool) (w : World) (e : Ending) (w' : World) : Prop := ∃ n : Nat, e = .returned (.bool b) ∧ w' = w.drewN n
theorem RetB.below {b : Bool} {w w' : World} {e : Ending} (h : RetB b w e w') : e = .returned (.bool b) ∧ Below w.heap.size w w' := by
  obtain ⟨n, he, rfl⟩ := h
  exact ⟨he, below_drewN (Below.refl _ _) n⟩

theorem equal_len (v u : Value) (xs ys : List Int) (w : World) (h : IntsAt w v xs) (k : IntsAt w u ys) (hne : xs.length ≠ ys.length) :
    Calls Tryd.prog 47 #[v, u] w (RetB false w) := by
  have h1 := h.len
  have h2 := k.len
  have hd : ((xs.length : Int) != (ys.length : Int)) = true := by simp; omega
  clear h k hne
  go_enter Tryd.func47, Tryd.ntmps47
  go_wp2
  go_ret
  exact ⟨0, rfl, rfl⟩

theorem equal_any (v u : Value) (xs ys : List Int) (w : World) (h : IntsAt w v xs) (k : IntsAt w u ys) :
    Calls Tryd.prog 47 #[v, u] w (RetB (decide (xs = ys)) w) := by
  by_cases hl : xs.length = ys.length
  case neg =>
    rw [show decide (xs = ys) = false by simp; intro e; exact hl (by rw [e])]
    exact equal_len v u xs ys w h k hl
  have h1 := h.len
  have h2 := k.len
  have hm := h.len_le
  have hd : ((xs.length : Int) != (ys.length : Int)) = false := by simp; omega
  have hl' := Lib.hid hl
  have hlt' : xs.length ≤ ys.length := by omega
  clear hl
  go_enter Tryd.func47, Tryd.ntmps47
  go_wp2
  go_loopw [13] (fun i wr => (∃ j : Nat, j ≤ xs.length ∧ i = .int .i64 j ∧ ∀ t (h1 : t < xs.length) (h2 : t < ys.length), t < j → xs[t] = ys[t]) ∧ ∃ n, wr = w.drewN n) (fun i _ => xs.length - (intOf i).toNat)
  case atStart => exact ⟨⟨0, by omega, rfl, by intro t _ _ h; omega⟩, 0, rfl⟩
  case round =>
    obtain ⟨⟨j, hj, rfl, hp⟩, n, rfl⟩ := hrel
    replace hp := Lib.hid hp
    by_cases hlt : j < xs.length
    · have i1 := h.idx j hlt
      have i2 := k.idx j (by omega)
      have c1 : w.cell? (valAt v j) = some (.int .i64 xs[j]) := h.cell j hlt
      have c2 : w.cell? (valAt u j) = some (.int .i64 ys[j]) := k.cell j (by omega)
      clear h k
      by_cases he : xs[j] = ys[j]
      · have hq : (xs[j] != ys[j]) = false := by simp [he]
        have hE := Lib.hid he
        clear he
        generalize hx : xs[j] = x at c1 hq
        generalize hy : ys[j] = y at c2 hq
        clear hx hy
        go_wp2
        go_quiet (fail)
        go_wp2
        go_roundw
        case rel =>
          refine ⟨⟨j + 1, by omega, by go_num, ?_⟩, _, rfl⟩
          intro t h1 h2 ht
          by_cases e : t = j
          · subst e; exact hE.out
          · exact hp.out t h1 h2 (by omega)
        case measure => simp [intOf]; omega
      · have hq : (xs[j] != ys[j]) = true := by simp [he]
        have hE := Lib.hid he
        clear he
        generalize hx : xs[j] = x at c1 hq
        generalize hy : ys[j] = y at c2 hq
        clear hx hy
        go_wp2
        go_quiet (fail)
        go_wp2
        go_ret
        refine ⟨_, ret_bool ?_, World.drewN_drewN ..⟩
        symm
        rw [decide_eq_false_iff_not]
        intro e
        exact hE.out (by subst e; rfl)
    · go_wp2
      go_ret
      refine ⟨_, ret_bool ?_, rfl⟩
      symm
      rw [decide_eq_true_iff]
      exact List.ext_getElem hl'.out fun t h1 h2 => hp.out t h1 h2 (by omega)

/-- A []int is nil and empty, or it has an address. -/
theorem IntsAt.split {w : World} {v : Value} {xs : List Int} (h : IntsAt w v xs) : (v = .slice none 0 0 ∧ xs = []) ∨ ∃ p cap, v = .slice (some p) xs.length cap := by
  obtain ⟨a, cap, rfl, h1, h2, h3, h4⟩ := h
  cases a with
  | none =>
    obtain rfl := h3 rfl
    obtain rfl := List.length_eq_zero_iff.1 (show xs.length = 0 by omega)
    exact .inl ⟨rfl, rfl⟩
  | some p => exact .inr ⟨p, cap, rfl⟩

theorem clone_any (v : Value) (xs : List Int) (w : World) (h : IntsAt w v xs) (hl : xs.length ≤ 17592186044416) :
    Calls Tryd.prog 56 #[v] w (Ret1 (fun x w' => OwnI w.heap.size w' x xs) w) := by
  rcases h.split with ⟨rfl, rfl⟩ | ⟨p, cap, rfl⟩
  · have hn := fun w' => Lib.run_eql_slice_nil (P := Tryd.prog) w' _ _ none 0 0 0 0 uInts
    clear h
    go_enter Tryd.func56, Tryd.ntmps56
    go_wp2
    go_ret
    exact ⟨_, rfl, Below.refl _ _, OwnI.nil _ _⟩
  · have hn := fun w' => Lib.run_eql_slice_nil (P := Tryd.prog) w' _ _ (some p) xs.length cap 0 0 uInts
    have h' := Lib.hid h
    clear h
    go_enter Tryd.func56, Tryd.ntmps56
    go_wp2_with (at_builtin; refine wpl_append rfl _ _ rfl w.heap.size _ _ [] xs (OwnI.lit _ _ (Nat.le_refl _) [] (by decide) #[] rfl 0 rfl) (h'.out.below ((Below.refl _ _).alloc (Nat.le_refl _) _)) rfl rfl (by simpa using hl) (by simp) ?_)
    intro v' w' ho hb _ _
    go_wp2
    go_ret
    exact ⟨_, rfl, ((Below.refl _ _).alloc (Nat.le_refl _) _).trans hb, by simpa using ho⟩
end Go.Proofs.YtmddapkhipmlgaaDoor
