/-
  Errors: what a Fault is in memory, and the contracts of fault.New, fault.Under and each package's 'wrong'.
-/
import Derived.Test.YtmddapkhipmlgaaDoorPre
import Derived.Test.YtmddapkhipmlgaaDoorPure
namespace Go.Proofs.YtmddapkhipmlgaaDoor
open Go.RowKit

/-- A call returns one value; nothing that was there has changed. -/
def Ret1 (Φ : Value → World → Prop) (w : World) (e : Ending) (w' : World) : Prop := ∃ x, e = .returned x ∧ Below w.heap.size w w' ∧ Φ x w'
def Ret2 (Φ : Value → Value → World → Prop) (w : World) (e : Ending) (w' : World) : Prop := ∃ x y, e = .returned (.tuple #[x, y]) ∧ Below w.heap.size w w' ∧ Φ x y w'
def Ret3 (Φ : Value → Value → Value → World → Prop) (w : World) (e : Ending) (w' : World) : Prop := ∃ x y z, e = .returned (.tuple #[x, y, z]) ∧ Below w.heap.size w w' ∧ Φ x y z w'

/-- The error that a number stands for: what its package-level variable holds. -/
abbrev rootV (r : Nat → Addr) (n : Int) : Value := .iface 187 (.pointer (some (r n.toNat)))

/-- The package-level errors lie where they were laid. -/
structure Glob (r : Nat → Addr) (w : World) : Prop where
  c1 : w.cell? ⟨0, 0, none⟩ = some (rootV r 1)
  c2 : w.cell? ⟨1, 0, none⟩ = some (rootV r 2)
  c3 : w.cell? ⟨2, 0, none⟩ = some (rootV r 3)
  c4 : w.cell? ⟨3, 0, none⟩ = some (rootV r 4)
  c5 : w.cell? ⟨4, 0, none⟩ = some (rootV r 5)
  c6 : w.cell? ⟨5, 0, none⟩ = some (rootV r 6)
  c7 : w.cell? ⟨6, 0, none⟩ = some (rootV r 7)
  c8 : w.cell? ⟨7, 0, none⟩ = some (rootV r 8)
  c9 : w.cell? ⟨8, 0, none⟩ = some (rootV r 9)
  c10 : w.cell? ⟨9, 0, none⟩ = some (rootV r 10)
  c11 : w.cell? ⟨10, 0, none⟩ = some (rootV r 11)
  c12 : w.cell? ⟨11, 0, none⟩ = some (rootV r 99)
  str : ∀ n : Nat, (1 ≤ n ∧ n ≤ 11) ∨ n = 99 → ∃ s, w.cell? (r n) = some (.string s)
  apart : ∀ m n : Int, 1 ≤ m → m ≤ 11 → 1 ≤ n → n ≤ 11 → r m.toNat = r n.toNat → m = n

theorem Glob.below {r : Nat → Addr} {w w' : World} (h : Glob r w) (hb : Below w.heap.size w w') : Glob r w' := by
  have k : ∀ {i v}, w.cell? ⟨i, 0, none⟩ = some v → w'.cell? ⟨i, 0, none⟩ = some v := fun {i v} hc => by
    rw [hb.cell (World.block_lt_of_cell? _ _ hc)]; exact hc
  exact ⟨k h.c1, k h.c2, k h.c3, k h.c4, k h.c5, k h.c6, k h.c7, k h.c8, k h.c9, k h.c10, k h.c11, k h.c12, (fun n hn => by
    obtain ⟨s, hs⟩ := h.str n hn
    exact ⟨s, by rw [hb.cell (World.block_lt_of_cell? _ _ hs)]; exact hs⟩), h.apart⟩

/-- What a Fault chain is in memory. -/
def ErrAt (r : Nat → Addr) (w : World) (n : Int) : List (ByteArray × Int) → Value → Prop
  | [], v => v = rootV r n
  | (op, at_) :: rest, v => ∃ p u, v = .iface 106 (.pointer (some ⟨p, 0, none⟩)) ∧ w.cell? ⟨p, 0, none⟩ = some (.string op) ∧ w.cell? ⟨p, 1, none⟩ = some (.int .i64 at_) ∧
      w.cell? ⟨p, 2, none⟩ = some u ∧ ErrAt r w n rest u

def ErrIs (r : Nat → Addr) (w : World) (t : PErr) (v : Value) : Prop :=
  match t with
  | none => v = .nilIface
  | some (n, l) => ErrAt r w n l v

theorem ErrAt.below {r : Nat → Addr} {w w' : World} {n : Int} (hb : Below w.heap.size w w') : ∀ {l : List (ByteArray × Int)} {v : Value}, ErrAt r w n l v → ErrAt r w' n l v
  | [], _, h => h
  | (op, at_) :: rest, v, ⟨p, u, e, c0, c1, c2, h⟩ => by
    have k : ∀ {i x}, w.cell? ⟨p, i, none⟩ = some x → w'.cell? ⟨p, i, none⟩ = some x := fun {i x} hc => by
      rw [hb.cell (World.block_lt_of_cell? _ _ hc)]; exact hc
    exact ⟨p, u, e, k c0, k c1, k c2, ErrAt.below hb h⟩

theorem ErrIs.below {r : Nat → Addr} {w w' : World} {t : PErr} {v : Value} (h : ErrIs r w t v) (hb : Below w.heap.size w w') : ErrIs r w' t v := by
  match t, h with
  | none, h => exact h
  | some (n, l), h => exact ErrAt.below hb h

theorem ErrAt.shape {r : Nat → Addr} {w : World} {n : Int} {l : List (ByteArray × Int)} {v : Value} (h : ErrAt r w n l v) : ∃ T a, v = .iface T (.pointer (some a)) := by
  match l, h with
  | [], h => exact ⟨_, _, h⟩
  | _ :: _, ⟨p, u, e, _⟩ => exact ⟨_, _, e⟩

/-- What the walk wants of an error: nil, or an interface value that holds a pointer. -/
theorem ErrIs.none_eq {r : Nat → Addr} {w : World} {v : Value} (h : ErrIs r w none v) : v = .nilIface := h
theorem ErrIs.some_shape {r : Nat → Addr} {w : World} {t : Int × List (ByteArray × Int)} {v : Value} (h : ErrIs r w (some t) v) : ∃ T a, v = .iface T (.pointer (some a)) := ErrAt.shape h

set_option maxHeartbeats 1000000 in
theorem root_any (r : Nat → Addr) (n : Int) (w : World) (hg : Glob r w) (h1 : 1 ≤ n) (h2 : n ≤ 11) :
    Calls Tryd.prog 120 #[.int .i64 n] w fun e w' => e = .returned (rootV r n) ∧ w = w' := by
  obtain ⟨c1, c2, c3, c4, c5, c6, c7, c8, c9, c10, c11, _, _, _⟩ := hg
  have hn : n = 1 ∨ n = 2 ∨ n = 3 ∨ n = 4 ∨ n = 5 ∨ n = 6 ∨ n = 7 ∨ n = 8 ∨ n = 9 ∨ n = 10 ∨ n = 11 := by omega
  rcases hn with rfl | rfl | rfl | rfl | rfl | rfl | rfl | rfl | rfl | rfl | rfl <;>
  (clear h1 h2
   go_enter Tryd.func120, Tryd.ntmps120
   go_wp2
   go_ret
   exact ⟨rfl, rfl⟩)

set_option maxHeartbeats 400000 in
theorem new_any (r : Nat → Addr) (op : ByteArray) (at_ n : Int) (w : World) (hg : Glob r w) (h1 : 1 ≤ n) (h2 : n ≤ 11) :
    Calls Tryd.prog 96 #[.string op, .int .i64 at_, .int .i64 n] w (Ret1 (fun v w' => ErrIs r w' (fresh op at_ n) v) w) := by
  have hn : (n == 0) = false := by simp; omega
  go_enter Tryd.func96, Tryd.ntmps96
  go_wp2_with fail
  refine (root_any r n w hg h1 h2).mono ?_
  rintro e w' ⟨rfl, rfl⟩
  go_wp2
  go_ret
  refine ⟨_, rfl, (Below.refl _ _).alloc (Nat.le_refl _) _, w.heap.size, rootV r n, rfl, ?_, ?_, ?_, rfl⟩ <;> simp

set_option maxHeartbeats 400000 in
theorem under_nil (op : ByteArray) (at_ : Int) (w : World) :
    Calls Tryd.prog 46 #[.string op, .int .i64 at_, .nilIface] w fun e w' => e = .returned .nilIface ∧ w = w' := by
  go_enter Tryd.func46, Tryd.ntmps46
  go_wp2
  go_ret
  exact ⟨rfl, rfl⟩

set_option maxHeartbeats 400000 in
theorem under_any (r : Nat → Addr) (op : ByteArray) (at_ : Int) (t : PErr) (v : Value) (w : World) (h : ErrIs r w t v) :
    Calls Tryd.prog 46 #[.string op, .int .i64 at_, v] w (Ret1 (fun u w' => ErrIs r w' (under op at_ t) u) w) := by
  match t, h with
  | none, h =>
    obtain rfl := h.none_eq
    exact (under_nil op at_ w).mono fun e w' ⟨he, hw⟩ => by subst hw; exact ⟨_, he, Below.refl _ _, rfl⟩
  | some t, h =>
    obtain ⟨T, a, rfl⟩ := h.some_shape
    have h' := Lib.hid h
    clear h
    go_enter Tryd.func46, Tryd.ntmps46
    go_wp2
    go_ret
    refine ⟨_, rfl, (Below.refl _ _).alloc (Nat.le_refl _) _, w.heap.size, .iface T (.pointer (some a)), rfl, ?_, ?_, ?_, ErrAt.below ((Below.refl _ _).alloc (Nat.le_refl _) _) h'.out⟩ <;> simp
end Go.Proofs.YtmddapkhipmlgaaDoor
