/-
  A store of a whole edenraw.Err into its box: what stays as it was.
-/
import Derived.Test.YtmddapkhipmlgaaDoorLentRule
import Derived.Test.YtmddapkhipmlgaaDoorRefSum
namespace Go.Proofs.YtmddapkhipmlgaaDoor
open Go.RowKit
set_option maxRecDepth 100000

/-- Three cells of a box are stored. -/
abbrev st3 (w : World) (b : Nat) (x y z : Value) : World := ((w.setCell ⟨b, 0, none⟩ x).setCell ⟨b, 1, none⟩ y).setCell ⟨b, 2, none⟩ z

theorem st3_size (w : World) (b : Nat) (x y z : Value) : (st3 w b x y z).heap.size = w.heap.size := by simp [st3, World.setCell]

theorem cell_far {w : World} {b i : Nat} {a : Addr} (h : a.block ≠ b) (u : Value) : (w.setCell ⟨b, i, none⟩ u).cell? a = w.cell? a :=
  World.cell?_setCell_other _ _ _ _ (by intro e; rw [← e] at h; exact h rfl)

theorem ErrAt.set {r : Nat → Addr} {w : World} {n : Int} {b i : Nat} (hs : ∀ s, w.cell? ⟨b, 0, none⟩ ≠ some (.string s)) (u : Value) :
    ∀ {l : List (ByteArray × Int)} {v : Value}, ErrAt r w n l v → ErrAt r (w.setCell ⟨b, i, none⟩ u) n l v
  | [], _, h => h
  | (op, at_) :: rest, v, ⟨p, u', e, c0, c1, c2, h⟩ => by
    have hp : p ≠ b := by rintro rfl; exact hs _ c0
    exact ⟨p, u', e, by rw [cell_far hp]; exact c0, by rw [cell_far hp]; exact c1, by rw [cell_far hp]; exact c2, ErrAt.set hs u h⟩
theorem ErrIs.set {r : Nat → Addr} {w : World} {t : PErr} {v : Value} {b i : Nat} (h : ErrIs r w t v) (hs : ∀ s, w.cell? ⟨b, 0, none⟩ ≠ some (.string s)) (u : Value) : ErrIs r (w.setCell ⟨b, i, none⟩ u) t v := by
  match t, h with
  | none, h => exact h
  | some (n, l), h => exact ErrAt.set hs u h

theorem Box3.st3 {w : World} {b : Nat} {x0 x1 x2 : Value} (h : Box3 w b x0 x1 x2) (x y z : Value) : Box3 (st3 w b x y z) b x y z := by
  obtain ⟨⟨h0, h1, h2⟩, f0, f1, f2⟩ := h
  have e0 : (w.cell? ⟨b, 0, none⟩).isSome = true := by rw [h0]; rfl
  have e1 : (w.cell? ⟨b, 1, none⟩).isSome = true := by rw [h1]; rfl
  have e2 : (w.cell? ⟨b, 2, none⟩).isSome = true := by rw [h2]; rfl
  have n10 : (⟨b, 1, none⟩ : Addr) ≠ ⟨b, 0, none⟩ := by simp
  have n20 : (⟨b, 2, none⟩ : Addr) ≠ ⟨b, 0, none⟩ := by simp
  have n21 : (⟨b, 2, none⟩ : Addr) ≠ ⟨b, 1, none⟩ := by simp
  refine ⟨⟨?_, ?_, ?_⟩, ?_, ?_, ?_⟩
  · rw [World.cell?_setCell_other _ _ _ _ n20, World.cell?_setCell_other _ _ _ _ n10, World.cell?_setCell_same' _ _ _ e0]
  · rw [World.cell?_setCell_other _ _ _ _ n21]
    exact World.cell?_setCell_same' _ _ _ (by rw [World.cell?_setCell_other _ _ _ _ n10.symm]; exact e1)
  · exact World.cell?_setCell_same' _ _ _ (by rw [World.cell?_setCell_other _ _ _ _ n21.symm, World.cell?_setCell_other _ _ _ _ n20.symm]; exact e2)
  all_goals simpa [Go.Proofs.YtmddapkhipmlgaaDoor.st3, go_sem]

theorem Box3.st3_far {w : World} {b b' : Nat} {x0 x1 x2 : Value} (h : Box3 w b x0 x1 x2) (hne : b' ≠ b) (x y z : Value) : Box3 (Go.Proofs.YtmddapkhipmlgaaDoor.st3 w b' x y z) b x0 x1 x2 :=
  ((h.far hne 0 x).far hne 1 y).far hne 2 z

theorem ErrIs.st3 {r : Nat → Addr} {w : World} {t : PErr} {v : Value} {b : Nat} {x0 x1 x2 : Value} (h : ErrIs r w t v) (hb : Box3 w b x0 x1 x2) (h0 : ∀ s, x0 ≠ .string s) (x y z : Value) (hx : ∀ s, x ≠ .string s) : ErrIs r (Go.Proofs.YtmddapkhipmlgaaDoor.st3 w b x y z) t v := by
  obtain ⟨⟨k0, k1, k2⟩, -, -, -⟩ := hb
  have a1 : ∀ s, (w.setCell ⟨b, 0, none⟩ x).cell? ⟨b, 0, none⟩ ≠ some (.string s) := fun s e => by
    rw [World.cell?_setCell_same' _ _ _ (by rw [k0]; rfl)] at e
    exact hx s (Option.some.inj e)
  have a2 : ∀ s, ((w.setCell ⟨b, 0, none⟩ x).setCell ⟨b, 1, none⟩ y).cell? ⟨b, 0, none⟩ ≠ some (.string s) := fun s e => by
    rw [World.cell?_setCell_other _ _ _ _ (by simp)] at e
    exact a1 s e
  exact ((h.set (i := 0) (fun s e => h0 s (Option.some.inj (k0.symm.trans e))) x).set (i := 1) a1 y).set (i := 2) a2 z

theorem below_st3 {B b : Nat} {w0 w : World} (h : Below B w0 w) (hb : B ≤ b) (x y z : Value) : Below B w0 (Go.Proofs.YtmddapkhipmlgaaDoor.st3 w b x y z) := below_set3 h hb x y z
theorem Glob.st3 {r : Nat → Addr} {w0 w : World} (h : Glob r w0) (hb : Below w0.heap.size w0 w) {b : Nat} (hB : w0.heap.size ≤ b) (x y z : Value) : Glob r (Go.Proofs.YtmddapkhipmlgaaDoor.st3 w b x y z) := h.below (below_st3 hb hB x y z)
end Go.Proofs.YtmddapkhipmlgaaDoor
