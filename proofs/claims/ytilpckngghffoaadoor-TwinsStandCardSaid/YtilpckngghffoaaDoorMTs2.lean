/-
  Walk: edenraw.Apart: lists that share no memory, their spare room neither.
  Several owned lists, each in blocks of its own: what Apart asks.
  Several rows of memory of one's own, under names, no two in one block: what a store, an append, a new row does to them.
  copy onto an owned slice; a slice cut at its front; edenraw.Lent, Kept, LentRule, KeptRule, Rules.
  edenraw.Err in memory; walks: edenraw.Root, New, Under, (Err).Bad.
  Walks: edenref03.Bad, edenref04.Power, Digits, Check.
  Walk: rule.Check, at every rule.
  Walks: package additive.
  Walks: edenref18.Fault.
  Walk: edenraw.Under at an error.
  Walks: errors.Is and errors.As at a chain of Faults; the model's entries for internal/reflectlite at this program's types (after the kit's worked example Toyas).
  The model's entries for internal/reflectlite at a *api.Fault and at the address of a variable of that type (after the kit's worked example Toyas).
  Walk: errors.As at a Fault (after the kit's worked example Toyas).
  Walk: edenraw.Is at an error that is what it must be.
  Plain law of AddParts: a table is a sum just if each window is the sum of two.
  Plain mathematics of AddSums: a product may be turned; the factors of a sum at one symbol alone; factors taken modulo k.
  Plain mathematics: the reference's sums, window by window; what it tells by the factors; its products.
  Walk: edenref18.Sum.
  Walk: edenref18.Make.
  Walks: edenraw.LentRule, KeptRule.
  A store of a whole edenraw.Err into its box: what stays as it was.
  Boxes of structs of four cells among the rows of a call's own memory.
  Walks: slices.Grow of nil, slices.Concat, slices.Reverse at []int; word.Back.
  Walks: package permut.
  Walks: permut.check, permut.fits.
  Walk: permut.Right.
  Walk: permut.Left.
  A law for a region that draws its order: the operations of its head in an order of our own, each load under a fact on the world that the head keeps; then the forced tail, one behind the other.
  What a call with four results leaves.
  Walks: row.cell, row.piece.
  Plain mathematics: breadth first: the first of the shortest ways.
  A graph in memory: lists of ints that are read; its arrows as plain numbers.
  Walks: row.wrong, row.Check.
  Walk: row.Same at right rows that lie alike.
  Walk: rule.Step at a rule and a word of its symbols.
  Walk: rule.Step at all operands.
  Pieces of a slice of ints: s[k:], s[k:l].
  append(s, t...) as a run and as a step of a drawn region; walk: edenraw.Copy.
-/
import Derived.Test.YtilpckngghffoaaDoorMTs1
import Derived.Laws.CopyOwn
import Derived.Deep.RegionHeld3
import Derived.Deep.RegionLawGrows
import Derived.LaidEql
import Derived.Stop.Asserts
import Derived.RowKitTokens
import Derived.Deep.LoopGhost
import Derived.Lib.AppendZeros
import Derived.RegionTactic
import Derived.BigQuiet
import Derived.Deep.QuietTactic
import Derived.StillTail
import Derived.Deep.DeepCutAuto
namespace Go.Proofs.YtilpckngghffoaaDoor
open Go.RowKit
set_option maxRecDepth 100000

/-- The marks. -/
def mkA (t : Nat) : Int := -2 * (t : Int) - 1
def mkB (t : Nat) : Int := -2 * (t : Int) - 2

/-- The lists of a list. -/
def vAt (vs : List Value) (t : Nat) : Value := vs.getD t undef
theorem ValsAt.cellV {w : World} {v : Value} {vs : List Value} (h : ValsAt w v vs) (i : Nat) (hi : i < vs.length) : w.cell? (valAt v i) = some (vAt vs i) := by
  rw [h.cell i hi]; simp [vAt, List.getD, hi]

/-- No two share memory, and none with the list that holds them. -/
structure Parted (lv : Value) (vs : List Value) : Prop where
  two : ∀ s t, s < vs.length → t < vs.length → s ≠ t → (vAt vs s).ownBlock = none ∨ (vAt vs s).ownBlock ≠ (vAt vs t).ownBlock
  top : ∀ i t, i < vs.length → t < vs.length → (vAt vs t).ownBlock ≠ some (valAt lv i).block

theorem ValsAt.grown {w w' : World} {row : Option Nat} {v : Value} {vs : List Value} (h : ValsAt w v vs) (hg : w.grownBy w' row) (hne : ∀ i, i < vs.length → row ≠ some (valAt v i).block) : ValsAt w' v vs :=
  h.cells_eq fun i hi => World.cell?_of_block (hg.block _ (h.blk i hi) (fun e => hne i hi e.symm))

/-- What list t reads once all are written over; and once it is grown. -/
def rA (X : Nat → List Int) (t : Nat) : List Int := List.replicate (X t).length (mkA t)
def rB (X : Nat → List Int) (t : Nat) (j : Nat) : List Int := rA X t ++ List.replicate j (mkB t)
theorem rB_zero (X : Nat → List Int) (t : Nat) : rB X t 0 = rA X t := by simp [rB]
theorem rB_succ (X : Nat → List Int) (t j : Nat) : rB X t (j + 1) = rB X t j ++ [mkB t] := by simp [rB, List.replicate_succ']
theorem grownBy_trans' {a b c : World} {row row' : Option Nat} (h : a.grownBy b row) (k : b.grownBy c row') (hr : ∀ i, row' = some i → a.heap.size ≤ i) : a.grownBy c row :=
  ⟨k.os.trans h.os, k.tape.trans h.tape, k.output.trans h.output, Nat.le_trans h.size k.size, fun i hi hne => (k.block i (Nat.lt_of_lt_of_le hi h.size) (fun e => by have := hr i e.symm; omega)).trans (h.block i hi hne)⟩

theorem OwnI.front {B : Nat} {w w' : World} {v v' : Value} {xs ys : List Int} (h : OwnI B w v xs) (h' : OwnI B w' v' (xs ++ ys)) (hb : roomOf v' = roomOf v) : OwnI B w' v xs :=
  OwnV.toI (OwnV.front h.toV (by simpa using h'.toV) hb)

theorem ownBlock_eq {B B' : Nat} {w w' : World} {v v' : Value} {xs ys : List Int} (h : OwnI B w v xs) (h' : OwnI B' w' v' ys) (hr : roomOf v' = roomOf v) : v'.ownBlock = v.ownBlock := by
  obtain ⟨a, n, c, e⟩ := h.at.shape
  obtain ⟨a', n', c', e'⟩ := h'.at.shape
  exact ownBlock_of_room e e' hr

/-- While list k grows. -/
structure Grows (B : Nat) (X : Nat → List Int) (k : Nat) (v : Value) (wi : World) (q : Nat) (g : Value) (wr : World) : Prop where
  own : OwnI B wr g (rB X k q)
  old : OwnI B wr v (rA X k)
  step : wi.grownBy wr v.ownBlock
  lt : ∀ b, v.ownBlock = some b → b < wi.heap.size
  at_ : (roomOf g = roomOf v) ∨ ∃ b, g.ownBlock = some b ∧ wi.heap.size ≤ b

theorem Grows.start {B : Nat} {X : Nat → List Int} {k : Nat} {v : Value} {wi : World} (h : OwnI B wi v (rA X k)) : Grows B X k v wi 0 v wi :=
  ⟨by rw [rB_zero]; exact h, h, World.grownBy.refl _ _, fun b hb => (h.lt b hb).2, .inl rfl⟩

theorem Grows.next {B : Nat} {X : Nat → List Int} {k : Nat} {v : Value} {wi : World} {q : Nat} {g : Value} {wr : World} (h : Grows B X k v wi q g wr) {g' : Value} {w' : World}
    (ho : OwnI B w' g' (rB X k q ++ [mkB k])) (ha : (roomOf g' = roomOf g ∧ wr.grownBy w' g.ownBlock) ∨ (∃ b, g'.ownBlock = some b ∧ wr.heap.size ≤ b ∧ wr.grownBy w' none)) : Grows B X k v wi (q + 1) g' w' := by
  rw [← rB_succ] at ho
  have hsz := h.step.size
  rcases ha with ⟨hr, hg⟩ | ⟨b, hb, hlt, hg⟩
  · rcases h.at_ with hat | ⟨b0, hb0, hlt0⟩
    · have e := ownBlock_eq h.old h.own hat
      rw [e] at hg
      exact ⟨ho, OwnI.front h.old (ys := List.replicate (q + 1) (mkB k)) ho (hr.trans hat), h.step.trans hg, h.lt, .inl (hr.trans hat)⟩
    · have e := ownBlock_eq h.own ho hr
      have hne : v.ownBlock = none ∨ v.ownBlock ≠ g.ownBlock := by
        cases hv : v.ownBlock with
        | none => exact .inl rfl
        | some kv =>
          right
          rw [hb0]
          intro e2
          simp at e2
          have := h.lt kv hv
          omega
      exact ⟨ho, h.old.kept hg hne, grownBy_trans' h.step hg (fun i hi => by rw [hb0] at hi; simp at hi; omega), h.lt, .inr ⟨b0, by rw [e]; exact hb0, hlt0⟩⟩
  · exact ⟨ho, h.old.kept hg (by cases hv : v.ownBlock <;> simp), grownBy_trans' h.step hg (by intro i hi; cases hi), h.lt, .inr ⟨b, hb, by omega⟩⟩

/-- What holds of the grown lists up to k. -/
structure Grown (B : Nat) (X : Nat → List Int) (vs : List Value) (gv : Value) (k : Nat) (gl : List Value) (wr : World) : Prop where
  own : ∀ t, t < k → OwnI B wr (vAt gl t) (rB X t 40)
  far : ∀ t s, t < k → s < vs.length → s ≠ t → (vAt vs s).ownBlock = none ∨ (vAt gl t).ownBlock ≠ (vAt vs s).ownBlock
  top : ∀ t, t < k → (vAt gl t).ownBlock ≠ gv.ownBlock

theorem ne_or {x row : Option Nat} (h : row = none ∨ x ≠ row) : x = none ∨ x ≠ row := by
  rcases h with rfl | h
  · cases x <;> simp
  · exact .inr h

theorem Grows.gv {B kg : Nat} {X : Nat → List Int} {k : Nat} {v g gv : Value} {wi wr : World} {gl : List Value} {q : Nat} (h : Grows B X k v wi q g wr) (hgo : OwnV 22 kg wi gv gl) (hne : gv.ownBlock ≠ v.ownBlock ∨ v.ownBlock = none) : OwnV 22 kg wr gv gl :=
  hgo.kept h.step (ne_or hne.symm)

end Go.Proofs.YtilpckngghffoaaDoor

namespace Go.Proofs.YtilpckngghffoaaDoor
open Go.RowKit

theorem Below.step {w1 w2 w3 : World} (h : Below w1.heap.size w1 w2) (k : Below w2.heap.size w2 w3) : Below w1.heap.size w1 w3 := h.trans (k.mono h.size)
theorem belowAlloc (w : World) (o : Obj) : Below w.heap.size w (w.alloc o) := (Below.refl _ _).alloc (Nat.le_refl _) _

/-- Lists of their own, from block lo on, one behind the other. -/
def Owns (w : World) : Nat → List Value → List (List Int) → Prop
  | lo, [], [] => lo ≤ w.heap.size
  | lo, v :: vs, x :: xs => ∃ hi, lo ≤ hi ∧ OwnI lo w v x ∧ (∀ k, v.ownBlock = some k → k < hi) ∧ Owns w hi vs xs
  | _, _, _ => False

theorem Owns.get {w : World} : ∀ {vs : List Value} {xs : List (List Int)} {lo : Nat}, Owns w lo vs xs → vs.length = xs.length ∧ ∀ t, t < vs.length → OwnI lo w (vAt vs t) (xs.getD t [])
  | [], [], _, _ => ⟨rfl, by intro t h; simp at h⟩
  | v :: vs, x :: xs, lo, ⟨hi, hle, ho, _, hr⟩ => by
    obtain ⟨hl, hg⟩ := Owns.get hr
    refine ⟨by simp [hl], fun t ht => ?_⟩
    cases t with
    | zero => exact ho
    | succ t => exact (hg t (by simpa using ht)).mono hle
  | [], _ :: _, _, h => h.elim
  | _ :: _, [], _, h => h.elim

theorem Owns.two {w : World} : ∀ {vs : List Value} {xs : List (List Int)} {lo : Nat}, Owns w lo vs xs → ∀ s t, s < vs.length → t < vs.length → s ≠ t → (vAt vs s).ownBlock = none ∨ (vAt vs s).ownBlock ≠ (vAt vs t).ownBlock
  | [], [], _, _, s, t, hs, _, _ => by simp at hs
  | v :: vs, x :: xs, lo, ⟨hi, hle, ho, hlt, hr⟩, s, t, hs, ht, hne => by
    have hg := (Owns.get hr).2
    have key : ∀ t, t < vs.length → ∀ k, v.ownBlock = some k → (vAt vs t).ownBlock ≠ some k := fun t ht k hk e => by
      have h1 := hlt k hk
      have h2 := ((hg t ht).lt k e).1
      omega
    match s, t, hs, ht, hne with
    | 0, 0, _, _, hne => exact absurd rfl hne
    | 0, t + 1, _, ht, _ =>
      show v.ownBlock = none ∨ v.ownBlock ≠ (vAt vs t).ownBlock
      cases hk : v.ownBlock with
      | none => exact .inl rfl
      | some k => exact .inr fun e => key t (by simpa using ht) k hk e.symm
    | s + 1, 0, hs, _, _ =>
      show (vAt vs s).ownBlock = none ∨ (vAt vs s).ownBlock ≠ v.ownBlock
      cases hk : v.ownBlock with
      | none => cases (vAt vs s).ownBlock <;> simp
      | some k => exact .inr (key s (by simpa using hs) k hk)
    | s + 1, t + 1, hs, ht, hne => exact Owns.two hr s t (by simpa using hs) (by simpa using ht) (by omega)
  | [], _ :: _, _, h, _, _, _, _, _ => h.elim
  | _ :: _, [], _, h, _, _, _, _, _ => h.elim

theorem Owns.alloc {w : World} (o : Obj) : ∀ {vs : List Value} {xs : List (List Int)} {lo : Nat}, Owns w lo vs xs → Owns (w.alloc o) lo vs xs
  | [], [], lo, h => by show lo ≤ (w.alloc o).heap.size; have : lo ≤ w.heap.size := h; simp; omega
  | v :: vs, x :: xs, lo, ⟨hi, hle, ho, hlt, hr⟩ => ⟨hi, hle, ho.alloc o, hlt, Owns.alloc o hr⟩
  | [], _ :: _, _, h => h.elim
  | _ :: _, [], _, h => h.elim

end Go.Proofs.YtilpckngghffoaaDoor

namespace Go.Proofs.YtilpckngghffoaaDoor
open Go.RowKit

/-- A row: its elements' type, how many cells each has, the slice value, how many elements, the cells. -/
structure Row where
  E : TypeId
  size : Nat
  v : Value
  n : Nat
  xs : List Value
def Row.own (B : Nat) (w : World) (r : Row) : Prop := w.ownsRow B r.E r.size r.v r.n r.xs
abbrev Names := Nat × Nat → Option Row
/-- The rows lie where they lie, no two in one block. -/
def Rows (B : Nat) (w : World) (f : Names) : Prop :=
  (∀ i r, f i = some r → r.own B w) ∧ (∀ i j r s, f i = some r → f j = some s → i ≠ j → r.v.ownBlock = none ∨ r.v.ownBlock ≠ s.v.ownBlock)
def upd (f : Names) (i : Nat × Nat) (r : Option Row) : Names := fun j => if j = i then r else f j
theorem upd_same (f : Names) (i : Nat × Nat) (r : Option Row) : upd f i r i = r := by simp [upd]
theorem upd_ne (f : Names) {i j : Nat × Nat} (r : Option Row) (h : j ≠ i) : upd f i r j = f j := by simp [upd, h]

theorem Rows.below {B : Nat} {w w' : World} {f : Names} (h : Rows B w f) (hb : Below w.heap.size w w') : Rows B w' f :=
  ⟨fun i r hi => by
    have ho := h.1 i r hi
    refine ⟨ho.1, ?_⟩
    rcases ho.2 with h2 | ⟨g, cap, cur, e, hB, hg, rest⟩
    · exact .inl h2
    · exact .inr ⟨g, cap, cur, e, hB, by rw [hb.block g (Array.getElem?_eq_some_iff.1 hg).1]; exact hg, rest⟩, h.2⟩
theorem Rows.drop {B : Nat} {w : World} {f : Names} (h : Rows B w f) (i : Nat × Nat) : Rows B w (upd f i none) :=
  ⟨fun j r hj => by
    by_cases e : j = i
    · subst e; rw [upd_same] at hj; cases hj
    · rw [upd_ne _ _ e] at hj; exact h.1 j r hj, fun j k r s hj hk hne => by
    by_cases e : j = i
    · subst e; rw [upd_same] at hj; cases hj
    by_cases e' : k = i
    · subst e'; rw [upd_same] at hk; cases hk
    rw [upd_ne _ _ e] at hj
    rw [upd_ne _ _ e'] at hk
    exact h.2 j k r s hj hk hne⟩
theorem Rows.lt {B : Nat} {w : World} {f : Names} (h : Rows B w f) {i : Nat × Nat} {r : Row} (hi : f i = some r) : ∀ k, r.v.ownBlock = some k → B ≤ k ∧ k < w.heap.size := World.ownsRow.lt (h.1 i r hi)

/-- What was done in row i alone: the row is now r'; it lies where it lay, or in a new block. -/
theorem Rows.grown {B : Nat} {w w' : World} {f : Names} {i : Nat × Nat} {r r' : Row} (h : Rows B w f) (hi : f i = some r) (hg : w.grownBy w' r.v.ownBlock) (ho : r'.own B w') (hb : r'.v.ownBlock = r.v.ownBlock ∨ ∃ k, r'.v.ownBlock = some k ∧ w.heap.size ≤ k) :
    Rows B w' (upd f i (some r')) := by
  have far : ∀ j s, f j = some s → j ≠ i → s.v.ownBlock = none ∨ s.v.ownBlock ≠ r'.v.ownBlock := fun j s hj hne => by
    rcases hb with e | ⟨k, e, hk⟩
    · rw [e]; exact h.2 j i s r hj hi hne
    · cases hs : s.v.ownBlock with
      | none => exact .inl rfl
      | some m =>
        have := (h.lt hj m hs).2
        right; rw [e]; intro e2; injection e2 with e2; omega
  refine ⟨fun j s hj => ?_, fun j k s t hj hk hne => ?_⟩
  · by_cases e : j = i
    · subst e; rw [upd_same] at hj; cases hj; exact ho
    · rw [upd_ne _ _ e] at hj
      exact World.ownsRow.kept (h.1 j s hj) hg (h.2 j i s r hj hi e)
  · by_cases e : j = i
    · subst e
      rw [upd_same] at hj; cases hj
      rw [upd_ne _ _ (Ne.symm hne)] at hk
      rcases far k t hk (Ne.symm hne) with e2 | e2
      · cases hr : r'.v.ownBlock with
        | none => exact .inl rfl
        | some m => right; rw [e2]; simp
      · exact .inr (Ne.symm e2)
    · rw [upd_ne _ _ e] at hj
      by_cases e' : k = i
      · subst e'; rw [upd_same] at hk; cases hk
        exact far j s hj e
      · rw [upd_ne _ _ e'] at hk
        exact h.2 j k s t hj hk hne

/-- A new row, in a new block (or nil). -/
theorem Rows.fresh {B : Nat} {w w' : World} {f : Names} {i : Nat × Nat} {r' : Row} (h : Rows B w f) (hg : w.grownBy w' none) (ho : r'.own B w') (hb : ∀ k, r'.v.ownBlock = some k → w.heap.size ≤ k) :
    Rows B w' (upd f i (some r')) := by
  refine ⟨fun j s hj => ?_, fun j k s t hj hk hne => ?_⟩
  · by_cases e : j = i
    · subst e; rw [upd_same] at hj; cases hj; exact ho
    · rw [upd_ne _ _ e] at hj
      exact World.ownsRow.kept (h.1 j s hj) hg (by cases s.v.ownBlock <;> simp)
  · by_cases e : j = i
    · subst e
      rw [upd_same] at hj; cases hj
      rw [upd_ne _ _ (Ne.symm hne)] at hk
      cases hr : r'.v.ownBlock with
      | none => exact .inl rfl
      | some m =>
        right; intro e2
        have h1 := hb m hr
        have h2 := (h.lt hk m e2.symm).2
        omega
    · rw [upd_ne _ _ e] at hj
      by_cases e' : k = i
      · subst e'; rw [upd_same] at hk; cases hk
        cases hs : s.v.ownBlock with
        | none => exact .inl rfl
        | some m =>
          right; intro e2
          have h1 := hb m e2.symm
          have h2 := (h.lt hj m hs).2
          omega
      · rw [upd_ne _ _ e'] at hk
        exact h.2 j k s t hj hk hne

theorem below_grows {w w' : World} (h : Below w.heap.size w w') (row : Option Nat) : w.grownBy w' row := ⟨h.os, h.tape, h.output, h.size, fun k hk _ => h.block k hk⟩
/-- A new row, made by a call that keeps what was. -/
theorem Rows.add {B : Nat} {w w' : World} {f : Names} {i : Nat × Nat} {r' : Row} (h : Rows B w f) (hb : Below w.heap.size w w') (ho : r'.own B w') (hn : ∀ k, r'.v.ownBlock = some k → w.heap.size ≤ k) : Rows B w' (upd f i (some r')) :=
  h.fresh (below_grows hb none) ho hn

/-- The block of a row that is not nil. -/
theorem Row.own.shape {B : Nat} {w : World} {r : Row} (h : r.own B w) (hn : 0 < r.n) : ∃ g cap, r.v = .slice (some ⟨g, 0, none⟩) r.n cap ∧ B ≤ g := by
  rcases h.2 with ⟨_, h0⟩ | ⟨g, cap, cur, e, hB, _⟩
  · omega
  · exact ⟨g, cap, e, hB⟩
/-- A store into cell k of row i. -/
theorem Rows.set {B : Nat} {w : World} {f : Names} {i : Nat × Nat} {r : Row} (h : Rows B w f) (hi : f i = some r) {g cap : Nat} (hv : r.v = .slice (some ⟨g, 0, none⟩) r.n cap) (k : Nat) (y : Value) :
    Rows B (w.setCell ⟨g, k, none⟩ y) (upd f i (some { r with xs := r.xs.set k y })) := by
  have ho := h.1 i r hi
  unfold Row.own at ho
  rw [hv] at ho
  have hs := World.ownsRow.stored ho k y
  refine h.grown hi (by rw [hv]; exact hs.2) ?_ (.inl rfl)
  unfold Row.own
  rw [hv]
  exact hs.1
theorem Rows.cell {B : Nat} {w : World} {f : Names} {i : Nat × Nat} {r : Row} (h : Rows B w f) (hi : f i = some r) {g cap : Nat} (hv : r.v = .slice (some ⟨g, 0, none⟩) r.n cap) (k : Nat) (hk : k < r.n * r.size) : w.cell? ⟨g, k, none⟩ = r.xs[k]? := by
  have ho := h.1 i r hi
  unfold Row.own at ho
  rw [hv] at ho
  exact ho.cellAt k hk
theorem Rows.frozen {B : Nat} {w : World} {f : Names} {i : Nat × Nat} {r : Row} (h : Rows B w f) (hi : f i = some r) {g cap : Nat} (hv : r.v = .slice (some ⟨g, 0, none⟩) r.n cap) (k : Nat) : w.frozen? ⟨g, k, none⟩ = false := by
  have ho := h.1 i r hi
  unfold Row.own at ho
  rw [hv] at ho
  exact ho.frozenAt k
theorem Rows.congr {B : Nat} {w : World} {f f' : Names} (h : Rows B w f) (e : ∀ i, f' i = f i) : Rows B w f' := by
  rw [show f' = f from funext e]; exact h
theorem Rows.drew {B : Nat} {w : World} {f : Names} (h : Rows B w f) : Rows B w.drew f := h
theorem Rows.drewN {B : Nat} {w : World} {f : Names} (h : Rows B w f) (n : Nat) : Rows B (w.drewN n) f := h

/-- A row of ints, of whatever one-cell values. -/
abbrev rowI (v : Value) (xs : List Int) : Row := ⟨3, 1, v, xs.length, xs.map (Value.int .i64)⟩
abbrev rowV (E : TypeId) (v : Value) (vs : List Value) : Row := ⟨E, 1, v, vs.length, vs⟩
theorem Rows.ownI {B : Nat} {w : World} {f : Names} {i : Nat × Nat} {v : Value} {xs : List Int} (h : Rows B w f) (hi : f i = some (rowI v xs)) : OwnI B w v xs := h.1 i _ hi
theorem Rows.ownV {B : Nat} {w : World} {f : Names} {i : Nat × Nat} {E : TypeId} {v : Value} {vs : List Value} (h : Rows B w f) (hi : f i = some (rowV E v vs)) : OwnV E B w v vs := h.1 i _ hi
/-- A store into element k of a row of ints. -/
theorem Rows.setI {B : Nat} {w : World} {f : Names} {i : Nat × Nat} {v : Value} {xs : List Int} (h : Rows B w f) (hi : f i = some (rowI v xs)) (k : Nat) (hk : k < xs.length) (y : Int) :
    Rows B (w.setCell (valAt v k) (.int .i64 y)) (upd f i (some (rowI v (xs.set k y)))) := by
  have ho := h.ownI hi
  have hs := ho.set k hk y
  refine h.grown hi ?_ hs (.inl rfl)
  have := ho.toV.setGrown k (by simpa using hk) (.int .i64 y)
  exact this
theorem Rows.setV {B : Nat} {w : World} {f : Names} {i : Nat × Nat} {E : TypeId} {v : Value} {vs : List Value} (h : Rows B w f) (hi : f i = some (rowV E v vs)) (k : Nat) (hk : k < vs.length) (y : Value) :
    Rows B (w.setCell (valAt v k) y) (upd f i (some (rowV E v (vs.set k y)))) := by
  have ho := h.ownV hi
  refine h.grown hi (ho.setGrown k hk y) ?_ (.inl rfl)
  have := ho.set k hk y
  unfold Row.own
  exact this
end Go.Proofs.YtilpckngghffoaaDoor

namespace Go.Proofs.YtilpckngghffoaaDoor
open Go.RowKit
set_option maxRecDepth 100000

theorem sizeInt1 : (Tryd.prog.info? 3).map (·.size) = some 1 := by kernel_rfl

theorem splice_take {α : Type} (C ys : List α) (off n : Nat) (h : off + ys.length ≤ n) (hn : n ≤ C.length) :
    (C.take off ++ ys ++ C.drop (off + ys.length)).take n = (C.take n).take off ++ ys ++ (C.take n).drop (off + ys.length) := by
  have hl : (C.take off ++ ys).length = off + ys.length := by simp; omega
  rw [List.take_append, List.take_of_length_le (by omega), hl, List.drop_take, List.take_take, Nat.min_eq_left (by omega)]

/-- A slice cut to its first h elements. -/
def preV (v : Value) (h : Nat) : Value := match v with | .slice a _ c => .slice a h c | v => v
theorem preV_at (v : Value) (h i : Nat) : valAt (preV v h) i = valAt v i := by
  cases v with
  | slice a n c => cases a <;> rfl
  | _ => rfl

theorem IntsAt.pre {w : World} {v : Value} {xs : List Int} (h : IntsAt w v xs) (k : Nat) (hk : k ≤ xs.length) : IntsAt w (preV v k) (xs.take k) := by
  obtain ⟨a, cap, rfl, h1, h2, h3, h4⟩ := h
  have hl : (xs.take k).length = k := by simp; omega
  refine ⟨a, cap, by rw [hl]; rfl, by omega, h2, h3, fun i hi => ?_⟩
  rw [preV_at, h4 i (by omega)]
  simp
/-- Numbers lent: two marks lie in the room behind them. -/
def LentI (B : Nat) (w : World) (m : Value) (xs : List Int) : Prop := ∃ v, m = preV v xs.length ∧ OwnI B w v (xs ++ [7001, 7002])
theorem LentI.at {B : Nat} {w : World} {m : Value} {xs : List Int} (h : LentI B w m xs) : IntsAt w m xs := by
  obtain ⟨v, rfl, ho⟩ := h
  have := ho.at.pre xs.length (by simp)
  rwa [List.take_left'] at this
  rfl
theorem LentI.below {B : Nat} {w w' : World} {m : Value} {xs : List Int} (h : LentI B w m xs) (hb : Below w.heap.size w w') : LentI B w' m xs := by
  obtain ⟨v, e, ho⟩ := h
  exact ⟨v, e, ho.below hb⟩
/-- What is kept below a block number. -/
theorem OwnI.belowB {B B' : Nat} {w w' : World} {v : Value} {xs : List Int} (h : OwnI B w v xs) (hb : Below B' w w') (hlt : ∀ k, v.ownBlock = some k → k < B') : OwnI B w' v xs := by
  refine ⟨h.1, ?_⟩
  rcases h.2 with h2 | ⟨g, cap, cur, rfl, hB, hg, r⟩
  · exact .inl h2
  · exact .inr ⟨g, cap, cur, rfl, hB, by rw [hb.block g (hlt g rfl)]; exact hg, r⟩
theorem LentI.belowB {B B' : Nat} {w0 w w' : World} {m : Value} {xs : List Int} (h : LentI B w m xs) (h0 : LentI B w0 m xs) (hs : w0.heap.size ≤ B') (hb : Below B' w w') : LentI B w' m xs := by
  obtain ⟨v, rfl, ho⟩ := h
  obtain ⟨v0, e0, ho0⟩ := h0
  refine ⟨v, rfl, ho.belowB hb fun k hk => ?_⟩
  have hbk : v0.ownBlock = v.ownBlock := by
    obtain ⟨a, n, c, rfl⟩ := ho.at.shape
    obtain ⟨a', n', c', rfl⟩ := ho0.at.shape
    simp [preV] at e0
    obtain ⟨rfl, rfl⟩ := e0
    cases a <;> rfl
  have := (ho0.lt k (hbk.trans hk)).2
  omega

end Go.Proofs.YtilpckngghffoaaDoor

namespace Go.Proofs.YtilpckngghffoaaDoor
open Go.RowKit
set_option maxRecDepth 100000

/-- What an edenraw.Err is in memory. -/
def EAt (w : World) (t : PErr) (v : Value) : Prop :=
  match t with
  | none => v = .agg #[.int .i64 0, .slice none 0 0, .slice none 0 0]
  | some (n, l) => ∃ a1 n1 c1 a2 n2 c2, v = .agg #[.int .i64 n, .slice a1 n1 c1, .slice a2 n2 c2] ∧ ValsAt w (.slice a1 n1 c1) (l.map fun x => Value.string x.1) ∧ IntsAt w (.slice a2 n2 c2) (l.map (·.2))

theorem EAt.below {w w' : World} {t : PErr} {v : Value} (h : EAt w t v) (hb : Below w.heap.size w w') : EAt w' t v := by
  match t, h with
  | none, h => exact h
  | some (n, l), ⟨a1, n1, c1, a2, n2, c2, e, h1, h2⟩ => exact ⟨a1, n1, c1, a2, n2, c2, e, h1.below hb, h2.below hb⟩

/-- An edenraw.Err whose lists this call made, from block B on. -/
def EOwn (B : Nat) (w : World) (t : PErr) (v : Value) : Prop :=
  match t with
  | none => v = .agg #[.int .i64 0, .slice none 0 0, .slice none 0 0]
  | some (n, l) => ∃ a1 n1 c1 a2 n2 c2, v = .agg #[.int .i64 n, .slice a1 n1 c1, .slice a2 n2 c2] ∧ OwnV 9 B w (.slice a1 n1 c1) (l.map fun x => Value.string x.1) ∧ OwnV 3 B w (.slice a2 n2 c2) ((l.map (·.2)).map (Value.int .i64))

theorem OwnV.setBelowBase {E : TypeId} {B : Nat} {w : World} {v : Value} {vs : List Value} (h : OwnV E B w v vs) {a : Addr} (ha : a.block < B) (u : Value) : OwnV E B (w.setCell a u) v vs := ownsRow_setCell_below h ha u
theorem EOwn.at {B : Nat} {w : World} {t : PErr} {v : Value} (h : EOwn B w t v) : EAt w t v := by
  match t, h with
  | none, h => exact h
  | some (n, l), ⟨a1, n1, c1, a2, n2, c2, e, h1, h2⟩ => exact ⟨a1, n1, c1, a2, n2, c2, e, h1.at, OwnI.at (OwnV.toI h2)⟩
theorem EOwn.mono {B B' : Nat} {w : World} {t : PErr} {v : Value} (h : EOwn B w t v) (hB : B' ≤ B) : EOwn B' w t v := by
  match t, h with
  | none, h => exact h
  | some (n, l), ⟨a1, n1, c1, a2, n2, c2, e, h1, h2⟩ => exact ⟨a1, n1, c1, a2, n2, c2, e, h1.mono hB, h2.mono hB⟩
theorem EOwn.below {B : Nat} {w w' : World} {t : PErr} {v : Value} (h : EOwn B w t v) (hb : Below w.heap.size w w') : EOwn B w' t v := by
  match t, h with
  | none, h => exact h
  | some (n, l), ⟨a1, n1, c1, a2, n2, c2, e, h1, h2⟩ => exact ⟨a1, n1, c1, a2, n2, c2, e, h1.below hb, h2.below hb⟩
theorem EOwn.set {B : Nat} {w : World} {t : PErr} {v : Value} (h : EOwn B w t v) {a : Addr} (ha : a.block < B) (u : Value) : EOwn B (w.setCell a u) t v := by
  match t, h with
  | none, h => exact h
  | some (n, l), ⟨a1, n1, c1, a2, n2, c2, e, h1, h2⟩ => exact ⟨a1, n1, c1, a2, n2, c2, e, h1.setBelowBase ha u, h2.setBelowBase ha u⟩
theorem OwnV.lit {E : TypeId} (B : Nat) (w : World) (hB : B ≤ w.heap.size) (x : Value) : OwnV E B (w.alloc (.cells #[x] E)) (.slice (some ⟨w.heap.size, 0, none⟩) 1 1) [x] :=
  World.ownsRow_lit (base := B) (e := E) (size := 1) w #[x] 1 hB (by unfold maxLen; omega) rfl

theorem EAt.shape {w : World} {t : PErr} {v : Value} (h : EAt w t v) : ∃ n a1 n1 c1 a2 n2 c2, v = .agg #[.int .i64 n, .slice a1 n1 c1, .slice a2 n2 c2] := by
  match t, h with
  | none, h => exact ⟨0, none, 0, 0, none, 0, 0, h⟩
  | some (n, l), ⟨a1, n1, c1, a2, n2, c2, e, _⟩ => exact ⟨n, a1, n1, c1, a2, n2, c2, e⟩

abbrev zErr : Value := .agg #[.int .i64 0, .slice none 0 0, .slice none 0 0]
theorem EAt.none (w : World) : EAt w none zErr := rfl

theorem ValsAt.alloc {w : World} {v : Value} {vs : List Value} (h : ValsAt w v vs) (o : Obj) : ValsAt (w.alloc o) v vs := h.below ((Below.refl _ _).alloc (Nat.le_refl _) _)
theorem ValsAt.drew {w : World} {v : Value} {vs : List Value} (h : ValsAt w v vs) : ValsAt w.drew v vs := h
theorem ValsAt.split {w : World} {v : Value} {vs : List Value} (h : ValsAt w v vs) : (v = .slice none 0 0 ∧ vs = []) ∨ ∃ p cap, v = .slice (some p) vs.length cap ∧ ∀ j u, vs[j]? = some u → w.cell? (p.add j) = some u := by
  obtain ⟨a, cap, rfl, h1, h2, h3, h4⟩ := h
  cases a with
  | none =>
    obtain rfl := h3 rfl
    obtain rfl := List.length_eq_zero_iff.1 (show vs.length = 0 by omega)
    exact .inl ⟨rfl, rfl⟩
  | some p =>
    refine .inr ⟨p, cap, rfl, fun j u hj => ?_⟩
    have hjl : j < vs.length := (List.getElem?_eq_some_iff.1 hj).1
    have := h4 j hjl
    simp only [valAt] at this
    rw [this, ← hj]; simp [hjl]
theorem IntsAt.alloc {w : World} {v : Value} {xs : List Int} (h : IntsAt w v xs) (o : Obj) : IntsAt (w.alloc o) v xs := h.below ((Below.refl _ _).alloc (Nat.le_refl _) _)

end Go.Proofs.YtilpckngghffoaaDoor

namespace Go.Proofs.YtilpckngghffoaaDoor
open Go.RowKit
set_option maxRecDepth 100000

theorem EOwn.shape {B : Nat} {w : World} {t : PErr} {v : Value} (h : EOwn B w t v) : ∃ n a1 n1 c1 a2 n2 c2, v = .agg #[.int .i64 n, .slice a1 n1 c1, .slice a2 n2 c2] := h.at.shape

theorem below_set3 {B b : Nat} {w0 w : World} (h : Below B w0 w) (hb : B ≤ b) (x y z : Value) : Below B w0 (((w.setCell ⟨b, 0, none⟩ x).setCell ⟨b, 1, none⟩ y).setCell ⟨b, 2, none⟩ z) :=
  ((h.setCell (p := ⟨b, 0, none⟩) hb x).setCell (p := ⟨b, 1, none⟩) hb y).setCell (p := ⟨b, 2, none⟩) hb z

end Go.Proofs.YtilpckngghffoaaDoor

namespace Go.Proofs.YtilpckngghffoaaDoor
open Go.RowKit

theorem check_k (r : Nat → Addr) (k R : Int) (v : Value) (w : World) (hg : Glob r w) (h : k < 1 ∨ 4 < k) :
    Calls Tryd.prog 24 #[.agg #[.int .i64 k, .int .i64 R, v]] w (Ret1 (fun x w' => ErrIs r w' (fresh sRule 0 1) x) w) := by
  have hg' := Lib.hid (hg.below ((Below.refl _ _).alloc (Nat.le_refl _) (.cells #[.int .i64 k, .int .i64 R, v] 24)))
  clear hg
  rcases h with h | h <;>
  (go_enter Tryd.func24, Tryd.ntmps24
   go_wp2_with fail
   refine (rule_wrong r _ _ _ hg'.out (by decide) (by decide)).mono ?_
   rintro e w' ⟨x, rfl, hb, he⟩
   go_wp2
   go_ret
   exact ⟨_, rfl, ((Below.refl _ _).alloc (Nat.le_refl _) _).trans (hb.mono (by simp)), he⟩)

theorem check_r (r : Nat → Addr) (k R : Int) (v : Value) (w : World) (hg : Glob r w) (h1 : 1 ≤ k) (h4 : k ≤ 4) (h : R < 0 ∨ 3 < R) :
    Calls Tryd.prog 24 #[.agg #[.int .i64 k, .int .i64 R, v]] w (Ret1 (fun x w' => ErrIs r w' (fresh sRule 1 1) x) w) := by
  have hg' := Lib.hid (hg.below ((Below.refl _ _).alloc (Nat.le_refl _) (.cells #[.int .i64 k, .int .i64 R, v] 24)))
  clear hg
  go_enter Tryd.func24, Tryd.ntmps24
  go_wp2_with fail
  refine (size_bad r _ _ _ hg'.out (by omega)).mono ?_
  rintro e w1 ⟨x, y, rfl, hb, rfl, he⟩
  obtain ⟨T, a, rfl⟩ := he.some_shape
  clear he
  go_wp2_with fail
  refine (rule_wrong r _ _ _ (hg'.out.below hb) (by decide) (by decide)).mono ?_
  rintro e w' ⟨x, rfl, hb', he⟩
  go_wp2
  go_ret
  exact ⟨_, rfl, (((Below.refl _ _).alloc (Nat.le_refl _) _).trans (hb.mono (by simp))).trans (hb'.mono (by have := hb.size; simp at this; omega)), he⟩

theorem check_len (r : Nat → Addr) (K R : Nat) (v : Value) (xs : List Int) (w : World) (hg : Glob r w) (h : IntsAt w v xs) (h1 : 1 ≤ K) (h4 : K ≤ 4) (h3 : R ≤ 3) (hl : xs.length ≠ pw K (2 * R + 1)) :
    Calls Tryd.prog 24 #[.agg #[.int .i64 K, .int .i64 R, v]] w (Ret1 (fun x w' => ErrIs r w' (fresh sRule 2 1) x) w) := by
  have hg' := Lib.hid (hg.below ((Below.refl _ _).alloc (Nat.le_refl _) (.cells #[.int .i64 K, .int .i64 R, v] 24)))
  clear hg
  have hlen := h.len
  clear h
  have hne : ((xs.length : Int) != (pw K (2 * R + 1) : Int)) = true := by simp; omega
  clear hl
  go_enter Tryd.func24, Tryd.ntmps24
  go_wp2_with fail
  refine (size_ok K R _ h1 h4 h3).mono ?_
  rintro e w1 ⟨rfl, rfl⟩
  go_wp2_with fail
  refine (rule_wrong r _ _ _ hg'.out (by decide) (by decide)).mono ?_
  rintro e w' ⟨x, rfl, hb', he⟩
  go_wp2
  go_ret
  exact ⟨_, rfl, ((Below.refl _ _).alloc (Nat.le_refl _) _).trans (hb'.mono (by simp)), he⟩

theorem check_odd (r : Nat → Addr) (K R : Nat) (v : Value) (xs : List Int) (i : Nat) (w : World) (hg : Glob r w) (h : IntsAt w v xs) (h1 : 1 ≤ K) (h4 : K ≤ 4) (h3 : R ≤ 3) (hl : xs.length = pw K (2 * R + 1)) (hi : idxOf (odd1 K) xs = i) (hi' : i < xs.length) :
    Calls Tryd.prog 24 #[.agg #[.int .i64 K, .int .i64 R, v]] w (Ret1 (fun x w' => ErrIs r w' (fresh sRule (3 + i) 1) x) w) := by
  have hg' := Lib.hid (hg.below ((Below.refl _ _).alloc (Nat.le_refl _) (.cells #[.int .i64 K, .int .i64 R, v] 24)))
  clear hg
  have hm := h.len_le
  have h' := Lib.hid (h.below ((Below.refl _ _).alloc (Nat.le_refl _) (.cells #[.int .i64 K, .int .i64 R, v] 24)))
  have hlen := h.len
  clear h
  have hne : ((xs.length : Int) != (pw K (2 * R + 1) : Int)) = false := by simp; omega
  clear hl
  replace hi := Lib.hid hi
  go_enter Tryd.func24, Tryd.ntmps24
  go_wp2_with fail
  refine (size_ok K R _ h1 h4 h3).mono ?_
  rintro e w1 ⟨rfl, rfl⟩
  go_wp2_with fail
  refine (rule_odd K v xs _ h'.out).mono ?_
  rintro e w1 ⟨x, rfl, hb, rfl⟩
  rw [hi.out]
  have hlt : i < 9223372036854775807 := by omega
  have hb3 : (3 + (i : Int)) ≤ 9223372036854775807 := by
    have := pw_le (i := 2 * R + 1) h1 h4 (by omega)
    have : ¬ ((xs.length : Int) != (pw K (2 * R + 1) : Int)) = true := by rw [hne]; simp
    simp at this
    omega
  go_wp2_with fail
  refine (rule_wrong r _ _ _ (hg'.out.below hb) (by decide) (by decide)).mono ?_
  rintro e w' ⟨x, rfl, hb', he⟩
  go_wp2
  go_ret
  exact ⟨_, rfl, (((Below.refl _ _).alloc (Nat.le_refl _) _).trans (hb.mono (by simp))).trans (hb'.mono (by have := hb.size; simp at this; omega)), he⟩

theorem check_ok (K R : Nat) (v : Value) (xs : List Int) (w : World) (h : IntsAt w v xs) (hr : RuleOk K R xs) :
    Calls Tryd.prog 24 #[.agg #[.int .i64 K, .int .i64 R, v]] w (Ret1 (fun x _ => x = .nilIface) w) := by
  obtain ⟨h1, h4, h3, hl, hs⟩ := hr
  have h' := Lib.hid (h.below ((Below.refl _ _).alloc (Nat.le_refl _) (.cells #[.int .i64 K, .int .i64 R, v] 24)))
  have hlen := h.len
  clear h
  have hne : ((xs.length : Int) != (pw K (2 * R + 1) : Int)) = false := by simp; omega
  clear hl
  replace hs := Lib.hid hs
  go_enter Tryd.func24, Tryd.ntmps24
  go_wp2_with fail
  refine (size_ok K R _ h1 h4 h3).mono ?_
  rintro e w1 ⟨rfl, rfl⟩
  go_wp2_with fail
  refine (rule_odd K v xs _ h'.out).mono ?_
  rintro e w1 ⟨x, rfl, hb, rfl⟩
  rw [hs.out.odd]
  go_wp2
  go_ret
  exact ⟨_, rfl, (((Below.refl _ _).alloc (Nat.le_refl _) _).trans (hb.mono (by simp))), rfl⟩

/-- rule.Check at every rule. -/
theorem check_any (r : Nat → Addr) (k R : Int) (v : Value) (xs : List Int) (w : World) (hg : Glob r w) (h : IntsAt w v xs) :
    Calls Tryd.prog 24 #[.agg #[.int .i64 k, .int .i64 R, v]] w (Ret1 (fun x w' => ErrIs r w' (checkP k R xs) x) w) := by
  by_cases hk : k < 1 ∨ 4 < k
  · rw [checkP, if_pos hk]; exact check_k r k R v w hg hk
  by_cases hr : R < 0 ∨ 3 < R
  · rw [checkP, if_neg hk, if_pos hr]; exact check_r r k R v w hg (by omega) (by omega) hr
  obtain ⟨K, rfl⟩ := Int.eq_ofNat_of_zero_le (show 0 ≤ k by omega)
  obtain ⟨R, rfl⟩ := Int.eq_ofNat_of_zero_le (show 0 ≤ R by omega)
  by_cases hl : xs.length = pw K (2 * R + 1)
  · rcases syms_or K xs with hs | ⟨i, hi, hlt⟩
    · have hok : RuleOk K R xs := ⟨by omega, by omega, by omega, hl, hs⟩
      rw [hok.check]; exact check_ok K R v xs w h hok
    · have : checkP K R xs = fresh sRule (3 + i) 1 := by
        rw [checkP, if_neg hk, if_neg hr, if_neg (by simp [hl]), if_neg (by omega), hi]
      rw [this]
      exact check_odd r K R v xs i w hg h (by omega) (by omega) (by omega) hl hi hlt
  · have : checkP K R xs = fresh sRule 2 1 := by
      rw [checkP, if_neg hk, if_neg hr, if_pos (by simpa using hl)]
    rw [this]
    exact check_len r K R v xs w hg h (by omega) (by omega) (by omega) hl
end Go.Proofs.YtilpckngghffoaaDoor

namespace Go.Proofs.YtilpckngghffoaaDoor
open Go.RowKit
set_option maxRecDepth 100000

end Go.Proofs.YtilpckngghffoaaDoor

namespace Go.Proofs.YtilpckngghffoaaDoor
open Go.RowKit
set_option maxRecDepth 100000

end Go.Proofs.YtilpckngghffoaaDoor

namespace Go.Proofs.YtilpckngghffoaaDoor
open Go.RowKit
set_option maxRecDepth 100000

theorem ValsAt.shape {w : World} {v : Value} {vs : List Value} (h : ValsAt w v vs) : ∃ a n c, v = .slice a n c := by
  obtain ⟨a, cap, e, _⟩ := h; exact ⟨_, _, _, e⟩
theorem cell_keep {w w' : World} {b i : Nat} {x : Value} (hb : Below w.heap.size w w') (h : w.cell? ⟨b, i, none⟩ = some x) : w'.cell? ⟨b, i, none⟩ = some x :=
  (hb.cell (p := ⟨b, i, none⟩) (World.block_lt_of_cell? _ _ h)).trans h
/-- Three cells of a variable of the call's own. -/
def Box3 (w : World) (b : Nat) (x0 x1 x2 : Value) : Prop := (w.cell? ⟨b, 0, none⟩ = some x0 ∧ w.cell? ⟨b, 1, none⟩ = some x1 ∧ w.cell? ⟨b, 2, none⟩ = some x2) ∧ w.frozen? ⟨b, 0, none⟩ = false ∧ w.frozen? ⟨b, 1, none⟩ = false ∧ w.frozen? ⟨b, 2, none⟩ = false
theorem Box3.below {w w' : World} {b : Nat} {x0 x1 x2 : Value} (h : Box3 w b x0 x1 x2) (hb : Below w.heap.size w w') : Box3 w' b x0 x1 x2 := by
  obtain ⟨⟨h0, h1, h2⟩, f0, f1, f2⟩ := h
  have hlt := World.block_lt_of_cell? _ _ h0
  exact ⟨⟨cell_keep hb h0, cell_keep hb h1, cell_keep hb h2⟩, (hb.frozen (p := ⟨b, 0, none⟩) hlt).trans f0, (hb.frozen (p := ⟨b, 1, none⟩) hlt).trans f1, (hb.frozen (p := ⟨b, 2, none⟩) hlt).trans f2⟩
theorem Box3.alloc {w : World} {b : Nat} {x0 x1 x2 : Value} (h : Box3 w b x0 x1 x2) (o : Obj) : Box3 (w.alloc o) b x0 x1 x2 := h.below ((Below.refl _ _).alloc (Nat.le_refl _) _)
theorem Box3.drew {w : World} {b : Nat} {x0 x1 x2 : Value} (h : Box3 w b x0 x1 x2) : Box3 w.drew b x0 x1 x2 := h
theorem OwnV.drew {E : TypeId} {B : Nat} {w : World} {v : Value} {vs : List Value} (h : OwnV E B w v vs) : OwnV E B w.drew v vs := h
end Go.Proofs.YtilpckngghffoaaDoor

namespace Go.Proofs.YtilpckngghffoaaDoor
open Go.RowKit Go.Extern.Stop Go.Stop Go.Extern
set_option maxRecDepth 100000
namespace Errs

end Errs
end Go.Proofs.YtilpckngghffoaaDoor

namespace Go.Proofs.YtilpckngghffoaaDoor
open Go.RowKit Go.Extern.Stop Go.Stop Go.Extern
set_option maxRecDepth 100000
namespace Errs

/-! errors.As at a Fault: the target a *api.Fault variable. -/
end Errs
end Go.Proofs.YtilpckngghffoaaDoor

namespace Go.Proofs.YtilpckngghffoaaDoor
open Go.RowKit Go.Extern.Stop Go.Stop Go.Extern
set_option maxRecDepth 100000
namespace Errs
end Errs
end Go.Proofs.YtilpckngghffoaaDoor

namespace Go.Proofs.YtilpckngghffoaaDoor
open Go.RowKit
set_option maxRecDepth 100000

theorem takeD {P : Program} {ops : Array Oper} {Q : Exit → Act → World → Prop} {md : Region.Mode} {S : World → Prop} {i : Nat} {oi : Oper} {v : Value} {fuel : Nat} {listed : Array Bool} {a : Act} {w : World} (d : Option Tmp) (hi : ops[i]? = some oi) (hd : oi.dst = d)
    (hs : Region.noSelect ops = true) (hf : Region.free md ops listed i = true) (hr : (Region.ready md ops listed).contains i = true)
    (hQ : ∀ c a w, Q (.panic c) (a.put d v) w → Q (.panic c) a w) (hy : YieldsIf P ops S oi v a) (hS : S w)
    (h : wpAnyH P md ops Q S fuel (listed.setIfInBounds i true) (a.put d v) w) : wpAnyH P md ops Q S (fuel + 1) listed a w := by
  subst hd
  exact wpAnyH_take hi hs hf hr hQ hy hS h

end Go.Proofs.YtilpckngghffoaaDoor

namespace Go.Proofs.YtilpckngghffoaaDoor

end Go.Proofs.YtilpckngghffoaaDoor

namespace Go.Proofs.YtilpckngghffoaaDoor

end Go.Proofs.YtilpckngghffoaaDoor

namespace Go.Proofs.YtilpckngghffoaaDoor

end Go.Proofs.YtilpckngghffoaaDoor

namespace Go.Proofs.YtilpckngghffoaaDoor
open Go.RowKit
set_option maxRecDepth 100000

theorem Box3.belowB {B : Nat} {w w' : World} {b : Nat} {x0 x1 x2 : Value} (h : Box3 w b x0 x1 x2) (hb : Below B w w') (hlt : b < B) : Box3 w' b x0 x1 x2 := by
  obtain ⟨⟨h0, h1, h2⟩, f0, f1, f2⟩ := h
  exact ⟨⟨(hb.cell (p := ⟨b, 0, none⟩) hlt).trans h0, (hb.cell (p := ⟨b, 1, none⟩) hlt).trans h1, (hb.cell (p := ⟨b, 2, none⟩) hlt).trans h2⟩, (hb.frozen (p := ⟨b, 0, none⟩) hlt).trans f0, (hb.frozen (p := ⟨b, 1, none⟩) hlt).trans f1, (hb.frozen (p := ⟨b, 2, none⟩) hlt).trans f2⟩
theorem Box3.far {w : World} {b b' : Nat} {x0 x1 x2 : Value} (h : Box3 w b x0 x1 x2) (hne : b' ≠ b) (i : Nat) (u : Value) : Box3 (w.setCell ⟨b', i, none⟩ u) b x0 x1 x2 := by
  obtain ⟨⟨h0, h1, h2⟩, f0, f1, f2⟩ := h
  refine ⟨⟨?_, ?_, ?_⟩, ?_, ?_, ?_⟩
  · rw [World.cell?_setCell_far _ _ _ _ hne]; exact h0
  · rw [World.cell?_setCell_far _ _ _ _ hne]; exact h1
  · rw [World.cell?_setCell_far _ _ _ _ hne]; exact h2
  · simpa using f0
  · simpa using f1
  · simpa using f2
end Go.Proofs.YtilpckngghffoaaDoor

namespace Go.Proofs.YtilpckngghffoaaDoor
open Go.RowKit
set_option maxRecDepth 100000

end Go.Proofs.YtilpckngghffoaaDoor

namespace Go.Proofs.YtilpckngghffoaaDoor
open Go.RowKit
set_option maxRecDepth 100000

theorem LentI.setBelow {B : Nat} {w : World} {m : Value} {xs : List Int} (h : LentI B w m xs) {a : Addr} (ha : a.block < B) (u : Value) : LentI B (w.setCell a u) m xs := by
  obtain ⟨v, e, ho⟩ := h
  exact ⟨v, e, ho.setBelowBase ha u⟩
theorem LentI.mono {B B' : Nat} {w : World} {m : Value} {xs : List Int} (h : LentI B w m xs) (hB : B' ≤ B) : LentI B' w m xs := by
  obtain ⟨v, e, ho⟩ := h
  exact ⟨v, e, ho.mono hB⟩

end Go.Proofs.YtilpckngghffoaaDoor

namespace Go.Proofs.YtilpckngghffoaaDoor
open Go.RowKit
set_option maxRecDepth 100000

theorem cell_far {w : World} {b i : Nat} {a : Addr} (h : a.block ≠ b) (u : Value) : (w.setCell ⟨b, i, none⟩ u).cell? a = w.cell? a :=
  World.cell?_setCell_other _ _ _ _ (by intro e; rw [← e] at h; exact h rfl)

theorem ErrAt.set {r : Nat → Addr} {w : World} {n : Int} {b i : Nat} (hs : ∀ s, w.cell? ⟨b, 0, none⟩ ≠ some (.string s)) (u : Value) :
    ∀ {l : List (ByteArray × Int)} {v : Value}, ErrAt r w n l v → ErrAt r (w.setCell ⟨b, i, none⟩ u) n l v
  | [], _, h => h
  | (op, at_) :: rest, v, ⟨p, u', e, c0, c1, c2, h⟩ => by
    have hp : p ≠ b := by rintro rfl; exact hs _ c0
    exact ⟨p, u', e, by rw [cell_far hp]; exact c0, by rw [cell_far hp]; exact c1, by rw [cell_far hp]; exact c2, ErrAt.set hs u h⟩
theorem ErrIs.set {r : Nat → Addr} {w : World} {t : PErr} {v : Value} {b i : Nat} (h : ErrIs r w t v) (hs : ∀ s, w.cell? ⟨b, 0, none⟩ ≠ some (.string s)) (u : Value) : ErrIs r (w.setCell ⟨b, i, none⟩ u) t v := by
  match t, h with
  | none, h => exact h
  | some (n, l), h => exact ErrAt.set hs u h

end Go.Proofs.YtilpckngghffoaaDoor

namespace Go.Proofs.YtilpckngghffoaaDoor
open Go.RowKit
set_option maxRecDepth 100000

theorem Rows.addE {B : Nat} {w w' : World} {f : Names} (i : Nat × Nat) {r' : Row} (h : Rows B w f) (hb : Below w.heap.size w w') (ho : r'.own B w') (hn : ∀ k, r'.v.ownBlock = some k → w.heap.size ≤ k) :
    ∃ f', Rows B w' f' ∧ f' i = some r' ∧ ∀ j, j ≠ i → f' j = f j :=
  ⟨_, h.add (i := i) hb ho hn, upd_same _ _ _, fun _ e => upd_ne _ _ e⟩
/-- A struct of four cells in a block of its own. -/
abbrev box4 (T : TypeId) (g : Nat) (cs : List Value) : Row := ⟨T, 4, .slice (some ⟨g, 0, none⟩) 1 1, 1, cs⟩
theorem Rows.box4 {B : Nat} {w : World} {f : Names} (i : Nat × Nat) (h : Rows B w f) (hB : B ≤ w.heap.size) (T : TypeId) (a b c d : Value) :
    ∃ f', Rows B (w.alloc (.cells #[a, b, c, d] T)) f' ∧ f' i = some (Go.Proofs.YtilpckngghffoaaDoor.box4 T w.heap.size [a, b, c, d]) ∧ ∀ j, j ≠ i → f' j = f j :=
  h.addE i (r' := Go.Proofs.YtilpckngghffoaaDoor.box4 T w.heap.size [a, b, c, d]) (belowAlloc w _) (World.ownsRow_lit (base := B) (e := T) (size := 4) w #[a, b, c, d] 1 hB (by decide) rfl) (fun k hk => by cases hk; exact Nat.le_refl _)
/-- A struct's cells. -/
structure Cells4 (w : World) (g : Nat) (a b c d : Value) : Prop where
  c0 : w.cell? ⟨g, 0, none⟩ = some a
  c1 : w.cell? ⟨g, 1, none⟩ = some b
  c2 : w.cell? ⟨g, 2, none⟩ = some c
  c3 : w.cell? ⟨g, 3, none⟩ = some d
theorem Cells4.below {w w' : World} {g : Nat} {a b c d : Value} (h : Cells4 w g a b c d) (hb : Below w.heap.size w w') : Cells4 w' g a b c d := by
  have k : ∀ {i x}, w.cell? ⟨g, i, none⟩ = some x → w'.cell? ⟨g, i, none⟩ = some x := fun {i x} hc => by
    rw [hb.cell (World.block_lt_of_cell? _ _ hc)]; exact hc
  exact ⟨k h.c0, k h.c1, k h.c2, k h.c3⟩
theorem Cells4.belowB {B : Nat} {w w' : World} {g : Nat} {a b c d : Value} (h : Cells4 w g a b c d) (hb : Below B w w') (hg : g < B) : Cells4 w' g a b c d := by
  have k : ∀ {i x}, w.cell? ⟨g, i, none⟩ = some x → w'.cell? ⟨g, i, none⟩ = some x := fun {i x} hc => by
    rw [hb.cell hg]; exact hc
  exact ⟨k h.c0, k h.c1, k h.c2, k h.c3⟩
theorem Cells4.alloc (w : World) (T : TypeId) (a b c d : Value) : Cells4 (w.alloc (.cells #[a, b, c, d] T)) w.heap.size a b c d := by
  refine ⟨?_, ?_, ?_, ?_⟩ <;> simp [go_sem]
theorem Rows.cells4 {B : Nat} {w : World} {f : Names} {i : Nat × Nat} {T : TypeId} {g : Nat} {a b c d : Value} (h : Rows B w f) (hi : f i = some (Go.Proofs.YtilpckngghffoaaDoor.box4 T g [a, b, c, d])) : Cells4 w g a b c d :=
  ⟨h.cell hi (g := g) (cap := 1) rfl 0 (show 0 < 1 * 4 by decide), h.cell hi (g := g) (cap := 1) rfl 1 (show 1 < 1 * 4 by decide), h.cell hi (g := g) (cap := 1) rfl 2 (show 2 < 1 * 4 by decide), h.cell hi (g := g) (cap := 1) rfl 3 (show 3 < 1 * 4 by decide)⟩
theorem Rows.frz4 {B : Nat} {w : World} {f : Names} {i : Nat × Nat} {T : TypeId} {g : Nat} {cs : List Value} (h : Rows B w f) (hi : f i = some (Go.Proofs.YtilpckngghffoaaDoor.box4 T g cs)) (k : Nat) : w.frozen? ⟨g, k, none⟩ = false :=
  h.frozen hi (g := g) (cap := 1) rfl k
theorem Rows.low4 {B : Nat} {w : World} {f : Names} {i : Nat × Nat} {T : TypeId} {g : Nat} {cs : List Value} (h : Rows B w f) (hi : f i = some (Go.Proofs.YtilpckngghffoaaDoor.box4 T g cs)) : B ≤ g ∧ g < w.heap.size :=
  h.lt hi g rfl
theorem Rows.st4 {B : Nat} {w : World} {f : Names} {i : Nat × Nat} {T : TypeId} {g : Nat} {cs : List Value} (h : Rows B w f) (hi : f i = some (Go.Proofs.YtilpckngghffoaaDoor.box4 T g cs)) (k : Nat) (y : Value) :
    ∃ f', Rows B (w.setCell ⟨g, k, none⟩ y) f' ∧ f' i = some (Go.Proofs.YtilpckngghffoaaDoor.box4 T g (cs.set k y)) ∧ ∀ j, j ≠ i → f' j = f j :=
  ⟨_, h.set hi (g := g) (cap := 1) rfl k y, upd_same _ _ _, fun _ e => upd_ne _ _ e⟩
theorem Rows.all4 {B : Nat} {w : World} {f : Names} {i : Nat × Nat} {T : TypeId} {g : Nat} {x0 x1 x2 x3 : Value} (h : Rows B w f) (hi : f i = some (Go.Proofs.YtilpckngghffoaaDoor.box4 T g [x0, x1, x2, x3])) (a b c d : Value) :
    ∃ f', Rows B ((((w.setCell ⟨g, 0, none⟩ a).setCell ⟨g, 1, none⟩ b).setCell ⟨g, 2, none⟩ c).setCell ⟨g, 3, none⟩ d) f' ∧ f' i = some (Go.Proofs.YtilpckngghffoaaDoor.box4 T g [a, b, c, d]) ∧ ∀ j, j ≠ i → f' j = f j := by
  obtain ⟨f1, h1, i1, o1⟩ := h.st4 hi 0 a
  obtain ⟨f2, h2, i2, o2⟩ := h1.st4 i1 1 b
  obtain ⟨f3, h3, i3, o3⟩ := h2.st4 i2 2 c
  obtain ⟨f4, h4, i4, o4⟩ := h3.st4 i3 3 d
  exact ⟨f4, h4, i4, fun j e => by rw [o4 j e, o3 j e, o2 j e, o1 j e]⟩
theorem Below.all4 {B g : Nat} {w0 w : World} (h : Below B w0 w) (hb : B ≤ g) (a b c d : Value) : Below B w0 ((((w.setCell ⟨g, 0, none⟩ a).setCell ⟨g, 1, none⟩ b).setCell ⟨g, 2, none⟩ c).setCell ⟨g, 3, none⟩ d) :=
  (((h.setCell (show B ≤ (⟨g, 0, Option.none⟩ : Addr).block from hb) _).setCell (show B ≤ (⟨g, 1, Option.none⟩ : Addr).block from hb) _).setCell (show B ≤ (⟨g, 2, Option.none⟩ : Addr).block from hb) _).setCell (show B ≤ (⟨g, 3, Option.none⟩ : Addr).block from hb) _
theorem ErrIs.all4 {r : Nat → Addr} {w : World} {t : PErr} {v : Value} {g : Nat} {n : Int} {b c d : Value} (h : ErrIs r w t v) (hc : Cells4 w g (.int .i64 n) b c d) (x y z : Value) :
    ErrIs r ((((w.setCell ⟨g, 0, none⟩ (.int .i64 0)).setCell ⟨g, 1, none⟩ x).setCell ⟨g, 2, none⟩ y).setCell ⟨g, 3, none⟩ z) t v := by
  have k1 : (w.setCell ⟨g, 0, none⟩ (.int .i64 0)).cell? ⟨g, 0, none⟩ = some (.int .i64 0) := World.cell?_setCell_same _ _ _ hc.c0
  have k2 : ((w.setCell ⟨g, 0, none⟩ (.int .i64 0)).setCell ⟨g, 1, none⟩ x).cell? ⟨g, 0, none⟩ = some (.int .i64 0) := by
    rw [World.cell?_setCell_other _ _ _ _ (by intro e; cases e)]; exact k1
  have k3 : (((w.setCell ⟨g, 0, none⟩ (.int .i64 0)).setCell ⟨g, 1, none⟩ x).setCell ⟨g, 2, none⟩ y).cell? ⟨g, 0, none⟩ = some (.int .i64 0) := by
    rw [World.cell?_setCell_other _ _ _ _ (by intro e; cases e)]; exact k2
  exact (((h.set (b := g) (i := 0) (fun s e => by rw [hc.c0] at e; cases e) _).set (b := g) (i := 1) (fun s e => by rw [k1] at e; cases e) _).set (b := g) (i := 2) (fun s e => by rw [k2] at e; cases e) _).set (b := g) (i := 3) (fun s e => by rw [k3] at e; cases e) _
end Go.Proofs.YtilpckngghffoaaDoor

namespace Go.Proofs.YtilpckngghffoaaDoor
open Go.RowKit
set_option maxRecDepth 100000

end Go.Proofs.YtilpckngghffoaaDoor

namespace Go.Proofs.YtilpckngghffoaaDoor
open Go.RowKit
set_option maxRecDepth 100000

end Go.Proofs.YtilpckngghffoaaDoor

namespace Go.Proofs.YtilpckngghffoaaDoor
open Go.RowKit
set_option maxRecDepth 100000

end Go.Proofs.YtilpckngghffoaaDoor

namespace Go.Proofs.YtilpckngghffoaaDoor
open Go.RowKit
set_option maxRecDepth 100000

end Go.Proofs.YtilpckngghffoaaDoor

namespace Go.Proofs.YtilpckngghffoaaDoor
open Go.RowKit
set_option maxRecDepth 100000

theorem run_makeI (C : Int) (n : Nat) (w : World) (hC : C = n) (hn : n ≤ 17592186044416) :
    ∃ v w', (Instr.makeSlice 22 (.int .i64 C) (.int .i64 C)).run Tryd.prog w = .ok v w' ∧ OwnI w.heap.size w' v (List.replicate n 0) ∧ Below w.heap.size w w' := by
  subst hC
  obtain ⟨i, hi, hz0, hz1, hz2⟩ := info_parts iInt
  obtain ⟨w', hrun, r1, r2⟩ := run_make_full (P := Tryd.prog) w w.heap.size 22 3 i (.int .i64 0) 1 uInts hi hz0 hz1 .i64 .i64 n (by rw [hz2]; omega) (by unfold maxLen; omega) (Nat.le_refl _)
  refine ⟨_, w', hrun, ?_, (Below.refl _ _).grown r2 (Nat.le_refl _) (by intro k hk; cases hk)⟩
  have e : (madeCells (Value.cells (.int .i64 0)) (n * 1)).toList = (List.replicate n (0 : Int)).map (Value.int .i64) := by
    rw [show Value.cells (.int .i64 0) = #[.int .i64 0] from rfl, toList_madeCells_one]; simp
  rw [e] at r1
  simpa [OwnI] using r1

/-- What is left of an owned slice from a place on. -/
theorem OwnI.post {B : Nat} {w : World} {v : Value} {xs : List Int} (h : OwnI B w v xs) (off : Nat) (ho : off ≤ xs.length) :
    ∃ dp dLen dCap, (∀ w', (Instr.slice 22 v (some (.int .i64 off)) none none).run Tryd.prog w' = .ok (.slice dp dLen dCap) w') ∧ dLen = xs.length - off ∧ (0 < xs.length - off → dp = some (valAt v off)) := by
  rcases h.2 with ⟨rfl, hn⟩ | ⟨g, cap, cur, rfl, hB, hg, hn, hm, hs, ht⟩
  · have hr : ∀ w', (Instr.slice 22 (.slice none 0 0) (some (.int .i64 off)) none none).run Tryd.prog w' = .ok (sliced none off 0 0 1) w' := by
      intro w'
      rw [run_slice_l w' 22 none 0 0 uIntsE .i64 off (by omega) (by omega), eInts, sInt]
      rfl
    exact ⟨_, _, _, hr, by omega, by intro hh; omega⟩
  · have hr : ∀ w', (Instr.slice 22 (.slice (some ⟨g, 0, none⟩) xs.length cap) (some (.int .i64 off)) none none).run Tryd.prog w' = .ok (sliced (some ⟨g, 0, none⟩) off xs.length cap 1) w' := by
      intro w'
      rw [run_slice_l w' 22 (some ⟨g, 0, none⟩) xs.length cap uIntsE .i64 off (by omega) (by omega), eInts, sInt]
      rfl
    refine ⟨_, _, _, hr, rfl, fun hh => ?_⟩
    rw [if_neg (by omega), valAt_row]
    simp [Addr.add]
    intro e; exact e.symm

end Go.Proofs.YtilpckngghffoaaDoor

namespace Go.Proofs.YtilpckngghffoaaDoor

section
variable {P : Program} {ops : Array Oper} {Q : Exit → Act → World → Prop} {md : Region.Mode} {S : World → Prop}

/-- Whatever order is picked from here on; behind an operation of the head the fact S holds. -/
def wpAnyT (P : Program) (md : Region.Mode) (ops : Array Oper) (Q : Exit → Act → World → Prop) (S : World → Prop) (n : Nat) : Nat → Array Bool → Act → World → Prop
  | 0, listed, a, w => Region.ready md ops listed = [] ∧ Q .normal a w
  | fuel + 1, listed, a, w =>
    (Region.ready md ops listed = [] → Q .normal a w) ∧
    ∀ i ∈ Region.ready md ops listed, wpOp P ops Q i (fun a' w' => (i < n → S w') ∧ wpAnyT P md ops Q S n fuel (listed.setIfInBounds i true) a' w') a w

theorem wpAny_of_T {n : Nat} : ∀ (fuel : Nat) (listed : Array Bool) (a : Act) (w : World), wpAnyT P md ops Q S n fuel listed a w → wpAny P md ops Q fuel listed a w
  | 0, _, _, _, h => h
  | fuel + 1, _, _, _, h => ⟨h.1, fun i hi => wpOp_mono (fun a' w' h' => wpAny_of_T fuel _ a' w' h'.2) (h.2 i hi)⟩

/-- Where the whole head has come up, it is a wpAny. -/
theorem wpAnyT_of {n : Nat} : ∀ (fuel : Nat) (listed : Array Bool) (a : Act) (w : World), (∀ j, j < n → listed.getD j true = true) → wpAny P md ops Q fuel listed a w → wpAnyT P md ops Q S n fuel listed a w
  | 0, _, _, _, _, h => h
  | fuel + 1, listed, a, w, hl, h => ⟨h.1, fun i hi => wpOp_mono (fun a' w' h' => ⟨fun hin => Bool.noConfusion ((hl i hin).symm.trans (mem_ready.1 hi).1), wpAnyT_of fuel _ a' w' (fun j hj => by
        by_cases hij : i = j
        · subst hij
          rcases Nat.lt_or_ge i listed.size with h2 | h2
          · simp [h2]
          · rw [Array.getD_eq_getD_getElem?, Array.getElem?_eq_none (by simpa using h2)]; rfl
        · rw [getD_set_ne true hij]; exact hl j hj) h'⟩) (h.2 i hi)⟩

theorem wpAnyT_first {n i : Nat} {oi : Oper} {v : Value} (hi : ops[i]? = some oi) (hsel : ∀ (j : Nat) (o : Oper) cs b, ops[j]? = some o → o.op ≠ .select cs b)
    (hs : Region.sinkB md ops n = true) (hc : Region.chainB md ops n = true) (hn : n < ops.size) (hin : i < n)
    (hQ : ∀ c a w, Q (.panic c) (a.put oi.dst v) w → Q (.panic c) a w) :
    ∀ (fuel : Nat) (listed : Array Bool) (a : Act) (w : World), HeadInv md ops n listed →
      (∀ j oj, ops[j]? = some oj → j ≠ i → listed.getD j true = false → (∀ e ∈ oj.after, Region.binds md e = true → e.on ≠ i) → oi.apart ops oj = true) →
      i ∈ Region.ready md ops listed → YieldsIf P ops S oi v a → S w →
      wpAnyT P md ops Q S n fuel (listed.setIfInBounds i true) (a.put oi.dst v) w → wpAnyT P md ops Q S n (fuel + 1) listed a w := by
  intro fuel
  induction fuel with
  | zero =>
    intro listed a w inv _ hr hy hS H
    refine ⟨fun h => (by rw [h] at hr; cases hr), fun j hj => ?_⟩
    by_cases hji : j = i
    · subst hji; exact hy.wpOp hi hS ⟨fun _ => hS, H⟩
    · have := ready_mono hj hji
      rw [H.1] at this
      cases this
  | succ fuel ih =>
    intro listed a w inv hfree hr hy hS H
    have hun := (mem_ready.1 hr).1
    refine ⟨fun h => (by rw [h] at hr; cases hr), fun j hj => ?_⟩
    have hjn : j < n := by
      rcases Nat.lt_or_ge j n with h | h
      · exact h
      · exact absurd hj (tail_waits hs hc hn inv _ i rfl hin hun j h)
    by_cases hji : j = i
    · subst hji; exact hy.wpOp hi hS ⟨fun _ => hS, H⟩
    · have h1 := H.2 j (ready_mono hj hji)
      obtain ⟨hjun, oj, hoj, hall⟩ := mem_ready.1 hj
      have hnot : ∀ e ∈ oj.after, Region.binds md e = true → e.on ≠ i := fun e he hb heq => by
        have h1 := hall e he hb
        rw [heq, getD_both hun] at h1
        cases h1
      have h2 := wpOp_putIf hoj (hfree j oj hoj hji hjun hnot) (fun cs b => hsel i oi cs b hi) (fun cs b => hsel j oj cs b hoj) hQ hy h1
      have hfree' : ∀ k ok, ops[k]? = some ok → k ≠ i → (listed.setIfInBounds j true).getD k true = false →
          (∀ e ∈ ok.after, Region.binds md e = true → e.on ≠ i) → oi.apart ops ok = true := fun k ok hk hki hun hno => by
        refine hfree k ok hk hki ?_ hno
        by_cases hjk : j = k
        · subst hjk; exact hjun
        · rw [getD_set_ne true hjk] at hun; exact hun
      refine wpOp_mono (fun a' w' h3 => ⟨fun _ => h3.2.1 hjn, ih (listed.setIfInBounds j true) a' w' (inv.set hj hjn) hfree' (ready_mono hr (Ne.symm hji)) h3.1 (h3.2.1 hjn) ?_⟩) h2
      rw [Array.setIfInBounds_comm _ _ hji]
      exact h3.2.2

/-- The head's operations in the plan's order: (k, true): number k yields a value under S; (k, false): number k alone can come up, whatever it does. -/
def wpHead (P : Program) (ops : Array Oper) (Q : Exit → Act → World → Prop) (S : World → Prop) (K : Act → World → Prop) : List (Nat × Bool) → Act → World → Prop
  | [], a, w => K a w
  | (k, true) :: l, a, w => ∃ o v, ops[k]? = some o ∧ YieldsIf P ops S o v a ∧ S w ∧ wpHead P ops Q S K l (a.put o.dst v) w
  | (k, false) :: l, a, w => wpOp P ops Q k (fun a' w' => S w' ∧ wpHead P ops Q S K l a' w') a w

def planB (md : Region.Mode) (ops : Array Oper) (n : Nat) : List (Nat × Bool) → Array Bool → Bool
  | [], listed => (List.range n).all (fun j => listed.getD j true) && Region.seqB md ops (ops.size - n) n listed
  | (k, true) :: l, listed => decide (k < n) && (Region.ready md ops listed).contains k && Region.free md ops listed k && planB md ops n l (listed.setIfInBounds k true)
  | (k, false) :: l, listed => decide (k < n) && decide (Region.ready md ops listed = [k]) && planB md ops n l (listed.setIfInBounds k true)

theorem wpAnyT_plan {n : Nat} {ol : List Oper} (hol : ops = ol.toArray) (hsel : Region.noSelect ops = true) (hs : Region.sinkB md ops n = true) (hc : Region.chainB md ops n = true) (hn : n < ops.size)
    (hQ : ∀ c a w, Q (.panic c) a w → False) :
    ∀ (l : List (Nat × Bool)) (listed : Array Bool) (a : Act) (w : World), HeadInv md ops n listed → planB md ops n l listed = true →
      wpHead P ops Q S (fun a' w' => wpList P ops Q (ol.drop n) a' w') l a w → wpAnyT P md ops Q S n (l.length + (ops.size - n)) listed a w
  | [], listed, a, w, inv, hB, h => by
    simp only [planB, Bool.and_eq_true] at hB
    have hl : ∀ j, j < n → listed.getD j true = true := fun j hj => List.all_eq_true.1 hB.1 j (List.mem_range.2 hj)
    rw [List.length_nil, Nat.zero_add]
    refine wpAnyT_of _ _ _ _ hl ?_
    have hdl : (ol.drop n).length = ops.size - n := by subst hol; simp
    rw [← hdl]
    refine wpAny_of_seq (ol.drop n) n listed a w (fun j => by subst hol; simp) ?_ h
    rw [hdl]; exact hB.2
  | (k, true) :: l, listed, a, w, inv, hB, h => by
    simp only [planB, Bool.and_eq_true, decide_eq_true_eq] at hB
    obtain ⟨⟨⟨hkn, hr⟩, hf⟩, hB'⟩ := hB
    obtain ⟨o, v, ho, hy, hS, h'⟩ := h
    have hr' : k ∈ Region.ready md ops listed := by simpa using hr
    rw [show ((k, true) :: l).length + (ops.size - n) = (l.length + (ops.size - n)) + 1 by simp; omega]
    exact wpAnyT_first ho (Region.noSelect_spec hsel) hs hc hn hkn (fun c a w h => (hQ c _ w h).elim) _ listed a w inv (Region.free_spec ho hf) hr' hy hS
      (wpAnyT_plan hol hsel hs hc hn hQ l _ _ _ (inv.set hr' hkn) hB' h')
  | (k, false) :: l, listed, a, w, inv, hB, h => by
    simp only [planB, Bool.and_eq_true, decide_eq_true_eq] at hB
    obtain ⟨⟨hkn, hr⟩, hB'⟩ := hB
    rw [show ((k, false) :: l).length + (ops.size - n) = (l.length + (ops.size - n)) + 1 by simp; omega]
    refine ⟨fun h0 => (by rw [h0] at hr; cases hr), fun i hi => ?_⟩
    have hi' := hi
    rw [hr] at hi'
    obtain rfl : i = k := by simpa using hi'
    exact wpOp_mono (fun a' w' h3 => ⟨fun _ => h3.1, wpAnyT_plan hol hsel hs hc hn hQ l _ a' w' (inv.set hi hkn) hB' h3.2⟩) h

/-- What is asked of the region and the plan. -/
def tailB (md : Region.Mode) (ops : Array Oper) (n : Nat) (plan : List (Nat × Bool)) : Bool :=
  Region.noSelect ops && decide (n < ops.size) && Region.sinkB md ops n && Region.chainB md ops n && decide (plan.length = n) && planB md ops n plan (Array.replicate ops.size false)

/-- **The law**: a region that draws its order, by a plan for its head; then its tail, one behind the other. -/
theorem wp_region_plan {id : Nat} {a : Act} {w : World} {l : List Oper} (S : World → Prop) (n : Nat) (plan : List (Nat × Bool)) (hm : P.follows .mixedOrders = true) (hB : tailB .any l.toArray n plan = true)
    (h : wpHead P l.toArray (NoPanic Q) S (fun a' w' => wpList P l.toArray (NoPanic Q) (l.drop n) a' w') plan a w.drew) : (Code.region id l.toArray true).wp P Q a w := by
  simp only [tailB, Bool.and_eq_true, decide_eq_true_eq] at hB
  obtain ⟨⟨⟨⟨⟨hsel, hn⟩, hs⟩, hc⟩, hlen⟩, hp⟩ := hB
  refine wp_region_noPanic ?_
  refine wp_region_any hm ?_
  have inv0 : HeadInv .any l.toArray n (Array.replicate l.toArray.size false) :=
    ⟨by simp, fun j oj _ hl => (by rw [getD_replicate_false] at hl; cases hl), fun t _ ht => getD_in (by simpa using ht) (getD_replicate_false _ _)⟩
  have := wpAnyT_plan (md := .any) (Q := NoPanic Q) (S := S) rfl hsel hs hc hn (fun _ _ _ h => h) plan _ a _ inv0 hp h
  rw [hlen, show n + (l.toArray.size - n) = l.toArray.size by omega] at this
  exact wpAny_of_T _ _ _ _ this

/-- A step that yields. -/
theorem headY {K : Act → World → Prop} {k : Nat} {o : Oper} {v : Value} {l : List (Nat × Bool)} {a : Act} {w : World} (d : Option Tmp) (ho : ops[k]? = some o) (hd : o.dst = d)
    (hy : YieldsIf P ops S o v a) (hS : S w) (h : wpHead P ops Q S K l (a.put d v) w) : wpHead P ops Q S K ((k, true) :: l) a w := by
  subst hd; exact ⟨o, v, ho, hy, hS, h⟩
/-- A step that does whatever it does. -/
theorem headC {K : Act → World → Prop} {k : Nat} {o : Oper} {l : List (Nat × Bool)} {a : Act} {w : World} (ho : ops[k]? = some o)
    (h : ∀ K' : Act → World → Prop, (∀ a w, S w → wpHead P ops Q S K l a w → K' a w) → if Region.wanted o (yielded ops a.tmps) = true then Oper.wp P o a w K' Q else K' (a.put o.dst undef) w) :
    wpHead P ops Q S K ((k, false) :: l) a w := by
  show wpOp _ _ _ _ _ _ _
  unfold wpOp
  simp only [ho]
  have := h (fun a' w' => S w' ∧ wpHead P ops Q S K l a' w') (fun a w h1 h2 => ⟨h1, h2⟩)
  split
  · rename_i hw; rw [if_pos hw] at this; exact .inl this
  · rename_i hw; rw [if_neg hw] at this; exact this
theorem head0 {K : Act → World → Prop} {a : Act} {w : World} (h : K a w) : wpHead P ops Q S K [] a w := h
end
end Go.Proofs.YtilpckngghffoaaDoor

namespace Go.Proofs.YtilpckngghffoaaDoor
open Go.RowKit

def sTwins : ByteArray := ⟨#[116, 119, 105, 110, 115]⟩
def Ret4 (Φ : Value → Value → Value → Value → World → Prop) (w : World) (e : Ending) (w' : World) : Prop := ∃ x y z u, e = .returned (.tuple #[x, y, z, u]) ∧ Below w.heap.size w w' ∧ Φ x y z u w'
theorem results_tmp4 {fn : Func} {t u v x : Tmp} (h : fn.results = #[.tmp t, .tmp u, .tmp v, .tmp x]) (tmps : Array Value) (P : Program) (w : World) :
    (results fn tmps).run P w = .ok (.tuple #[tmps.getD t undef, tmps.getD u undef, tmps.getD v undef, tmps.getD x undef]) w := by
  simp [results, h]
end Go.Proofs.YtilpckngghffoaaDoor

namespace Go.Proofs.YtilpckngghffoaaDoor
open Go.RowKit
set_option maxRecDepth 100000

theorem dmN (p N : Nat) (hp : p ≤ 100000000) : (p : Int).tmod (N : Int) = ((p % N : Nat) : Int) ∧ (p : Int) % (N : Int) = ((p % N : Nat) : Int) ∧ IntKind.i64.wrap ((p % N : Nat) : Int) = ((p % N : Nat) : Int) := by
  have h2 : p % N ≤ p := Nat.mod_le _ _
  refine ⟨by rw [Int.tmod_eq_emod_of_nonneg (by omega)]; simp, by simp, ?_⟩
  generalize p % N = a at *
  exact wrapK (by omega) (by omega)

set_option maxHeartbeats 2000000 in
theorem row_cell (p i : Int) (la : Option Addr) (ln lc : Nat) (ca : Option Addr) (cn cc : Nat) (qa : Option Addr) (qn qc : Nat) (L C Q : List Int) (w : World) (hL : IntsAt w (.slice la ln lc) L) (hC : IntsAt w (.slice ca cn cc) C) (hQ : IntsAt w (.slice qa qn qc) Q) (l1 : 1 ≤ L.length) (q1 : 1 ≤ Q.length) (lb : L.length ≤ 100000) (cb : C.length ≤ 100000) (qb : Q.length ≤ 100000) (hp : -1000000 ≤ p ∧ p ≤ 1000000) (hi : -10000000 ≤ i ∧ i ≤ 10000000) :
    Calls Tryd.prog 45 #[.agg #[.int .i64 p, .slice la ln lc, .slice ca cn cc, .slice qa qn qc], .int .i64 i] w (Ret1 (fun x _ => x = .int .i64 (cellP p L C Q i)) w) := by
  have b0 := belowAlloc w (.cells #[.int .i64 p, .slice la ln lc, .slice ca cn cc, .slice qa qn qc] 26)
  obtain ⟨y0, y1, y2, y3⟩ := Cells4.alloc w 26 (.int .i64 p) (.slice la ln lc) (.slice ca cn cc) (.slice qa qn qc)
  obtain ⟨w0, hw0⟩ : ∃ W : World, w.alloc (.cells #[.int .i64 p, .slice la ln lc, .slice ca cn cc, .slice qa qn qc] 26) = W := ⟨_, rfl⟩
  rw [hw0] at b0 y0 y1 y2 y3
  replace hL := hL.below b0
  replace hC := hC.below b0
  replace hQ := hQ.below b0
  have nL := hL.len
  have nC := hC.len
  have nQ := hQ.len
  replace hw0 := Lib.hid hw0
  obtain ⟨d, hd⟩ : ∃ d, i - p = d := ⟨_, rfl⟩
  by_cases h1 : d < 0
  · have d1 : decide (d < 0) = true := decide_eq_true h1
    obtain ⟨c1, c2, r, e1, e2, e3, e4, e5, e6, e7, e8⟩ := ring_mod (a := d) (n := L.length) l1
    have e6' : (c2 : Int).tmod (L.length : Int) = (r : Int) := by rw [Int.tmod_eq_emod_of_nonneg (by omega), ← Int.natCast_emod, e6]
    have k1 : IntKind.i64.wrap c1 = c1 := wrapK (by omega) (by omega)
    have k2 : IntKind.i64.wrap (c2 : Int) = (c2 : Int) := wrapK (by omega) (by omega)
    have k3 : IntKind.i64.wrap (r : Int) = (r : Int) := wrapK (by omega) (by omega)
    have hn3 : ¬ L.length = 0 := by omega
    have hn4 : ((L.length : Int) == 0) = false := by rw [beq_eq_false_iff_ne]; omega
    have hv : cellP p L C Q i = L.getD r 0 := by
      unfold cellP
      rw [hd, if_pos h1, e8, Int.toNat_natCast]
    have iJ := fun w' => hL.idx r e7 w'
    have cJ := hL.cellD r e7
    rw [hv]
    obtain ⟨ta, hta⟩ : ∃ ta, valAt (.slice la ln lc) r = ta := ⟨_, rfl⟩
    obtain ⟨x, hx⟩ : ∃ x, L.getD r 0 = x := ⟨_, rfl⟩
    rw [hta] at iJ cJ
    rw [hx] at cJ ⊢
    have hS : w0.drew.cell? ⟨w.heap.size, 1, none⟩ = some (.slice la ln lc) ∧ w0.drew.cell? ta = some (.int .i64 x) := ⟨y1, cJ⟩
    have b1 := b0.drew
    obtain ⟨W, hW⟩ : ∃ W : World, w0.drew = W := ⟨_, rfl⟩
    rw [hW] at hS b1
    replace hW := Lib.hid hW
    clear nC nQ
    replace hL := Lib.hid hL
    replace hC := Lib.hid hC
    replace hQ := Lib.hid hQ
    replace hv := Lib.hid hv
    replace hta := Lib.hid hta
    replace hx := Lib.hid hx
    replace e6 := Lib.hid e6
    replace e8 := Lib.hid e8
    replace e3 := Lib.hid e3
    replace e4 := Lib.hid e4
    replace e5 := Lib.hid e5
    go_enter Tryd.func45, Tryd.ntmps45
    go_upto_region 1 with fail
    rw [hw0.out]
    go_upto_region 4 with fail
    refine wp_region_plan (fun w' => w'.cell? ⟨w.heap.size, 1, none⟩ = some (.slice la ln lc) ∧ w'.cell? ta = some (.int .i64 x)) 11 [(0, true), (1, true), (2, true), (3, true), (4, true), (5, true), (6, true), (7, true), (8, true), (9, true), (10, true)] (by kernel_rfl) (by kernel_rfl) ?_
    rw [hW.out]
    refine headY (v := ?_) (some 15) rfl rfl (Or.inl ⟨by rfl, ?_⟩) hS ?_
    rotate_left
    · rintro W' ⟨s0, s1⟩; go_simp; try with_reducible rfl
    simp only [Act.put, List.setIfInBounds_toArray, List.set_cons_zero, List.set_cons_succ]
    refine headY (v := ?_) (some 16) rfl rfl (Or.inl ⟨by rfl, ?_⟩) hS ?_
    rotate_left
    · rintro W' ⟨s0, s1⟩; go_simp; try with_reducible rfl
    simp only [Act.put, List.setIfInBounds_toArray, List.set_cons_zero, List.set_cons_succ]
    refine headY (v := ?_) (some 17) rfl rfl (Or.inl ⟨by rfl, ?_⟩) hS ?_
    rotate_left
    · rintro W' ⟨s0, s1⟩; go_simp; try with_reducible rfl
    simp only [Act.put, List.setIfInBounds_toArray, List.set_cons_zero, List.set_cons_succ]
    refine headY (v := ?_) (some 18) rfl rfl (Or.inl ⟨by rfl, ?_⟩) hS ?_
    rotate_left
    · rintro W' ⟨s0, s1⟩; go_simp; try with_reducible rfl
    simp only [Act.put, List.setIfInBounds_toArray, List.set_cons_zero, List.set_cons_succ]
    refine headY (v := ?_) (some 19) rfl rfl (Or.inl ⟨by rfl, ?_⟩) hS ?_
    rotate_left
    · rintro W' ⟨s0, s1⟩; go_simp; try with_reducible rfl
    simp only [Act.put, List.setIfInBounds_toArray, List.set_cons_zero, List.set_cons_succ]
    refine headY (v := ?_) (some 20) rfl rfl (Or.inl ⟨by rfl, ?_⟩) hS ?_
    rotate_left
    · rintro W' ⟨s0, s1⟩; go_simp; try with_reducible rfl
    simp only [Act.put, List.setIfInBounds_toArray, List.set_cons_zero, List.set_cons_succ]
    refine headY (v := ?_) (some 21) rfl rfl (Or.inl ⟨by rfl, ?_⟩) hS ?_
    rotate_left
    · rintro W' ⟨s0, s1⟩; go_simp; try with_reducible rfl
    simp only [Act.put, List.setIfInBounds_toArray, List.set_cons_zero, List.set_cons_succ]
    refine headY (v := ?_) (some 22) rfl rfl (Or.inl ⟨by rfl, ?_⟩) hS ?_
    rotate_left
    · rintro W' ⟨s0, s1⟩; go_simp; try with_reducible rfl
    simp only [Act.put, List.setIfInBounds_toArray, List.set_cons_zero, List.set_cons_succ]
    refine headY (v := ?_) (some 23) rfl rfl (Or.inl ⟨by rfl, ?_⟩) hS ?_
    rotate_left
    · rintro W' ⟨s0, s1⟩; go_simp; try with_reducible rfl
    simp only [Act.put, List.setIfInBounds_toArray, List.set_cons_zero, List.set_cons_succ]
    refine headY (v := ?_) (some 24) rfl rfl (Or.inl ⟨by rfl, ?_⟩) hS ?_
    rotate_left
    · rintro W' ⟨s0, s1⟩; go_simp; try with_reducible rfl
    simp only [Act.put, List.setIfInBounds_toArray, List.set_cons_zero, List.set_cons_succ]
    refine headY (v := ?_) (some 25) rfl rfl (Or.inl ⟨by rfl, ?_⟩) hS ?_
    rotate_left
    · rintro W' ⟨s0, s1⟩; go_simp; try with_reducible rfl
    simp only [Act.put, List.setIfInBounds_toArray, List.set_cons_zero, List.set_cons_succ]
    refine head0 ?_
    simp only [List.drop_succ_cons, List.drop_zero]
    go_wp2
    refine NoPanic.normal ?_
    go_wp2
    go_ret
    exact ⟨_, rfl, b1, rfl⟩
  · have d1 : decide (d < 0) = false := decide_eq_false h1
    by_cases h2 : d < C.length
    · have d2 : decide (d < (C.length : Int)) = true := decide_eq_true h2
      have hv : cellP p L C Q i = C.getD d.toNat 0 := by
        unfold cellP
        rw [hd, if_neg h1, if_pos h2]
      have iJ := fun w' => hC.idxI d (by omega) h2 w'
      have cJ := hC.cellD d.toNat (by omega)
      rw [hv]
      obtain ⟨ta, hta⟩ : ∃ ta, valAt (.slice ca cn cc) d.toNat = ta := ⟨_, rfl⟩
      obtain ⟨x, hx⟩ : ∃ x, C.getD d.toNat 0 = x := ⟨_, rfl⟩
      rw [hta] at iJ cJ
      rw [hx] at cJ ⊢
      replace hL := Lib.hid hL
      replace hC := Lib.hid hC
      replace hQ := Lib.hid hQ
      replace hv := Lib.hid hv
      replace hta := Lib.hid hta
      replace hx := Lib.hid hx
      go_enter Tryd.func45, Tryd.ntmps45
      go_upto_region 1 with fail
      rw [hw0.out]
      go_wp2
      go_ret
      exact ⟨_, rfl, b0, rfl⟩
    · have d2 : decide (d < (C.length : Int)) = false := decide_eq_false h2
      obtain ⟨e, he⟩ : ∃ e : Nat, d - (C.length : Int) = (e : Int) := ⟨(d - (C.length : Int)).toNat, by omega⟩
      have hwe : IntKind.i64.wrap (d - (C.length : Int)) = (e : Int) := by rw [he]; exact wrapK (by omega) (by omega)
      obtain ⟨g2, g4, g6⟩ := dmN e Q.length (by omega)
      have hn3 : ¬ Q.length = 0 := by omega
      have hn4 : ((Q.length : Int) == 0) = false := by rw [beq_eq_false_iff_ne]; omega
      have hlt := Nat.mod_lt e (show 0 < Q.length by omega)
      have hv : cellP p L C Q i = Q.getD (e % Q.length) 0 := by
        unfold cellP
        rw [hd, if_neg h1, if_neg h2, he, ← Int.natCast_emod, Int.toNat_natCast]
      obtain ⟨r, hr⟩ : ∃ r, e % Q.length = r := ⟨_, rfl⟩
      rw [hr] at g2 g4 g6 hlt hv
      have iJ := fun w' => hQ.idx r hlt w'
      have cJ := hQ.cellD r hlt
      rw [hv]
      obtain ⟨ta, hta⟩ : ∃ ta, valAt (.slice qa qn qc) r = ta := ⟨_, rfl⟩
      obtain ⟨x, hx⟩ : ∃ x, Q.getD r 0 = x := ⟨_, rfl⟩
      rw [hta] at iJ cJ
      rw [hx] at cJ ⊢
      have hS : w0.drew.cell? ⟨w.heap.size, 2, none⟩ = some (.slice ca cn cc) ∧ w0.drew.cell? ⟨w.heap.size, 3, none⟩ = some (.slice qa qn qc) ∧ w0.drew.cell? ta = some (.int .i64 x) := ⟨y2, y3, cJ⟩
      have b1 := b0.drew
      obtain ⟨W, hW⟩ : ∃ W : World, w0.drew = W := ⟨_, rfl⟩
      rw [hW] at hS b1
      replace hW := Lib.hid hW
      replace hL := Lib.hid hL
      replace hC := Lib.hid hC
      replace hQ := Lib.hid hQ
      replace hv := Lib.hid hv
      replace hta := Lib.hid hta
      replace hx := Lib.hid hx
      replace hr := Lib.hid hr
      replace he := Lib.hid he
      go_enter Tryd.func45, Tryd.ntmps45
      go_upto_region 1 with fail
      rw [hw0.out]
      go_upto_region 7 with fail
      refine wp_region_plan (fun w' => w'.cell? ⟨w.heap.size, 2, none⟩ = some (.slice ca cn cc) ∧ w'.cell? ⟨w.heap.size, 3, none⟩ = some (.slice qa qn qc) ∧ w'.cell? ta = some (.int .i64 x)) 13 [(0, true), (1, true), (2, true), (3, true), (4, true), (5, true), (6, true), (7, true), (8, true), (9, true), (10, true), (11, true), (12, true)] (by kernel_rfl) (by kernel_rfl) ?_
      rw [hW.out]
      refine headY (v := ?_) (some 36) rfl rfl (Or.inl ⟨by rfl, ?_⟩) hS ?_
      rotate_left
      · rintro W' ⟨s0, s1, s2⟩; go_simp; try with_reducible rfl
      simp only [Act.put, List.setIfInBounds_toArray, List.set_cons_zero, List.set_cons_succ]
      refine headY (v := ?_) (some 37) rfl rfl (Or.inl ⟨by rfl, ?_⟩) hS ?_
      rotate_left
      · rintro W' ⟨s0, s1, s2⟩; go_simp; try with_reducible rfl
      simp only [Act.put, List.setIfInBounds_toArray, List.set_cons_zero, List.set_cons_succ]
      refine headY (v := ?_) (some 38) rfl rfl (Or.inl ⟨by rfl, ?_⟩) hS ?_
      rotate_left
      · rintro W' ⟨s0, s1, s2⟩; go_simp; try with_reducible rfl
      simp only [Act.put, List.setIfInBounds_toArray, List.set_cons_zero, List.set_cons_succ]
      refine headY (v := ?_) (some 39) rfl rfl (Or.inl ⟨by rfl, ?_⟩) hS ?_
      rotate_left
      · rintro W' ⟨s0, s1, s2⟩; go_simp; try with_reducible rfl
      simp only [Act.put, List.setIfInBounds_toArray, List.set_cons_zero, List.set_cons_succ]
      refine headY (v := ?_) (some 40) rfl rfl (Or.inl ⟨by rfl, ?_⟩) hS ?_
      rotate_left
      · rintro W' ⟨s0, s1, s2⟩; go_simp; try with_reducible rfl
      simp only [Act.put, List.setIfInBounds_toArray, List.set_cons_zero, List.set_cons_succ]
      refine headY (v := ?_) (some 41) rfl rfl (Or.inl ⟨by rfl, ?_⟩) hS ?_
      rotate_left
      · rintro W' ⟨s0, s1, s2⟩; go_simp; try with_reducible rfl
      simp only [Act.put, List.setIfInBounds_toArray, List.set_cons_zero, List.set_cons_succ]
      refine headY (v := ?_) (some 42) rfl rfl (Or.inl ⟨by rfl, ?_⟩) hS ?_
      rotate_left
      · rintro W' ⟨s0, s1, s2⟩; go_simp; try with_reducible rfl
      simp only [Act.put, List.setIfInBounds_toArray, List.set_cons_zero, List.set_cons_succ]
      refine headY (v := ?_) (some 43) rfl rfl (Or.inl ⟨by rfl, ?_⟩) hS ?_
      rotate_left
      · rintro W' ⟨s0, s1, s2⟩; go_simp; try with_reducible rfl
      simp only [Act.put, List.setIfInBounds_toArray, List.set_cons_zero, List.set_cons_succ]
      refine headY (v := ?_) (some 44) rfl rfl (Or.inl ⟨by rfl, ?_⟩) hS ?_
      rotate_left
      · rintro W' ⟨s0, s1, s2⟩; go_simp; try with_reducible rfl
      simp only [Act.put, List.setIfInBounds_toArray, List.set_cons_zero, List.set_cons_succ]
      refine headY (v := ?_) (some 45) rfl rfl (Or.inl ⟨by rfl, ?_⟩) hS ?_
      rotate_left
      · rintro W' ⟨s0, s1, s2⟩; go_simp; try with_reducible rfl
      simp only [Act.put, List.setIfInBounds_toArray, List.set_cons_zero, List.set_cons_succ]
      refine headY (v := ?_) (some 46) rfl rfl (Or.inl ⟨by rfl, ?_⟩) hS ?_
      rotate_left
      · rintro W' ⟨s0, s1, s2⟩; go_simp; try with_reducible rfl
      simp only [Act.put, List.setIfInBounds_toArray, List.set_cons_zero, List.set_cons_succ]
      refine headY (v := ?_) (some 47) rfl rfl (Or.inl ⟨by rfl, ?_⟩) hS ?_
      rotate_left
      · rintro W' ⟨s0, s1, s2⟩; go_simp; try with_reducible rfl
      simp only [Act.put, List.setIfInBounds_toArray, List.set_cons_zero, List.set_cons_succ]
      refine headY (v := ?_) (some 48) rfl rfl (Or.inl ⟨by rfl, ?_⟩) hS ?_
      rotate_left
      · rintro W' ⟨s0, s1, s2⟩; go_simp; try with_reducible rfl
      simp only [Act.put, List.setIfInBounds_toArray, List.set_cons_zero, List.set_cons_succ]
      refine head0 ?_
      simp only [List.drop_succ_cons, List.drop_zero]
      go_wp2
      refine NoPanic.normal ?_
      go_wp2
      go_ret
      exact ⟨_, rfl, b1, rfl⟩

theorem rpiece_set {p : Int} {L C Q : List Int} {f : Int} {n j : Nat} (h : j < n) : (pieceP p L C Q f j ++ List.replicate (n - j) 0).set j (cellP p L C Q (f + j)) = pieceP p L C Q f (j + 1) ++ List.replicate (n - (j + 1)) 0 := by
  rw [show n - j = (n - (j + 1)) + 1 by omega, List.replicate_succ, List.set_append_right _ _ (by rw [pieceP_len]; exact Nat.le_refl _), pieceP_len, Nat.sub_self, List.set_cons_zero, pieceP_succ, List.append_assoc]
  rfl

set_option maxHeartbeats 2000000 in
theorem row_piece (p f : Int) (n : Nat) (la : Option Addr) (ln lc : Nat) (ca : Option Addr) (cn cc : Nat) (qa : Option Addr) (qn qc : Nat) (L C Q : List Int) (w : World) (hL : IntsAt w (.slice la ln lc) L) (hC : IntsAt w (.slice ca cn cc) C) (hQ : IntsAt w (.slice qa qn qc) Q) (l1 : 1 ≤ L.length) (q1 : 1 ≤ Q.length) (lb : L.length ≤ 100000) (cb : C.length ≤ 100000) (qb : Q.length ≤ 100000) (hp : -1000000 ≤ p ∧ p ≤ 1000000) (hf : -1000000 ≤ f ∧ f ≤ 1000000) (hn : n ≤ 100000) :
    Calls Tryd.prog 23 #[.agg #[.int .i64 p, .slice la ln lc, .slice ca cn cc, .slice qa qn qc], .int .i64 f, .int .i64 n] w (Ret1 (fun x w' => OwnI w.heap.size w' x (pieceP p L C Q f n)) w) := by
  have b0 := belowAlloc w (.cells #[.int .i64 p, .slice la ln lc, .slice ca cn cc, .slice qa qn qc] 26)
  have y := Cells4.alloc w 26 (.int .i64 p) (.slice la ln lc) (.slice ca cn cc) (.slice qa qn qc)
  obtain ⟨w0, hw0⟩ : ∃ W : World, w.alloc (.cells #[.int .i64 p, .slice la ln lc, .slice ca cn cc, .slice qa qn qc] 26) = W := ⟨_, rfl⟩
  rw [hw0] at b0 y
  replace hL := hL.below b0
  replace hC := hC.below b0
  replace hQ := hQ.below b0
  have s0 := b0.size
  obtain ⟨ov, w1, mk, ho, b1⟩ := run_makeI (n : Int) n w0 rfl (by omega)
  obtain ⟨oa, oc, rfl⟩ : ∃ oa oc, ov = .slice oa n oc := by
    rcases ho.at.split with ⟨h, e⟩ | ⟨q, cap, h⟩
    · have e2 := congrArg List.length e
      simp at e2
      subst e2
      exact ⟨_, _, h⟩
    · exact ⟨_, _, by rw [h, List.length_replicate]⟩
  have h0 : OwnI w0.heap.size w1 (.slice oa n oc) (pieceP p L C Q f 0 ++ List.replicate (n - 0) 0) := ho
  replace hL := Lib.hid hL
  replace hC := Lib.hid hC
  replace hQ := Lib.hid hQ
  replace hw0 := Lib.hid hw0
  replace ho := Lib.hid ho
  replace h0 := Lib.hid h0
  replace y := Lib.hid y
  go_enter Tryd.func23, Tryd.ntmps23
  go_upto_region 1 with fail
  rw [hw0.out]
  go_wp2_with fail
  clear mk
  go_loopw [13] (fun iv wr => ∃ j : Nat, j ≤ n ∧ iv = .int .i64 j ∧ OwnI w0.heap.size wr (.slice oa n oc) (pieceP p L C Q f j ++ List.replicate (n - j) 0) ∧ Below w0.heap.size w0 wr) (fun iv _ => n - (intOf iv).toNat)
  case atStart => exact ⟨0, Nat.zero_le _, rfl, h0.out, b1⟩
  case round =>
    obtain ⟨j, hj, rfl, hO, hB⟩ := hrel
    obtain ⟨wo, rfl⟩ : ∃ wo : World, wo = wr := ⟨_, rfl⟩
    by_cases hjn : j < n
    · have dj : decide ((j : Int) < (n : Int)) = true := decide_eq_true (by omega)
      obtain ⟨y0, y1, y2, y3⟩ := y.out.below hB
      have call1 := row_cell p (f + (j : Int)) la ln lc ca cn cc qa qn qc L C Q wo (hL.out.below hB) (hC.out.below hB) (hQ.out.below hB) l1 q1 lb cb qb hp (by omega)
      replace call1 := Lib.hid call1
      replace hO := Lib.hid hO
      go_wp2_with fail
      refine call1.out.mono ?_
      rintro e w2 ⟨_, rfl, b2, rfl⟩
      have hB2 := Below.step hB b2
      have hO2 := hO.out.below b2
      have hjl : j < (pieceP p L C Q f j ++ List.replicate (n - j) 0).length := by rw [List.length_append, pieceP_len, List.length_replicate]; omega
      have iJ := fun w' => hO2.at.idx j hjl w'
      have cJ := hO2.at.cell j hjl
      have fJ := hO2.frz j hjl
      have kJ := hO2.blkB j hjl
      have hS := hO2.set j hjl (cellP p L C Q (f + (j : Int)))
      rw [rpiece_set hjn] at hS
      have hBS := hB2.setCell kJ (.int .i64 (cellP p L C Q (f + (j : Int))))
      obtain ⟨ta, hta⟩ : ∃ ta, valAt (.slice oa n oc) j = ta := ⟨_, rfl⟩
      obtain ⟨x, hx⟩ : ∃ x, cellP p L C Q (f + (j : Int)) = x := ⟨_, rfl⟩
      rw [hta] at iJ cJ fJ hS hBS
      rw [hx] at hS hBS ⊢
      replace hS := Lib.hid hS
      replace hO2 := Lib.hid hO2
      replace hta := Lib.hid hta
      replace hx := Lib.hid hx
      clear y0 y1 y2 y3 kJ
      go_wp2
      go_roundw
      case measure => simp [intOf]; omega
      case rel => exact ⟨j + 1, by omega, by go_num, hS.out, hBS⟩
    · have dj : decide ((j : Int) < (n : Int)) = false := decide_eq_false (by omega)
      obtain rfl : j = n := by omega
      have hE : OwnI w.heap.size wo (.slice oa j oc) (pieceP p L C Q f j) := by
        have := hO.mono s0
        rwa [Nat.sub_self, List.replicate_zero, List.append_nil] at this
      replace hO := Lib.hid hO
      replace hE := Lib.hid hE
      have bE := Below.step b0 hB
      go_wp2
      go_ret
      exact ⟨_, rfl, bE, hE.out⟩

end Go.Proofs.YtilpckngghffoaaDoor

namespace Go.Proofs.YtilpckngghffoaaDoor

/-- w is a way from x to y. -/
inductive Way (adj : Nat → List Nat) : Nat → Nat → List Nat → Prop
  | one (x : Nat) : Way adj x x [x]
  | cons {x t y : Nat} {w : List Nat} (ht : t ∈ adj x) (h : Way adj t y w) : Way adj x y (x :: w)
theorem Way.snoc {adj : Nat → List Nat} {x y z : Nat} {w : List Nat} (h : Way adj x y w) (hz : z ∈ adj y) : Way adj x z (w ++ [z]) := by
  induction h with
  | one => exact .cons hz (.one _)
  | cons ht _ ih => exact .cons ht (ih hz)
theorem Goes.way {adj : Nat → List Nat} {x y : Nat} (h : Goes adj x y) : ∃ w, Way adj x y w := by
  induction h with
  | refl => exact ⟨_, .one _⟩
  | step _ hz ih => obtain ⟨w, hw⟩ := ih; exact ⟨_, hw.snoc hz⟩
theorem Way.ne {adj : Nat → List Nat} {x y : Nat} {w : List Nat} (h : Way adj x y w) : ∃ w', w = x :: w' := by
  cases h with
  | one => exact ⟨_, rfl⟩
  | cons => exact ⟨_, rfl⟩
theorem Way.pos {adj : Nat → List Nat} {x y : Nat} {w : List Nat} (h : Way adj x y w) : 0 < w.length := by
  obtain ⟨w', rfl⟩ := h.ne; simp

/-- The order of words. -/
def lexLe : List Nat → List Nat → Prop
  | [], _ => True
  | _ :: _, [] => False
  | a :: l, b :: m => a < b ∨ (a = b ∧ lexLe l m)
theorem lexLe_refl : ∀ l, lexLe l l
  | [] => trivial
  | _ :: l => .inr ⟨rfl, lexLe_refl l⟩
/-- w is the first of the shortest ways from x to y. -/
structure IsFirst (adj : Nat → List Nat) (x y : Nat) (w : List Nat) : Prop where
  way : Way adj x y w
  short : ∀ u, Way adj x y u → w.length ≤ u.length
  least : ∀ u, Way adj x y u → u.length = w.length → lexLe w u
theorem IsFirst.tail {adj : Nat → List Nat} {x y t : Nat} {w : List Nat} (h : IsFirst adj x y (x :: t :: w)) : IsFirst adj t y (t :: w) := by
  obtain ⟨ht, hw⟩ : t ∈ adj x ∧ Way adj t y (t :: w) := by
    have h1 := h.way
    cases h1 with
    | cons ht h2 => obtain ⟨w', e⟩ := h2.ne; injection e with e1 e2; subst e1; exact ⟨ht, h2⟩
  refine ⟨hw, fun u hu => ?_, fun u hu hl => ?_⟩
  · have := h.short _ (.cons ht hu); simp only [List.length_cons] at this ⊢; omega
  · have := h.least _ (.cons ht hu) (by simp only [List.length_cons] at hl ⊢; omega)
    exact (this.resolve_left (Nat.lt_irrefl _)).2
/-- The ends that stand in a way are the same, and each piece behind is a way. -/
theorem Way.mem {adj : Nat → List Nat} {x y : Nat} {w : List Nat} (h : Way adj x y w) : ∀ z ∈ w, ∃ u, Way adj z y u ∧ u.length ≤ w.length := by
  induction h with
  | one => intro z hz; cases List.mem_singleton.1 hz; exact ⟨_, .one _, Nat.le_refl _⟩
  | cons ht h ih =>
    intro z hz
    rcases List.mem_cons.1 hz with rfl | hz
    · exact ⟨_, .cons ht h, Nat.le_refl _⟩
    · obtain ⟨u, h1, h2⟩ := ih z hz; exact ⟨u, h1, by simp only [List.length_cons]; omega⟩
/-- No vertex twice. -/
theorem IsFirst.nodup {adj : Nat → List Nat} {x y : Nat} {w : List Nat} (h : IsFirst adj x y w) : w.Nodup := by
  induction w generalizing x with
  | nil => exact List.nodup_nil
  | cons a w ih =>
    obtain ⟨w', e⟩ := h.way.ne
    injection e with e1 e2
    subst e1; subst e2
    cases w with
    | nil => simp
    | cons t w =>
      refine List.nodup_cons.2 ⟨fun hm => ?_, ih h.tail⟩
      obtain ⟨u, h1, h2⟩ := h.tail.way.mem _ hm
      have := h.short u h1
      simp only [List.length_cons] at this h2; omega
/-- The queue, where everything came from, and with which place's help (par), how far (dist). -/
structure BBase (adj : Nat → List Nat) (a : Nat) (came : Nat → Int) (q : List Nat) (par dist : Nat → Nat) (b i : Nat) : Prop where
  hd : q[0]? = some a
  nodup : q.Nodup
  cameIff : ∀ x, 0 ≤ came x ↔ x ∈ q
  low : ∀ x, -1 ≤ came x
  root : came a = a
  dist0 : dist a = 0
  parLt : ∀ (j x : Nat), 0 < j → q[j]? = some x → par j < b ∧ par j < j ∧ ∃ p, q[par j]? = some p ∧ came x = (p : Int) ∧ x ∈ adj p ∧ dist x = dist p + 1
  mono : ∀ (j k x y : Nat), 0 < j → j < k → q[j]? = some x → q[k]? = some y → par j ≤ par k ∧ (par j = par k → x < y)
  distMono : ∀ (j k x y : Nat), j ≤ k → q[j]? = some x → q[k]? = some y → dist x ≤ dist y
  closed : ∀ p x, p < i → q[p]? = some x → ∀ t ∈ adj x, ∃ j, q[j]? = some t ∧ (0 < j → par j ≤ p)
/-- Between two rounds. -/
abbrev BOut (adj : Nat → List Nat) (a : Nat) (came : Nat → Int) (q : List Nat) (par dist : Nat → Nat) (i : Nat) : Prop := BBase adj a came q par dist i i
/-- Within a round: l is what is left of v's arrows, from the least on. -/
structure BIn (adj : Nat → List Nat) (a : Nat) (came : Nat → Int) (q : List Nat) (par dist : Nat → Nat) (i v : Nat) (l : List Nat) : Prop where
  base : BBase adj a came q par dist (i + 1) i
  cur : q[i]? = some v
  sub : ∀ t ∈ l, t ∈ adj v
  sorted : l.Pairwise (· ≤ ·)
  seen : ∀ t ∈ adj v, t ∈ l ∨ ∃ j, q[j]? = some t ∧ (0 < j → par j ≤ i)
  new : ∀ j x, 0 < j → q[j]? = some x → par j = i → ∀ t ∈ l, x ≤ t

variable {adj : Nat → List Nat} {a : Nat} {came : Nat → Int} {q : List Nat} {par dist : Nat → Nat} {b i v : Nat} {l : List Nat}

theorem get_of {q : List Nat} {j x : Nat} (h : q[j]? = some x) : j < q.length := by
  by_cases e : j < q.length
  · exact e
  · rw [List.getElem?_eq_none (by omega)] at h; cases h
theorem get_inj {q : List Nat} (hn : q.Nodup) {j k x : Nat} (h : q[j]? = some x) (h2 : q[k]? = some x) : j = k := by
  have h1 := get_of h
  exact (List.getElem?_inj h1 hn).1 (h.trans h2.symm)

theorem BBase.enter (h : BOut adj a came q par dist i) (hv : q[i]? = some v) (hl : ∀ t, t ∈ l ↔ t ∈ adj v) (hs : l.Pairwise (· ≤ ·)) : BIn adj a came q par dist i v l := by
  refine ⟨⟨h.hd, h.nodup, h.cameIff, h.low, h.root, h.dist0, fun j x hj hx => ?_, h.mono, h.distMono, h.closed⟩, hv, fun t ht => (hl t).1 ht, hs, fun t ht => .inl ((hl t).2 ht), fun j x hj hx hp => ?_⟩
  · obtain ⟨h1, h2, h3⟩ := h.parLt j x hj hx
    exact ⟨by omega, h2, h3⟩
  · have := (h.parLt j x hj hx).1; omega
theorem BIn.leave (h : BIn adj a came q par dist i v []) : BOut adj a came q par dist (i + 1) := by
  refine ⟨h.base.hd, h.base.nodup, h.base.cameIff, h.base.low, h.base.root, h.base.dist0, h.base.parLt, h.base.mono, h.base.distMono, fun p x hp hx t ht => ?_⟩
  by_cases e : p = i
  · subst e
    rw [h.cur] at hx; cases hx
    exact (h.seen t ht).resolve_left (by simp)
  · exact h.base.closed p x (by omega) hx t ht
/-- An arrow to a vertex that is there. -/
theorem BIn.old {t : Nat} (h : BIn adj a came q par dist i v (t :: l)) (ht : 0 ≤ came t) : BIn adj a came q par dist i v l := by
  refine ⟨h.base, h.cur, fun x hx => h.sub x (List.mem_cons_of_mem _ hx), (List.pairwise_cons.1 h.sorted).2, fun x hx => ?_, fun j x hj hx hp y hy => h.new j x hj hx hp y (List.mem_cons_of_mem _ hy)⟩
  rcases h.seen x hx with q1 | q1
  · rcases List.mem_cons.1 q1 with e | e
    · subst e
      obtain ⟨j, hj⟩ := List.mem_iff_getElem?.1 ((h.base.cameIff x).1 ht)
      refine .inr ⟨j, hj, fun hj0 => ?_⟩
      have := (h.base.parLt j x hj0 hj).1; omega
    · exact .inl e
  · exact .inr q1
/-- An arrow to a new one. -/
theorem BIn.add {t : Nat} (h : BIn adj a came q par dist i v (t :: l)) (ht : came t < 0) :
    BIn adj a (updN came t (v : Int)) (q ++ [t]) (updN par q.length i) (updN dist t (dist v + 1)) i v l := by
  have hB := h.base
  have htq : t ∉ q := fun hm => by have := (hB.cameIff t).2 hm; omega
  have hil := get_of h.cur
  have hga : ∀ j x, (q ++ [t])[j]? = some x → q[j]? = some x ∧ j < q.length ∧ x ≠ t ∨ j = q.length ∧ x = t := fun j x hx => by
    by_cases e : j < q.length
    · rw [List.getElem?_append_left e] at hx
      exact .inl ⟨hx, e, fun e2 => htq (by rw [← e2]; exact List.mem_of_getElem? hx)⟩
    · rw [List.getElem?_append_right (by omega)] at hx
      by_cases e2 : j = q.length
      · rw [e2] at hx; simp at hx; exact .inr ⟨e2, hx.symm⟩
      · rw [List.getElem?_eq_none (by simp; omega)] at hx; cases hx
  have hgo : ∀ {j x}, q[j]? = some x → (q ++ [t])[j]? = some x := fun {j x} hx => by rw [List.getElem?_append_left (get_of hx)]; exact hx
  have hne : ∀ x, x ∈ q → x ≠ t := fun x hx e => htq (by rw [← e]; exact hx)
  have hvt : v ≠ t := hne v (List.mem_of_getElem? h.cur)
  have po : ∀ j, j < q.length → updN par q.length i j = par j := fun j hj => updN_other _ _ _ (by omega)
  have dq : ∀ x, x ∈ q → updN dist t (dist v + 1) x = dist x := fun x hx => updN_other _ _ _ (hne x hx)
  have haq : a ∈ q := List.mem_of_getElem? hB.hd
  have hdle : ∀ x, x ∈ q → dist x ≤ dist v + 1 := fun x hx => by
    obtain ⟨j, hj⟩ := List.mem_iff_getElem?.1 hx
    by_cases e : 0 < j
    · obtain ⟨h1, h2, p, h3, h4, h5, h6⟩ := hB.parLt j x e hj
      have := hB.distMono (par j) i p v (by omega) h3 h.cur
      omega
    · have : j = 0 := by omega
      subst this; rw [hB.hd] at hj; cases hj; have := hB.dist0; omega
  refine ⟨⟨hgo hB.hd, ?_, fun x => ?_, fun x => ?_, ?_, ?_, fun j x hj hx => ?_, fun j k x y hj hjk hx hy => ?_, fun j k x y hjk hx hy => ?_, fun p x hp hx t' ht' => ?_⟩, hgo h.cur, fun x hx => h.sub x (List.mem_cons_of_mem _ hx), (List.pairwise_cons.1 h.sorted).2, fun x hx => ?_, fun j x hj hx hp y hy => ?_⟩
  · exact List.nodup_append.2 ⟨hB.nodup, by simp, fun x hx y hy => by cases List.mem_singleton.1 hy; exact hne x hx⟩
  · by_cases e : x = t
    · subst e; rw [updN_same]; simp
    · rw [updN_other _ _ _ e, hB.cameIff]; simp [e]
  · by_cases e : x = t
    · subst e; rw [updN_same]; omega
    · rw [updN_other _ _ _ e]; exact hB.low x
  · rw [updN_other _ _ _ (hne a haq)]; exact hB.root
  · rw [dq a haq]; exact hB.dist0
  · rcases hga j x hx with ⟨h1, h2, h3⟩ | ⟨rfl, rfl⟩
    · obtain ⟨p1, p2, p, p3, p4, p5, p6⟩ := hB.parLt j x hj h1
      rw [po j h2, updN_other _ _ _ h3, dq x (List.mem_of_getElem? h1)]
      exact ⟨p1, p2, p, hgo p3, p4, p5, by rw [dq p (List.mem_of_getElem? p3)]; exact p6⟩
    · rw [updN_same, updN_same, updN_same]
      exact ⟨by omega, hil, v, hgo h.cur, rfl, h.sub _ List.mem_cons_self, by rw [dq v (List.mem_of_getElem? h.cur)]⟩
  · rcases hga j x hx with ⟨h1, h2, h3⟩ | ⟨rfl, rfl⟩
    · rcases hga k y hy with ⟨k1, k2, k3⟩ | ⟨rfl, rfl⟩
      · rw [po j h2, po k k2]; exact hB.mono j k x y hj hjk h1 k1
      · rw [po j h2, updN_same]
        have := (hB.parLt j x hj h1).1
        exact ⟨by omega, fun e => by have := h.new j x hj h1 e y List.mem_cons_self; omega⟩
    · rcases hga k y hy with ⟨k1, k2, k3⟩ | ⟨rfl, rfl⟩ <;> omega
  · rcases hga k y hy with ⟨k1, k2, k3⟩ | ⟨rfl, rfl⟩
    · rcases hga j x hx with ⟨h1, h2, h3⟩ | ⟨rfl, rfl⟩
      · rw [dq x (List.mem_of_getElem? h1), dq y (List.mem_of_getElem? k1)]; exact hB.distMono j k x y hjk h1 k1
      · omega
    · rcases hga j x hx with ⟨h1, h2, h3⟩ | ⟨h1, rfl⟩
      · rw [dq x (List.mem_of_getElem? h1), updN_same]; exact hdle x (List.mem_of_getElem? h1)
      · exact Nat.le_refl _
  · rcases hga p x hx with ⟨h1, h2, h3⟩ | ⟨h1, rfl⟩
    · obtain ⟨j, j1, j2⟩ := hB.closed p x hp h1 t' ht'
      exact ⟨j, hgo j1, fun hj => by rw [po j (get_of j1)]; exact j2 hj⟩
    · omega
  · by_cases e : x = t
    · subst e; exact .inr ⟨q.length, by simp, fun _ => by rw [updN_same]; exact Nat.le_refl _⟩
    · rcases h.seen x hx with q1 | ⟨j, j1, j2⟩
      · exact .inl ((List.mem_cons.1 q1).resolve_left e)
      · exact .inr ⟨j, hgo j1, fun hj => by rw [po j (get_of j1)]; exact j2 hj⟩
  · rcases hga j x hx with ⟨h1, h2, h3⟩ | ⟨rfl, rfl⟩
    · rw [po j h2] at hp; exact h.new j x hj h1 hp y (List.mem_cons_of_mem _ hy)
    · exact (List.pairwise_cons.1 h.sorted).1 y hy
theorem BBase.init (adj : Nat → List Nat) (a : Nat) : BOut adj a (updN (fun _ => (-1 : Int)) a (a : Int)) [a] (fun _ => 0) (fun _ => 0) 0 := by
  have hg : ∀ j x, [a][j]? = some x → j = 0 ∧ x = a := fun j x hx => by
    cases j with
    | zero => simp at hx; exact ⟨rfl, hx.symm⟩
    | succ j => simp at hx
  refine ⟨rfl, by simp, fun x => ?_, fun x => ?_, updN_same _ _ _, rfl, fun j x hj hx => ?_, fun j k x y hj hjk hx hy => ?_, fun j k x y hjk hx hy => Nat.le_refl _, fun p x hp => by omega⟩
  · by_cases e : x = a
    · subst e; rw [updN_same]; simp
    · rw [updN_other _ _ _ e]; simp [e]
  · by_cases e : x = a
    · subst e; rw [updN_same]; omega
    · rw [updN_other _ _ _ e]; omega
  · have := (hg j x hx).1; omega
  · have := (hg j x hx).1; have := (hg k y hy).1; omega

/-- A way along which each vertex came from the one ahead of it. -/
inductive Tree (came : Nat → Int) (q : List Nat) (adj : Nat → List Nat) : Nat → Nat → List Nat → Prop
  | one (x : Nat) (hx : x ∈ q) : Tree came q adj x x [x]
  | cons {x t y : Nat} {w : List Nat} (jx jt : Nat) (hx : q[jx]? = some x) (ht : q[jt]? = some t) (h0 : 0 < jt) (hp : came t = (x : Int)) (h : Tree came q adj t y w) : Tree came q adj x y (x :: w)

theorem BBase.parent (h : BOut adj a came q par dist i) {jx jt x t : Nat} (hx : q[jx]? = some x) (ht : q[jt]? = some t) (h0 : 0 < jt) (hp : came t = (x : Int)) : par jt = jx ∧ jx < i ∧ jx < jt ∧ t ∈ adj x ∧ dist t = dist x + 1 := by
  obtain ⟨h1, h2, p, h3, h4, h5, h6⟩ := h.parLt jt t h0 ht
  have e : p = x := by rw [hp] at h4; omega
  subst e
  have := get_inj h.nodup h3 hx
  exact ⟨this, by omega, by omega, h5, h6⟩
theorem Tree.way (h : BOut adj a came q par dist i) {x y : Nat} {w : List Nat} (ht : Tree came q adj x y w) : Way adj x y w := by
  induction ht with
  | one => exact .one _
  | cons jx jt hx ht h0 hp _ ih => exact .cons (h.parent hx ht h0 hp).2.2.2.1 ih
theorem Tree.distEq (h : BOut adj a came q par dist i) {x y : Nat} {w : List Nat} (ht : Tree came q adj x y w) : dist y + 1 = dist x + w.length := by
  induction ht with
  | one => rfl
  | cons jx jt hx ht h0 hp _ ih => have := (h.parent hx ht h0 hp).2.2.2.2; simp only [List.length_cons]; omega
theorem Tree.last {x y : Nat} {w : List Nat} (ht : Tree came q adj x y w) : y ∈ q := by
  induction ht with
  | one _ hx => exact hx
  | cons _ _ _ _ _ _ _ ih => exact ih
theorem Tree.le (h : BOut adj a came q par dist i) {x y : Nat} {w : List Nat} (ht : Tree came q adj x y w) : ∀ {j k : Nat}, q[j]? = some x → q[k]? = some y → j ≤ k := by
  induction ht with
  | one => intro j k hj hk; exact Nat.le_of_eq (get_inj h.nodup hj hk)
  | cons jx jt hx ht h0 hp _ ih =>
    intro j k hj hk
    have h1 := (h.parent hx ht h0 hp).2.2.1
    have h2 := ih ht hk
    have := get_inj h.nodup hj hx
    omega
/-- No way to a vertex of the queue is shorter than how far it is. -/
theorem BBase.far (h : BOut adj a came q par dist i) {x y : Nat} {u : List Nat} (hu : Way adj x y u) (hx : x ∈ q) (hy : y ∈ q) : dist y + 1 ≤ dist x + u.length := by
  induction hu with
  | one => simp
  | @cons x t y w ht hu ih =>
    obtain ⟨jx, hjx⟩ := List.mem_iff_getElem?.1 hx
    have hl := hu.pos
    simp only [List.length_cons]
    by_cases hi : jx < i
    · obtain ⟨jt, h1, h2⟩ := h.closed jx x hi hjx t ht
      have := ih (List.mem_of_getElem? h1) hy
      have hd : dist t ≤ dist x + 1 := by
        by_cases h0 : 0 < jt
        · obtain ⟨_, _, p, p1, _, _, p2⟩ := h.parLt jt t h0 h1
          have := h.distMono _ _ _ _ (h2 h0) p1 hjx
          omega
        · have : jt = 0 := by omega
          subst this; rw [h.hd] at h1; cases h1; have := h.dist0; omega
      omega
    · obtain ⟨jy, hjy⟩ := List.mem_iff_getElem?.1 hy
      by_cases h0 : 0 < jy
      · obtain ⟨p0, _, p, p1, _, _, p2⟩ := h.parLt jy y h0 hjy
        have := h.distMono _ _ _ _ (show par jy ≤ jx by omega) p1 hjx
        omega
      · have : jy = 0 := by omega
        subst this; rw [h.hd] at hjy; cases hjy; have := h.dist0; omega
/-- From an earlier place a way is longer. -/
theorem BBase.longer (h : BOut adj a came q par dist i) {x y b : Nat} {u w : List Nat} (hu : Way adj x b u) (ht : Tree came q adj y b w) {jx jy : Nat} (hjx : q[jx]? = some x) (hjy : q[jy]? = some y) (hlt : jx < jy) : w.length < u.length := by
  induction hu generalizing y w jx jy with
  | one => have := ht.le h hjy hjx; omega
  | @cons x x' b u' hx' hu ih =>
    cases ht with
    | one => have := hu.pos; simp only [List.length_cons, List.length_nil]; omega
    | cons jy2 jt hy2 hjt h0 hp ht =>
      obtain ⟨e1, e2, e3, _, _⟩ := h.parent hy2 hjt h0 hp
      have e4 := get_inj h.nodup hjy hy2
      obtain ⟨jx', k1, k2⟩ := h.closed jx x (by omega) hjx x' hx'
      have : jx' < jt := by
        by_cases q1 : jx' < jt
        · exact q1
        · exfalso
          by_cases q2 : jx' = jt
          · rw [q2] at k2; have := k2 h0; omega
          · have := (h.mono jt jx' _ _ h0 (by omega) hjt k1).1
            have := k2 (by omega); omega
      have := ih ht k1 hjt this
      simp only [List.length_cons]; omega
/-- Of all ways of its length the tree's is the first. -/
theorem BBase.lex (h : BOut adj a came q par dist i) {x b : Nat} {u w : List Nat} (hu : Way adj x b u) (ht : Tree came q adj x b w) (hl : u.length = w.length) : lexLe w u := by
  induction hu generalizing w with
  | one =>
    cases ht with
    | one => exact lexLe_refl _
    | cons _ _ _ _ _ _ ht => cases ht <;> simp at hl
  | @cons x x' b u' hx' hu ih =>
    cases ht with
    | one => have := hu.pos; simp only [List.length_cons, List.length_nil] at hl; omega
    | @cons _ t _ w' jx jt hjx hjt h0 hp ht =>
      obtain ⟨e1, e2, e3, _, _⟩ := h.parent hjx hjt h0 hp
      have hl' : u'.length = w'.length := by simpa using hl
      by_cases e : x' = t
      · subst e; exact .inr ⟨rfl, ih ht hl'⟩
      · refine .inr ⟨rfl, ?_⟩
        obtain ⟨jx', k1, k2⟩ := h.closed jx x e2 hjx x' hx'
        have hne : jx' ≠ jt := fun q1 => by subst q1; rw [k1] at hjt; injection hjt with q2; exact e q2
        have hge : jt < jx' := by
          by_cases q1 : jx' < jt
          · have := h.longer hu ht k1 hjt q1; omega
          · omega
        have hm := h.mono jt jx' t x' h0 hge hjt k1
        have := k2 (by omega)
        have hlt := hm.2 (by omega)
        obtain ⟨_, rfl⟩ := hu.ne
        obtain ⟨_, rfl⟩ := (ht.way h).ne
        exact .inl hlt
theorem BBase.first (h : BOut adj a came q par dist i) {b : Nat} {w : List Nat} (ht : Tree came q adj a b w) : IsFirst adj a b w :=
  ⟨ht.way h, fun u hu => by
    have h1 := h.far hu (List.mem_of_getElem? h.hd) ht.last
    have h2 := ht.distEq h
    omega, fun u hu hl => h.lex hu ht hl⟩
/-- What isn't in the queue at the end can't be reached. -/
theorem BBase.none (h : BOut adj a came q par dist i) (hi : q.length ≤ i) {b : Nat} (hb : came b < 0) : ¬ Goes adj a b := fun hg => by
  have := Goes.closed (P := fun x => x ∈ q) (fun x hx t ht => by
    obtain ⟨j, hj⟩ := List.mem_iff_getElem?.1 hx
    obtain ⟨k, hk, _⟩ := h.closed j x (by have := get_of hj; omega) hj t ht
    exact List.mem_of_getElem? hk) hg (List.mem_of_getElem? h.hd)
  have := (h.cameIff b).2 this
  omega
end Go.Proofs.YtilpckngghffoaaDoor

namespace Go.Proofs.YtilpckngghffoaaDoor
open Go.RowKit

/-- v is a slice of slices that reads the lists G. -/
def ListsAt (w : World) (v : Value) (G : List (List Int)) : Prop :=
  ∃ vs : List Value, ValsAt w v vs ∧ vs.length = G.length ∧ ∀ i, i < G.length → IntsAt w (vAt vs i) (G.getD i [])
theorem ListsAt.below {w w' : World} {v : Value} {G : List (List Int)} (h : ListsAt w v G) (hb : Below w.heap.size w w') : ListsAt w' v G := by
  obtain ⟨vs, h1, h2, h3⟩ := h
  exact ⟨vs, h1.below hb, h2, fun i hi => (h3 i hi).below hb⟩
theorem ListsAt.drewN {w : World} {v : Value} {G : List (List Int)} (h : ListsAt w v G) (n : Nat) : ListsAt (w.drewN n) v G := h
theorem ListsAt.len {w : World} {v : Value} {G : List (List Int)} (h : ListsAt w v G) (ty : TypeId) (w' : World) :
    (Builtin.len_ #[40] ty #[v]).run Tryd.prog w' = .ok (.int .i64 G.length) w' := by
  obtain ⟨vs, h1, h2, h3⟩ := h
  rw [h1.len oneLists, h2]
theorem ListsAt.shape {w : World} {v : Value} {G : List (List Int)} (h : ListsAt w v G) : ∃ a c, v = .slice a G.length c := by
  obtain ⟨vs, ⟨a, c, e, _⟩, h2, _⟩ := h
  exact ⟨a, c, by rw [e, h2]⟩
theorem ListsAt.row {w : World} {v : Value} {G : List (List Int)} (h : ListsAt w v G) (x : Nat) (hx : x < G.length) :
    ∃ mv, (∀ w', (Instr.indexAt 40 v (.int .i64 x)).run Tryd.prog w' = .ok (.pointer (some (valAt v x))) w') ∧ w.cell? (valAt v x) = some mv ∧ IntsAt w mv (G.getD x []) := by
  obtain ⟨vs, h1, h2, h3⟩ := h
  exact ⟨vAt vs x, fun w' => h1.idx oneLists x (by omega) w', h1.cellV x (by omega), h3 x hx⟩
/-- Where an arrow leads. -/
def adjOf (G : List (List Int)) (v : Nat) : List Nat := (G.getD v []).map Int.toNat
/-- All arrows lead to vertices. -/
def GraphOk (G : List (List Int)) : Prop := ∀ v, v < G.length → ∀ t ∈ G.getD v [], 0 ≤ t ∧ t < G.length
theorem GraphOk.lt {G : List (List Int)} (h : GraphOk G) : ∀ v, v < G.length → ∀ t ∈ adjOf G v, t < G.length := by
  intro v hv t ht
  obtain ⟨i, hi, rfl⟩ := List.mem_map.1 ht
  have := h v hv i hi
  omega
theorem GraphOk.get {G : List (List Int)} (h : GraphOk G) {v : Nat} (hv : v < G.length) {i : Nat} (hi : i < (G.getD v []).length) : (G.getD v []).getD i 0 = ((adjOf G v).getD i 0 : Int) := by
  have hm : (G.getD v [])[i] ∈ G.getD v [] := List.getElem_mem hi
  have := h v hv _ hm
  simp only [adjOf, List.getD_eq_getElem?_getD (l := List.map _ _), List.getElem?_map, List.getElem?_eq_getElem hi, Option.map_some, Option.getD_some]
  rw [List.getD_eq_getElem?_getD, List.getElem?_eq_getElem hi, Option.getD_some]
  omega
end Go.Proofs.YtilpckngghffoaaDoor

namespace Go.Proofs.YtilpckngghffoaaDoor
open Go.RowKit
set_option maxRecDepth 100000

theorem row_wrong (r : Nat → Addr) (at_ n : Int) (w : World) (hg : Glob r w) (h1 : 1 ≤ n) (h2 : n ≤ 11) :
    Calls Tryd.prog 22 #[.int .i64 at_, .int .i64 n] w (Ret1 (fun v w' => ErrIs r w' (fresh sRow at_ n) v) w) := by
  go_enter Tryd.func22, Tryd.ntmps22
  go_wp2_with fail
  refine (new_any r sRow at_ n w hg h1 h2).mono ?_
  rintro e w1 ⟨v, rfl, b1, hv⟩
  go_wp2
  go_ret
  exact ⟨_, rfl, b1, hv⟩

/-- Where a part begins. -/
def offR (L C Q : List Int) : Nat → Nat
  | 0 => 0
  | 1 => L.length
  | 2 => L.length + C.length
  | _ => L.length + C.length + Q.length
theorem offR_le (L C Q : List Int) (i : Nat) : offR L C Q i ≤ L.length + C.length + Q.length := by
  unfold offR; split <;> omega
theorem parts3 (L C Q : List Int) (i : Nat) (hi : i < 3) : offR L C Q (i + 1) = offR L C Q i + ([L, C, Q].getD i []).length ∧ (∀ j, j < ([L, C, Q].getD i []).length → (L ++ C ++ Q).getD (offR L C Q i + j) 0 = ([L, C, Q].getD i []).getD j 0) := by
  have : i = 0 ∨ i = 1 ∨ i = 2 := by omega
  rcases this with rfl | rfl | rfl
  · refine ⟨by show L.length = 0 + L.length; omega, fun j hj => ?_⟩
    have hj : j < L.length := hj
    show (L ++ C ++ Q).getD (0 + j) 0 = L.getD j 0
    rw [Nat.zero_add, List.append_assoc, List.getD_eq_getElem?_getD, List.getElem?_append_left hj, ← List.getD_eq_getElem?_getD]
  · refine ⟨rfl, fun j hj => ?_⟩
    have hj : j < C.length := hj
    show (L ++ C ++ Q).getD (L.length + j) 0 = C.getD j 0
    rw [List.append_assoc, List.getD_eq_getElem?_getD, List.getElem?_append_right (by omega), Nat.add_sub_cancel_left, List.getElem?_append_left hj, ← List.getD_eq_getElem?_getD]
  · refine ⟨rfl, fun j hj => ?_⟩
    have hj : j < Q.length := hj
    show (L ++ C ++ Q).getD (L.length + C.length + j) 0 = Q.getD j 0
    rw [List.getD_eq_getElem?_getD, List.getElem?_append_right (by rw [List.length_append]; omega), List.length_append, Nat.add_sub_cancel_left, ← List.getD_eq_getElem?_getD]
theorem idx_first {k : Int} {Z : List Int} {m : Nat} (hm : m < Z.length) (hp : odd1 k (Z.getD m 0) = true) (hb : ∀ t, t < m → odd1 k (Z.getD t 0) = false) : idxOf (odd1 k) Z = m := by
  have gd : ∀ {j : Nat} (h : j < Z.length), Z.getD j 0 = Z[j] := fun h => by simp [List.getD, h]
  rw [gd hm] at hp
  exact idxOf_at m hm hp fun j hj hjm => by have := hb j hjm; rwa [gd hj] at this
theorem idx_none {k : Int} {Z : List Int} (hb : ∀ t, t < Z.length → odd1 k (Z.getD t 0) = false) : idxOf (odd1 k) Z = -1 := by
  refine idxOf_neg fun x hx => ?_
  obtain ⟨t, ht, rfl⟩ := List.mem_iff_getElem.1 hx
  have := hb t ht
  rwa [show Z.getD t 0 = Z[t] by simp [List.getD, ht]] at this

set_option maxHeartbeats 8000000 in
theorem row_check (r : Nat → Addr) (k p : Int) (la : Option Addr) (ln lc : Nat) (ca : Option Addr) (cn cc : Nat) (qa : Option Addr) (qn qc : Nat) (L C Q : List Int) (w : World) (hg : Glob r w) (hL : IntsAt w (.slice la ln lc) L) (hC : IntsAt w (.slice ca cn cc) C) (hQ : IntsAt w (.slice qa qn qc) Q) :
    Calls Tryd.prog 7 #[.int .i64 k, .agg #[.int .i64 p, .slice la ln lc, .slice ca cn cc, .slice qa qn qc]] w (Ret1 (fun x w' => ErrIs r w' (rowP k p L C Q) x) w) := by
  have b0 := belowAlloc w (.cells #[.int .i64 p, .slice la ln lc, .slice ca cn cc, .slice qa qn qc] 26)
  obtain ⟨y0, y1, y2, y3⟩ := Cells4.alloc w 26 (.int .i64 p) (.slice la ln lc) (.slice ca cn cc) (.slice qa qn qc)
  obtain ⟨w0, hw0⟩ : ∃ W : World, w.alloc (.cells #[.int .i64 p, .slice la ln lc, .slice ca cn cc, .slice qa qn qc] 26) = W := ⟨_, rfl⟩
  rw [hw0] at b0 y0 y1 y2 y3
  replace hg := Lib.hid (hg.below b0)
  replace hL := hL.below b0
  replace hC := hC.below b0
  replace hQ := hQ.below b0
  have nL := hL.len
  have nC := hC.len
  have nQ := hQ.len
  replace hL := Lib.hid hL
  replace hC := Lib.hid hC
  replace hQ := Lib.hid hQ
  replace hw0 := Lib.hid hw0
  by_cases e0 : k < 1
  · have d0 : decide (k < 1) = true := decide_eq_true (by omega)
    rw [show rowP k p L C Q = fresh sRow 0 3 from by unfold rowP; rw [if_pos (by omega)]]
    go_enter Tryd.func7, Tryd.ntmps7
    go_upto_region 1 with fail
    rw [hw0.out]
    go_wp2_with fail
    refine (row_wrong r 0 3 w0 hg.out (by decide) (by decide)).mono ?_
    rintro e w1 ⟨x, rfl, b1, hx⟩
    have bE := Below.step b0 b1
    go_wp2
    go_ret
    exact ⟨_, rfl, bE, hx⟩
  have d0 : decide (k < 1) = false := decide_eq_false (by omega)
  by_cases e1 : 4 < k
  · have d1 : decide (4 < k) = true := decide_eq_true (by omega)
    rw [show rowP k p L C Q = fresh sRow 0 3 from by unfold rowP; rw [if_pos (by omega)]]
    go_enter Tryd.func7, Tryd.ntmps7
    go_upto_region 1 with fail
    rw [hw0.out]
    go_wp2_with fail
    refine (row_wrong r 0 3 w0 hg.out (by decide) (by decide)).mono ?_
    rintro e w1 ⟨x, rfl, b1, hx⟩
    have bE := Below.step b0 b1
    go_wp2
    go_ret
    exact ⟨_, rfl, bE, hx⟩
  have d1 : decide (4 < k) = false := decide_eq_false (by omega)
  by_cases e2 : p < -4096
  · have d2 : decide (p < -4096) = true := decide_eq_true (by omega)
    rw [show rowP k p L C Q = fresh sRow 1 3 from by unfold rowP; rw [if_neg (by omega), if_pos (by omega)]]
    go_enter Tryd.func7, Tryd.ntmps7
    go_upto_region 1 with fail
    rw [hw0.out]
    go_wp2_with fail
    refine (row_wrong r 1 3 w0 hg.out (by decide) (by decide)).mono ?_
    rintro e w1 ⟨x, rfl, b1, hx⟩
    have bE := Below.step b0 b1
    go_wp2
    go_ret
    exact ⟨_, rfl, bE, hx⟩
  have d2 : decide (p < -4096) = false := decide_eq_false (by omega)
  by_cases e3 : 4096 < p
  · have d3 : decide (4096 < p) = true := decide_eq_true (by omega)
    rw [show rowP k p L C Q = fresh sRow 1 3 from by unfold rowP; rw [if_neg (by omega), if_pos (by omega)]]
    go_enter Tryd.func7, Tryd.ntmps7
    go_upto_region 1 with fail
    rw [hw0.out]
    go_wp2_with fail
    refine (row_wrong r 1 3 w0 hg.out (by decide) (by decide)).mono ?_
    rintro e w1 ⟨x, rfl, b1, hx⟩
    have bE := Below.step b0 b1
    go_wp2
    go_ret
    exact ⟨_, rfl, bE, hx⟩
  have d3 : decide (4096 < p) = false := decide_eq_false (by omega)
  by_cases e4 : L.length = 0
  · have d4 : ((L.length : Int) == 0) = true := by rw [beq_iff_eq]; omega
    replace e4 := Lib.hid e4
    rw [show rowP k p L C Q = fresh sRow 2 3 from by unfold rowP; rw [if_neg (by omega), if_neg (by omega), if_pos e4.out]]
    go_enter Tryd.func7, Tryd.ntmps7
    go_upto_region 1 with fail
    rw [hw0.out]
    go_wp2_with fail
    refine (row_wrong r 2 3 w0 hg.out (by decide) (by decide)).mono ?_
    rintro e w1 ⟨x, rfl, b1, hx⟩
    have bE := Below.step b0 b1
    go_wp2
    go_ret
    exact ⟨_, rfl, bE, hx⟩
  have d4 : ((L.length : Int) == 0) = false := by rw [beq_eq_false_iff_ne]; omega
  by_cases e5 : Q.length = 0
  · have d5 : ((Q.length : Int) == 0) = true := by rw [beq_iff_eq]; omega
    replace e5 := Lib.hid e5
    rw [show rowP k p L C Q = fresh sRow 3 3 from by unfold rowP; rw [if_neg (by omega), if_neg (by omega), if_neg (by omega), if_pos e5.out]]
    go_enter Tryd.func7, Tryd.ntmps7
    go_upto_region 1 with fail
    rw [hw0.out]
    go_wp2_with fail
    refine (row_wrong r 3 3 w0 hg.out (by decide) (by decide)).mono ?_
    rintro e w1 ⟨x, rfl, b1, hx⟩
    have bE := Below.step b0 b1
    go_wp2
    go_ret
    exact ⟨_, rfl, bE, hx⟩
  have d5 : ((Q.length : Int) == 0) = false := by rw [beq_eq_false_iff_ne]; omega
  by_cases e6 : 8192 < L.length
  · have d6 : decide ((8192 : Int) < (L.length : Int)) = true := decide_eq_true (by omega)
    rw [show rowP k p L C Q = fresh sRow 2 4 from by unfold rowP; rw [if_neg (by omega), if_neg (by omega), if_neg (by omega), if_neg (by omega), if_pos (by omega)]]
    go_enter Tryd.func7, Tryd.ntmps7
    go_upto_region 1 with fail
    rw [hw0.out]
    go_wp2_with fail
    refine (row_wrong r 2 4 w0 hg.out (by decide) (by decide)).mono ?_
    rintro e w1 ⟨x, rfl, b1, hx⟩
    have bE := Below.step b0 b1
    go_wp2
    go_ret
    exact ⟨_, rfl, bE, hx⟩
  have d6 : decide ((8192 : Int) < (L.length : Int)) = false := decide_eq_false (by omega)
  by_cases e7 : 8192 < Q.length
  · have d7 : decide ((8192 : Int) < (Q.length : Int)) = true := decide_eq_true (by omega)
    rw [show rowP k p L C Q = fresh sRow 3 4 from by unfold rowP; rw [if_neg (by omega), if_neg (by omega), if_neg (by omega), if_neg (by omega), if_neg (by omega), if_pos (by omega)]]
    go_enter Tryd.func7, Tryd.ntmps7
    go_upto_region 1 with fail
    rw [hw0.out]
    go_wp2_with fail
    refine (row_wrong r 3 4 w0 hg.out (by decide) (by decide)).mono ?_
    rintro e w1 ⟨x, rfl, b1, hx⟩
    have bE := Below.step b0 b1
    go_wp2
    go_ret
    exact ⟨_, rfl, bE, hx⟩
  have d7 : decide ((8192 : Int) < (Q.length : Int)) = false := decide_eq_false (by omega)
  by_cases e8 : 16384 < C.length
  · have d8 : decide ((16384 : Int) < (C.length : Int)) = true := decide_eq_true (by omega)
    rw [show rowP k p L C Q = fresh sRow 4 4 from by unfold rowP; rw [if_neg (by omega), if_neg (by omega), if_neg (by omega), if_neg (by omega), if_neg (by omega), if_neg (by omega), if_pos (by omega)]]
    go_enter Tryd.func7, Tryd.ntmps7
    go_upto_region 1 with fail
    rw [hw0.out]
    go_wp2_with fail
    refine (row_wrong r 4 4 w0 hg.out (by decide) (by decide)).mono ?_
    rintro e w1 ⟨x, rfl, b1, hx⟩
    have bE := Below.step b0 b1
    go_wp2
    go_ret
    exact ⟨_, rfl, bE, hx⟩
  have d8 : decide ((16384 : Int) < (C.length : Int)) = false := decide_eq_false (by omega)
  have hP : rowP k p L C Q = if 0 ≤ idxOf (odd1 k) (L ++ C ++ Q) then fresh sRow (idxOf (odd1 k) (L ++ C ++ Q)) 2 else none := by unfold rowP; rw [if_neg (by omega), if_neg (by omega), if_neg (by omega), if_neg (by omega), if_neg (by omega), if_neg (by omega), if_neg (by omega)]
  obtain ⟨PE, hPE⟩ : ∃ PE, rowP k p L C Q = PE := ⟨_, rfl⟩
  rw [hPE]
  rw [hPE] at hP
  replace hPE := Lib.hid hPE
  have hZ : (L ++ C ++ Q).length = offR L C Q 3 := by rw [List.length_append, List.length_append]; rfl
  have hoff := offR_le L C Q
  have hp3 := parts3 L C Q
  obtain ⟨Z, hZ0⟩ : ∃ Z, L ++ C ++ Q = Z := ⟨_, rfl⟩
  rw [hZ0] at hP hZ hp3
  replace hZ0 := Lib.hid hZ0
  have bl := belowAlloc w0 (.cells #[.slice la ln lc, .slice ca cn cc, .slice qa qn qc] 22)
  have hlit : OwnV 22 w0.heap.size (w0.alloc (.cells #[.slice la ln lc, .slice ca cn cc, .slice qa qn qc] 22)) (.slice (some ⟨w0.heap.size, 0, none⟩) 3 3) [.slice la ln lc, .slice ca cn cc, .slice qa qn qc] :=
    World.ownsRow_lit (base := w0.heap.size) (e := 22) (size := 1) w0 #[.slice la ln lc, .slice ca cn cc, .slice qa qn qc] 3 (Nat.le_refl _) (by decide) rfl
  have hls : ListsAt (w0.alloc (.cells #[.slice la ln lc, .slice ca cn cc, .slice qa qn qc] 22)) (.slice (some ⟨w0.heap.size, 0, none⟩) 3 3) [L, C, Q] := by
    refine ⟨_, hlit.at, rfl, fun i hi => ?_⟩
    have : i = 0 ∨ i = 1 ∨ i = 2 := by simp at hi; omega
    rcases this with rfl | rfl | rfl
    · exact hL.out.below bl
    · exact hC.out.below bl
    · exact hQ.out.below bl
  obtain ⟨W, hW⟩ : ∃ W : World, w0.alloc (.cells #[.slice la ln lc, .slice ca cn cc, .slice qa qn qc] 22) = W := ⟨_, rfl⟩
  obtain ⟨g, hgs⟩ : ∃ g, w0.heap.size = g := ⟨_, rfl⟩
  rw [hW] at bl hls
  rw [hgs] at hls
  have hgW := Lib.hid (hg.out.below bl)
  have b1 := Below.step b0 bl
  have hrow := fun i hi => hls.row i hi
  have hlen : ∀ i, i < 3 → ([L, C, Q].getD i []).length ≤ 16384 := fun i hi => by
    have : i = 0 ∨ i = 1 ∨ i = 2 := by omega
    rcases this with rfl | rfl | rfl
    · show L.length ≤ _; omega
    · show C.length ≤ _; omega
    · show Q.length ≤ _; omega
  replace hrow := Lib.hid hrow
  replace hlen := Lib.hid hlen
  replace hW := Lib.hid hW
  replace hgs := Lib.hid hgs
  replace hP := Lib.hid hP
  replace hZ := Lib.hid hZ
  replace hoff := Lib.hid hoff
  replace hp3 := Lib.hid hp3
  clear hlit hls bl
  go_enter Tryd.func7, Tryd.ntmps7
  go_upto_region 1 with fail
  rw [hw0.out]
  go_wp2_with fail
  rw [hW.out, hgs.out]
  clear y0 y1 y2 y3 nL nC nQ
  go_loopw [5, 66] (fun av iv wr => ∃ i : Nat, i ≤ 3 ∧ iv = .int .i64 i ∧ av = .int .i64 (offR L C Q i : Nat) ∧ (∀ t, t < offR L C Q i → odd1 k (Z.getD t 0) = false) ∧ wr = W) (fun _ iv _ => 3 - (intOf iv).toNat)
  case atStart => exact ⟨0, by omega, rfl, rfl, fun t ht => absurd ht (Nat.not_lt_zero t), rfl⟩
  case round =>
    obtain ⟨i, hi, rfl, rfl, hpre, hwr⟩ := hrel
    obtain rfl : W = wr := hwr.symm
    replace hpre := Lib.hid hpre
    by_cases hi3 : i < 3
    · have di : decide ((i : Int) < 3) = true := decide_eq_true (by omega)
      obtain ⟨v, iV, cV, rV⟩ := hrow.out i hi3
      obtain ⟨ho, hz⟩ := hp3.out i hi3
      have hl := hlen.out i hi3
      have hof := hoff.out i
      have hof1 := hoff.out (i + 1)
      obtain ⟨X, hX⟩ : ∃ X, [L, C, Q].getD i [] = X := ⟨_, rfl⟩
      rw [hX] at rV ho hz hl
      obtain ⟨oi, hoi⟩ : ∃ oi, offR L C Q i = oi := ⟨_, rfl⟩
      rw [hoi] at ho hz hof hpre ⊢
      obtain ⟨va, vc, rfl⟩ : ∃ va vc, v = .slice va X.length vc := by
        rcases rV.split with ⟨h, e⟩ | ⟨q, cap, h⟩
        · subst e; exact ⟨_, _, h⟩
        · exact ⟨_, _, h⟩
      obtain ⟨xa, hxa⟩ : ∃ xa, valAt (.slice (some ⟨g, 0, none⟩) 3 3) i = xa := ⟨_, rfl⟩
      have nX := rV.len
      have rX := rV
      rw [hxa] at iV cV
      replace rV := Lib.hid rV
      replace rX := Lib.hid rX
      replace ho := Lib.hid ho
      replace hz := Lib.hid hz
      replace hX := Lib.hid hX
      replace hoi := Lib.hid hoi
      replace hxa := Lib.hid hxa
      go_wp2_with fail
      go_loopw [72] (fun jv wr => ∃ j : Nat, j ≤ X.length ∧ jv = .int .i64 j ∧ (∀ t, t < oi + j → odd1 k (Z.getD t 0) = false) ∧ wr = W) (fun jv _ => X.length - (intOf jv).toNat)
      case atStart => exact ⟨0, Nat.zero_le _, rfl, hpre.out, rfl⟩
      case round =>
        obtain ⟨j, hj, rfl, hbef, hwj⟩ := hrel
        obtain rfl : W = wr := hwj.symm
        replace hbef := Lib.hid hbef
        by_cases hjn : j < X.length
        · have dj : decide ((j : Int) < (X.length : Int)) = true := decide_eq_true (by omega)
          have iJ := fun w' => rX.out.idx j hjn w'
          have cJ := rX.out.cellD j hjn
          have hzj := hz.out j hjn
          obtain ⟨ta, hta⟩ : ∃ ta, valAt (.slice va X.length vc) j = ta := ⟨_, rfl⟩
          obtain ⟨x, hx⟩ : ∃ x, X.getD j 0 = x := ⟨_, rfl⟩
          rw [hta] at iJ cJ
          rw [hx] at cJ hzj
          replace hta := Lib.hid hta
          replace hx := Lib.hid hx
          replace hzj := Lib.hid hzj
          have hoj : oi + j < Z.length := by
            rw [hZ.out]
            have h1 := ho.out
            have h2 : offR L C Q (i + 1) ≤ offR L C Q 3 := by
              have : i = 0 ∨ i = 1 ∨ i = 2 := by omega
              rcases this with rfl | rfl | rfl
              · show L.length ≤ L.length + C.length + Q.length; omega
              · show L.length + C.length ≤ L.length + C.length + Q.length; omega
              · exact Nat.le_refl _
            omega
          replace hoj := Lib.hid hoj
          by_cases x1 : x < 0
          · have dx : decide (x < 0) = true := decide_eq_true x1
            have hodd : idxOf (odd1 k) Z = ((oi + j : Nat) : Int) := idx_first hoj.out (by rw [hzj.out]; simp [odd1, x1]) hbef.out
            have hpe : PE = fresh sRow ((oi : Int) + (j : Int)) 2 := by rw [hP.out, hodd, if_pos (by omega), show ((oi + j : Nat) : Int) = (oi : Int) + (j : Int) by omega]
            replace hpe := Lib.hid hpe
            replace hodd := Lib.hid hodd
            have hcall := row_wrong r ((oi : Int) + (j : Int)) 2 W hgW.out (by decide) (by decide)
            replace hcall := Lib.hid hcall
            go_wp2_with fail
            refine hcall.out.mono ?_
            rintro e w2 ⟨z, rfl, b2, hz2⟩
            have bE := Below.step b1 b2
            go_wp2
            go_ret
            exact ⟨_, rfl, bE, by rw [hpe.out]; exact hz2⟩
          · have dx : decide (x < 0) = false := decide_eq_false x1
            by_cases x2 : k ≤ x
            · have dx2 : decide (k ≤ x) = true := decide_eq_true x2
              have hodd : idxOf (odd1 k) Z = ((oi + j : Nat) : Int) := idx_first hoj.out (by rw [hzj.out]; simp [odd1, x2]) hbef.out
              have hpe : PE = fresh sRow ((oi : Int) + (j : Int)) 2 := by rw [hP.out, hodd, if_pos (by omega), show ((oi + j : Nat) : Int) = (oi : Int) + (j : Int) by omega]
              replace hpe := Lib.hid hpe
              replace hodd := Lib.hid hodd
              have hcall := row_wrong r ((oi : Int) + (j : Int)) 2 W hgW.out (by decide) (by decide)
              replace hcall := Lib.hid hcall
              go_wp2_with fail
              refine hcall.out.mono ?_
              rintro e w2 ⟨z, rfl, b2, hz2⟩
              have bE := Below.step b1 b2
              go_wp2
              go_ret
              exact ⟨_, rfl, bE, by rw [hpe.out]; exact hz2⟩
            · have dx2 : decide (k ≤ x) = false := decide_eq_false x2
              have hbe2 : ∀ t, t < oi + (j + 1) → odd1 k (Z.getD t 0) = false := fun t ht => by
                by_cases e : t < oi + j
                · exact hbef.out t e
                · rw [show t = oi + j by omega, hzj.out]; simp [odd1, x1, x2]
              replace hbe2 := Lib.hid hbe2
              go_wp2
              go_roundw
              case rel => exact ⟨j + 1, by omega, by go_num, hbe2.out, by first | rfl | trivial⟩
              case measure => simp [intOf]; omega
        · have dj : decide ((j : Int) < (X.length : Int)) = false := decide_eq_false (by omega)
          obtain rfl : j = X.length := by omega
          have hofn : ((oi : Int) + (X.length : Int)) = ((offR L C Q (i + 1) : Nat) : Int) := by rw [ho.out]; omega
          have hbe2 : ∀ t, t < offR L C Q (i + 1) → odd1 k (Z.getD t 0) = false := fun t ht => hbef.out t (by rw [← ho.out]; exact ht)
          replace hbe2 := Lib.hid hbe2
          replace hofn := Lib.hid hofn
          go_wp2
          go_roundw
          case rel => exact ⟨i + 1, by omega, by go_num, by rw [← hofn.out]; try go_num, hbe2.out, by first | rfl | trivial⟩
          case measure => simp [intOf]; omega
    · have di : decide ((i : Int) < 3) = false := decide_eq_false (by omega)
      obtain rfl : i = 3 := by omega
      have hno : idxOf (odd1 k) Z = -1 := idx_none fun t ht => hpre.out t (by rw [← hZ.out]; exact ht)
      have hpe : PE = none := by rw [hP.out, hno, if_neg (by decide)]
      replace hpe := Lib.hid hpe
      replace hno := Lib.hid hno
      go_wp2
      go_ret
      exact ⟨_, rfl, b1, by rw [hpe.out]; rfl⟩
end Go.Proofs.YtilpckngghffoaaDoor

namespace Go.Proofs.YtilpckngghffoaaDoor
open Go.RowKit
set_option maxRecDepth 100000

set_option maxHeartbeats 8000000 in
theorem row_same (r : Nat → Addr) (p : Int) (K : Nat) (la : Option Addr) (ln lc : Nat) (ca : Option Addr) (cn cc : Nat) (qa : Option Addr) (qn qc : Nat) (L C Q : List Int) (la' : Option Addr) (ln' lc' : Nat) (ca' : Option Addr) (cn' cc' : Nat) (qa' : Option Addr) (qn' qc' : Nat) (L' C' Q' : List Int) (w : World) (hg : Glob r w) (hL : IntsAt w (.slice la ln lc) L) (hC : IntsAt w (.slice ca cn cc) C) (hQ : IntsAt w (.slice qa qn qc) Q) (hL' : IntsAt w (.slice la' ln' lc') L') (hC' : IntsAt w (.slice ca' cn' cc') C') (hQ' : IntsAt w (.slice qa' qn' qc') Q') (hlL : L'.length = L.length) (hlC : C'.length = C.length) (hlQ : Q'.length = Q.length) (hro : RowOk K p L C Q) (hro' : RowOk K p L' C' Q') :
    Calls Tryd.prog 9 #[.int .i64 K, .agg #[.int .i64 p, .slice la ln lc, .slice ca cn cc, .slice qa qn qc], .agg #[.int .i64 p, .slice la' ln' lc', .slice ca' cn' cc', .slice qa' qn' qc']] w (Ret2 (fun x y _ => x = .bool (decide (pieceP p L C Q (p - L.length - L.length) (L.length + L.length + C.length + Q.length + Q.length) = pieceP p L' C' Q' (p - L.length - L.length) (L.length + L.length + C.length + Q.length + Q.length))) ∧ y = .nilIface) w) := by
  have b0 := Below.step (belowAlloc w (.cells #[.int .i64 p, .slice la ln lc, .slice ca cn cc, .slice qa qn qc] 26)) (belowAlloc _ (.cells #[.int .i64 p, .slice la' ln' lc', .slice ca' cn' cc', .slice qa' qn' qc'] 26))
  have y : Cells4 ((w.alloc (.cells #[.int .i64 p, .slice la ln lc, .slice ca cn cc, .slice qa qn qc] 26)).alloc (.cells #[.int .i64 p, .slice la' ln' lc', .slice ca' cn' cc', .slice qa' qn' qc'] 26)) (w.heap.size) (.int .i64 p) (.slice la ln lc) (.slice ca cn cc) (.slice qa qn qc) := by
    refine ⟨?_, ?_, ?_, ?_⟩ <;> simp [go_sem]
  have z : Cells4 ((w.alloc (.cells #[.int .i64 p, .slice la ln lc, .slice ca cn cc, .slice qa qn qc] 26)).alloc (.cells #[.int .i64 p, .slice la' ln' lc', .slice ca' cn' cc', .slice qa' qn' qc'] 26)) (w.heap.size + 1) (.int .i64 p) (.slice la' ln' lc') (.slice ca' cn' cc') (.slice qa' qn' qc') := by
    refine ⟨?_, ?_, ?_, ?_⟩ <;> simp [go_sem]
  obtain ⟨w0, hw0⟩ : ∃ W : World, ((w.alloc (.cells #[.int .i64 p, .slice la ln lc, .slice ca cn cc, .slice qa qn qc] 26)).alloc (.cells #[.int .i64 p, .slice la' ln' lc', .slice ca' cn' cc', .slice qa' qn' qc'] 26)) = W := ⟨_, rfl⟩
  rw [hw0] at b0 y z
  replace hg := hg.below b0
  replace hL := hL.below b0
  replace hC := hC.below b0
  replace hQ := hQ.below b0
  replace hL' := hL'.below b0
  replace hC' := hC'.below b0
  replace hQ' := hQ'.below b0
  have nL := hL.len
  have nC := hC.len
  have nQ := hQ.len
  have nL' := hL'.len
  have nC' := hC'.len
  have nQ' := hQ'.len
  rw [hlL] at nL'
  rw [hlC] at nC'
  rw [hlQ] at nQ'
  have nA := hro.none
  have nB := hro'.none
  have g1 := hro.l1
  have g2 := hro.q1
  have g3 := hro.l2
  have g4 := hro.q2
  have g5 := hro.c2
  have g6 := hro.p1
  have g7 := hro.p2
  have mm : min p p = p := by omega
  have xx : max (p + (C.length : Int)) (p + (C.length : Int)) = p + (C.length : Int) := by omega
  have keep : ∀ W' : World, Below w0.heap.size w0 W' → W'.cell? ⟨w.heap.size, 0, none⟩ = some (.int .i64 p) ∧ W'.cell? ⟨w.heap.size, 1, none⟩ = some (.slice la ln lc) ∧ W'.cell? ⟨w.heap.size, 2, none⟩ = some (.slice ca cn cc) ∧ W'.cell? ⟨w.heap.size, 3, none⟩ = some (.slice qa qn qc) ∧ W'.cell? ⟨w.heap.size + 1, 0, none⟩ = some (.int .i64 p) ∧ W'.cell? ⟨w.heap.size + 1, 1, none⟩ = some (.slice la' ln' lc') ∧ W'.cell? ⟨w.heap.size + 1, 2, none⟩ = some (.slice ca' cn' cc') ∧ W'.cell? ⟨w.heap.size + 1, 3, none⟩ = some (.slice qa' qn' qc') := fun W' hb => ⟨(y.below hb).c0, (y.below hb).c1, (y.below hb).c2, (y.below hb).c3, (z.below hb).c0, (z.below hb).c1, (z.below hb).c2, (z.below hb).c3⟩
  have chkA := fun (w' : World) (hb : Below w0.heap.size w0 w') => row_check r K p la ln lc ca cn cc qa qn qc L C Q w' (hg.below hb) (hL.below hb) (hC.below hb) (hQ.below hb)
  have chkB := fun (w' : World) (hb : Below w0.heap.size w0 w') => row_check r K p la' ln' lc' ca' cn' cc' qa' qn' qc' L' C' Q' w' (hg.below hb) (hL'.below hb) (hC'.below hb) (hQ'.below hb)
  obtain ⟨f, hf⟩ : ∃ f, p - (L.length : Int) - (L.length : Int) = f := ⟨_, rfl⟩
  obtain ⟨t, ht⟩ : ∃ t, p + (C.length : Int) + (Q.length : Int) + (Q.length : Int) = t := ⟨_, rfl⟩
  obtain ⟨n, hn⟩ : ∃ n, L.length + L.length + C.length + Q.length + Q.length = n := ⟨_, rfl⟩
  have htf : t - f = (n : Int) := by omega
  have hwn : IntKind.i64.wrap (n : Int) = (n : Int) := wrapK (by omega) (by omega)
  have hff : -1000000 ≤ f ∧ f ≤ 1000000 := by omega
  have hnn : n ≤ 100000 := by omega
  rw [hf, hn]
  have pcA := fun (w' : World) (hb : Below w0.heap.size w0 w') => row_piece p f n la ln lc ca cn cc qa qn qc L C Q w' (hL.below hb) (hC.below hb) (hQ.below hb) g1 g2 (by omega) (by omega) (by omega) (by omega) hff hnn
  have pcB := fun (w' : World) (hb : Below w0.heap.size w0 w') => row_piece p f n la' ln' lc' ca' cn' cc' qa' qn' qc' L' C' Q' w' (hL'.below hb) (hC'.below hb) (hQ'.below hb) (by omega) (by omega) (by omega) (by omega) (by omega) (by omega) hff hnn
  obtain ⟨A, hA⟩ : ∃ A, pieceP p L C Q f n = A := ⟨_, rfl⟩
  obtain ⟨B, hB⟩ : ∃ B, pieceP p L' C' Q' f n = B := ⟨_, rfl⟩
  rw [hA] at pcA ⊢
  rw [hB] at pcB ⊢
  replace nA := Lib.hid nA
  replace nB := Lib.hid nB
  replace keep := Lib.hid keep
  replace chkA := Lib.hid chkA
  replace chkB := Lib.hid chkB
  replace pcA := Lib.hid pcA
  replace pcB := Lib.hid pcB
  replace hA := Lib.hid hA
  replace hB := Lib.hid hB
  replace hf := Lib.hid hf
  replace ht := Lib.hid ht
  replace hn := Lib.hid hn
  replace hff := Lib.hid hff
  replace hL := Lib.hid hL
  replace hC := Lib.hid hC
  replace hQ := Lib.hid hQ
  replace hL' := Lib.hid hL'
  replace hC' := Lib.hid hC'
  replace hQ' := Lib.hid hQ'
  replace hg := Lib.hid hg
  replace hlL := Lib.hid hlL
  replace hlC := Lib.hid hlC
  replace hlQ := Lib.hid hlQ
  replace hro := Lib.hid hro
  replace hro' := Lib.hid hro'
  replace hw0 := Lib.hid hw0
  obtain ⟨y0, y1, y2, y3, z0, z1, z2, z3⟩ := keep.out w0 (Below.refl _ _)
  clear y z
  go_enter Tryd.func9, Tryd.ntmps9
  go_upto_region 1 with fail
  rw [hw0.out]
  go_wp2_with fail
  refine (chkA.out w0 (Below.refl _ _)).mono ?_
  rintro e w1 ⟨x, rfl, b1, hx⟩
  rw [nA.out] at hx
  obtain rfl : x = .nilIface := hx
  clear y0 y1 y2 y3 z0 z1 z2 z3
  obtain ⟨y0, y1, y2, y3, z0, z1, z2, z3⟩ := keep.out w1 b1
  go_wp2_with fail
  refine (chkB.out w1 b1).mono ?_
  rintro e w2 ⟨x, rfl, b2, hx⟩
  rw [nB.out] at hx
  obtain rfl : x = .nilIface := hx
  have c2 := Below.step b1 b2
  clear y0 y1 y2 y3 z0 z1 z2 z3
  obtain ⟨y0, y1, y2, y3, z0, z1, z2, z3⟩ := keep.out w2 c2
  obtain ⟨W, hW⟩ : ∃ W : World, w2.drew = W := ⟨_, rfl⟩
  have bW : Below w0.heap.size w0 W := by rw [← hW]; exact c2.drew
  have hS := keep.out W bW
  replace hW := Lib.hid hW
  replace htf := Lib.hid htf
  go_upto_region 9 with fail
  rw [hf.out, ht.out]
  replace htf := htf.out
  clear y0 y1 y2 y3 z0 z1 z2 z3
  refine wp_region_plan (fun w' => w'.cell? ⟨w.heap.size, 0, none⟩ = some (.int .i64 p) ∧ w'.cell? ⟨w.heap.size, 1, none⟩ = some (.slice la ln lc) ∧ w'.cell? ⟨w.heap.size, 2, none⟩ = some (.slice ca cn cc) ∧ w'.cell? ⟨w.heap.size, 3, none⟩ = some (.slice qa qn qc) ∧ w'.cell? ⟨w.heap.size + 1, 0, none⟩ = some (.int .i64 p) ∧ w'.cell? ⟨w.heap.size + 1, 1, none⟩ = some (.slice la' ln' lc') ∧ w'.cell? ⟨w.heap.size + 1, 2, none⟩ = some (.slice ca' cn' cc') ∧ w'.cell? ⟨w.heap.size + 1, 3, none⟩ = some (.slice qa' qn' qc')) 14 [(0, true), (1, true), (2, true), (3, true), (4, true), (6, true), (7, true), (8, true), (9, true), (10, true), (5, false), (11, false), (12, false), (13, true)] (by kernel_rfl) (by kernel_rfl) ?_
  rw [hW.out]
  refine headY (v := ?_) (some 58) rfl rfl (Or.inl ⟨by rfl, ?_⟩) hS ?_
  rotate_left
  · rintro W' ⟨s0, s1, s2, s3, s4, s5, s6, s7⟩; go_simp; try with_reducible rfl
  simp only [Act.put, List.setIfInBounds_toArray, List.set_cons_zero, List.set_cons_succ]
  refine headY (v := ?_) (some 59) rfl rfl (Or.inl ⟨by rfl, ?_⟩) hS ?_
  rotate_left
  · rintro W' ⟨s0, s1, s2, s3, s4, s5, s6, s7⟩; go_simp; try with_reducible rfl
  simp only [Act.put, List.setIfInBounds_toArray, List.set_cons_zero, List.set_cons_succ]
  refine headY (v := ?_) (some 60) rfl rfl (Or.inl ⟨by rfl, ?_⟩) hS ?_
  rotate_left
  · rintro W' ⟨s0, s1, s2, s3, s4, s5, s6, s7⟩; go_simp; try with_reducible rfl
  simp only [Act.put, List.setIfInBounds_toArray, List.set_cons_zero, List.set_cons_succ]
  refine headY (v := ?_) (some 61) rfl rfl (Or.inl ⟨by rfl, ?_⟩) hS ?_
  rotate_left
  · rintro W' ⟨s0, s1, s2, s3, s4, s5, s6, s7⟩; go_simp; try with_reducible rfl
  simp only [Act.put, List.setIfInBounds_toArray, List.set_cons_zero, List.set_cons_succ]
  refine headY (v := ?_) (some 62) rfl rfl (Or.inl ⟨by rfl, ?_⟩) hS ?_
  rotate_left
  · rintro W' ⟨s0, s1, s2, s3, s4, s5, s6, s7⟩; go_simp; try with_reducible rfl
  simp only [Act.put, List.setIfInBounds_toArray, List.set_cons_zero, List.set_cons_succ]
  refine headY (v := ?_) (some 64) rfl rfl (Or.inl ⟨by rfl, ?_⟩) hS ?_
  rotate_left
  · rintro W' ⟨s0, s1, s2, s3, s4, s5, s6, s7⟩; go_simp; try with_reducible rfl
  simp only [Act.put, List.setIfInBounds_toArray, List.set_cons_zero, List.set_cons_succ]
  refine headY (v := ?_) (some 65) rfl rfl (Or.inl ⟨by rfl, ?_⟩) hS ?_
  rotate_left
  · rintro W' ⟨s0, s1, s2, s3, s4, s5, s6, s7⟩; go_simp; try with_reducible rfl
  simp only [Act.put, List.setIfInBounds_toArray, List.set_cons_zero, List.set_cons_succ]
  refine headY (v := ?_) (some 66) rfl rfl (Or.inl ⟨by rfl, ?_⟩) hS ?_
  rotate_left
  · rintro W' ⟨s0, s1, s2, s3, s4, s5, s6, s7⟩; go_simp; try with_reducible rfl
  simp only [Act.put, List.setIfInBounds_toArray, List.set_cons_zero, List.set_cons_succ]
  refine headY (v := ?_) (some 67) rfl rfl (Or.inl ⟨by rfl, ?_⟩) hS ?_
  rotate_left
  · rintro W' ⟨s0, s1, s2, s3, s4, s5, s6, s7⟩; go_simp; try with_reducible rfl
  simp only [Act.put, List.setIfInBounds_toArray, List.set_cons_zero, List.set_cons_succ]
  refine headY (v := ?_) (some 68) rfl rfl (Or.inl ⟨by rfl, ?_⟩) hS ?_
  rotate_left
  · rintro W' ⟨s0, s1, s2, s3, s4, s5, s6, s7⟩; go_simp; try with_reducible rfl
  simp only [Act.put, List.setIfInBounds_toArray, List.set_cons_zero, List.set_cons_succ]
  refine headC rfl (fun KK hK => ?_)
  go_simp
  refine (pcA.out W bW).mono ?_
  rintro e w6 ⟨x6, rfl, b6, h6⟩
  have c6 := Below.step bW b6
  have hS6 := keep.out w6 c6
  replace h6 := Lib.hid h6
  refine hK _ _ hS6 ?_
  clear hK KK hS
  refine headC rfl (fun KK hK => ?_)
  go_simp
  refine (pcB.out w6 c6).mono ?_
  rintro e w7 ⟨x7, rfl, b7, h7⟩
  have c7 := Below.step c6 b7
  have hS7 := keep.out w7 c7
  refine hK _ _ hS7 ?_
  clear hK KK hS6
  refine headC rfl (fun KK hK => ?_)
  go_simp
  refine (equal_any _ _ A B w7 (h6.out.at.below b7) h7.at).mono ?_
  rintro e w8 h8
  obtain ⟨rfl, b8⟩ := h8.below
  have c8 := Below.step c7 b8
  have hS8 := keep.out w8 c8
  clear h8
  refine hK _ _ hS8 ?_
  clear hK KK hS7
  refine headY (v := ?_) (some 6) rfl rfl (Or.inl ⟨by rfl, ?_⟩) hS8 ?_
  rotate_left
  · rintro W' ⟨s0, s1, s2, s3, s4, s5, s6, s7⟩; go_simp; try with_reducible rfl
  simp only [Act.put, List.setIfInBounds_toArray, List.set_cons_zero, List.set_cons_succ]
  refine head0 ?_
  simp only [List.drop_succ_cons, List.drop_zero]
  have bE := Below.step b0 c8
  go_wp2
  refine NoPanic.normal ?_
  go_wp2
  go_ret2
  exact ⟨_, _, rfl, bE, rfl, rfl⟩
end Go.Proofs.YtilpckngghffoaaDoor

namespace Go.Proofs.YtilpckngghffoaaDoor
open Go.RowKit
set_option maxRecDepth 100000

set_option maxHeartbeats 800000 in
theorem step_ok (K R : Nat) (va : Option Addr) (vn vc : Nat) (T : List Int) (u : Value) (ys : List Int) (w : World) (h : IntsAt w (.slice va vn vc) T) (hr : RuleOk K R T) (hu : IntsAt w u ys) (hy : Syms K ys) (hyl : ys.length ≤ 4096) :
    Calls Tryd.prog 25 #[.agg #[.int .i64 K, .int .i64 R, .slice va vn vc], u] w (Ret2 (fun x y w' => OwnI w.heap.size w' x (imgP K R T ys) ∧ y = .nilIface) w) := by
  have hb0 := belowAlloc w (.cells #[.int .i64 K, .int .i64 R, .slice va vn vc] 24)
  have hR := hr.r3
  have hk1 := hr.k1
  have hk4 := hr.k4
  have hlen := hr.len_le
  have hlp := hr.len_pos
  have hlT := Lib.hid hr.len
  have l1 := hu.len
  have lT := h.len
  have hodd := Lib.hid hy.odd
  replace h := Lib.hid (h.below hb0)
  replace hu := Lib.hid (hu.below hb0)
  replace hr := Lib.hid hr
  replace hy := Lib.hid hy
  obtain ⟨ua, un, uc, rfl⟩ := hu.out.shape
  have hL0 : ((T.length : Int) == 0) = false := by rw [beq_eq_false_iff_ne]; omega
  have hL1 : ¬ (T.length : Int) = 0 := by omega
  have hL2 : (0 : Int) < T.length := by omega
  go_enter Tryd.func25, Tryd.ntmps25
  go_wp2_with fail
  refine (check_ok K R _ T _ h.out hr.out).mono ?_
  rintro e w1 ⟨x, rfl, hb, rfl⟩
  obtain ⟨z0, z1, z2, -, -, -⟩ := cells3 hb
  go_wp2_with fail
  refine (rule_odd K _ ys _ (hu.out.below hb)).mono ?_
  rintro e w2 ⟨x, rfl, hb', rfl⟩
  rw [hodd.out]
  have zz := Lib.hid (And.intro z0 (And.intro z1 z2))
  clear z0 z1 z2
  have hb2 := Below.step hb hb'
  obtain ⟨z0, z1, z2⟩ := keep3 hb' zz.out
  have zz2 := Lib.hid (And.intro z0 (And.intro z1 z2))
  clear z0 z1 z2
  have hsz : w.heap.size < w2.heap.size := World.block_lt_of_cell? _ _ zz2.out.1
  have hT2 := Lib.hid (h.out.below hb2)
  have hu2 := Lib.hid (hu.out.below hb2)
  go_wp2
  go_loopw [8, 9, 31] (fun o n i wr => ∃ j : Nat, j ≤ ys.length ∧ i = .int .i64 j ∧ n = .int .i64 (numW K (ys.take j) % T.length : Nat) ∧ OwnI w2.heap.size wr o (imgP K R T (ys.take j)) ∧ Below w2.heap.size w2 wr) (fun _ _ i _ => ys.length - (intOf i).toNat)
  case atStart => exact ⟨0, by omega, rfl, by simp [numW], by simpa [imgP] using OwnI.nil _ _, Below.refl _ _⟩
  case round =>
    obtain ⟨j, hj, rfl, rfl, hO, hbO⟩ := hrel
    obtain ⟨wo, rfl⟩ : ∃ wo : World, wo = wr := ⟨_, rfl⟩
    by_cases hjl : j < ys.length
    · have hyi := hu2.out.below hbO
      have i1 := hyi.idx j hjl
      have c1 := hyi.cell j hjl
      have hx := hy.out ys[j] (by simp)
      obtain ⟨z0, z1, z2⟩ := keep3 hbO zz2.out
      have hst : Hid (numW K (ys.take (j + 1)) % T.length = (numW K (ys.take j) % T.length * K + ys[j].toNat) % T.length) := by
        show _ = _
        rw [take_snoc ys j hjl]; exact numW_step ..
      have hsy : Syms K (ys.take j ++ [ys[j]]) := by
        intro y hy'; exact hy.out y (by rw [← take_snoc ys j hjl] at hy'; exact List.mem_of_mem_take hy')
      have him := imgP_snoc (T := T) (R := R) hlT.out hsy
      rw [← take_snoc ys j hjl, hst.out] at him
      have htl : (ys.take j).length = j := by simp; omega
      rw [htl] at him
      have hol : (imgP K R T (ys.take j)).length ≤ 5000 := by rw [imgP_length]; omega
      have hNl : numW K (ys.take j) % T.length < T.length := Nat.mod_lt _ (by omega)
      generalize ys[j] = x at c1 hx hst him
      replace him := Lib.hid him
      generalize numW K (ys.take j) % T.length = N at hst him hNl
      generalize imgP K R T (ys.take j) = O at hO hol him
      have hm1 : 0 ≤ (N : Int) * (K : Int) := Int.mul_nonneg (by omega) (by omega)
      have hm2 : (N : Int) * (K : Int) ≤ 65536 := by
        have : N * K ≤ 65536 := Nat.mul_le_mul (show N ≤ 16384 by omega) hk4
        have h2 := Int.ofNat_le.2 this
        rw [Int.natCast_mul] at h2
        exact h2
      obtain ⟨X, rfl⟩ := Int.eq_ofNat_of_zero_le hx.1
      rw [Int.toNat_natCast] at him hst
      have hcast : Hid ((((N * K + X) % T.length : Nat) : Int) = ((N : Int) * (K : Int) + (X : Int)) % (T.length : Int)) := by show _ = _; simp
      have hMl : (N * K + X) % T.length < T.length := Nat.mod_lt _ (by omega)
      have hTw := hT2.out.below hbO
      have i2 : ∀ w', (Instr.indexAt 22 (.slice va vn vc) (.int .i64 (((N : Int) * (K : Int) + (X : Int)) % (T.length : Int)))).run Tryd.prog w' = .ok (.pointer (some (valAt (.slice va vn vc) ((N * K + X) % T.length)))) w' := by
        intro w'
        rw [← hcast.out]
        exact hTw.idx _ hMl w'
      have c2 := hTw.cellD _ hMl
      replace hO := Lib.hid hO
      clear hyi hTw
      generalize T.getD ((N * K + X) % T.length) 0 = y at c2 him
      by_cases hge : 2 * R ≤ j
      · replace him := Lib.hid (him.out.trans (if_pos hge))
        go_wp2_with (at_builtin; refine wpl_append1 rfl _ _ rfl w2.heap.size _ O y hO.out rfl rfl (by omega) hbO.size ?_)
        intro nv w4 hO4 hb4 _ _
        have hbT := hbO.trans hb4
        replace hO4 := Lib.hid hO4
        go_wp2
        go_roundw
        case rel => exact ⟨j + 1, by omega, by go_num, by rw [hst.out, hcast.out], by rw [him.out]; exact hO4.out, hbT⟩
        case measure => simp [intOf]; omega
      · replace him := Lib.hid (him.out.trans (if_neg hge))
        go_wp2
        go_roundw
        case rel => exact ⟨j + 1, by omega, by go_num, by rw [hst.out, hcast.out], by rw [him.out]; exact hO.out, hbO⟩
        case measure => simp [intOf]; omega
    · obtain rfl : j = ys.length := by omega
      rw [List.take_length] at hO
      go_wp2
      go_ret2
      exact ⟨_, _, rfl, Below.step hb0 (Below.step hb2 hbO), hO.mono (by omega), rfl⟩
end Go.Proofs.YtilpckngghffoaaDoor

namespace Go.Proofs.YtilpckngghffoaaDoor
open Go.RowKit
set_option maxRecDepth 100000

end Go.Proofs.YtilpckngghffoaaDoor

namespace Go.Proofs.YtilpckngghffoaaDoor
open Go.RowKit

theorem IntsAt.piece {w : World} {a : Option Addr} {cap : Nat} {xs : List Int} (h : IntsAt w (.slice a xs.length cap) xs) (k l : Nat) (hk : k ≤ l) (hl : l ≤ xs.length) :
    IntsAt w (sliced a k l cap 1) ((xs.take l).drop k) := by
  obtain ⟨a', cap', e, h1, h2, h3, h4⟩ := h
  injection e with e1 _ e3
  subst e1 e3
  have hlen : ((xs.take l).drop k).length = l - k := by simp; omega
  refine ⟨if cap = k then a else a.map (·.add (k * 1)), cap - k, by rw [hlen]; rfl, by rw [hlen]; omega, by omega, ?_, fun i hi => ?_⟩
  · intro hn
    by_cases hc : cap = k
    · omega
    · rw [if_neg hc] at hn
      have := h3 (Option.map_eq_none_iff.1 hn)
      omega
  · rw [hlen] at hi
    have hc : ¬ cap = k := by omega
    show w.cell? (valAt (.slice (if cap = k then a else a.map (·.add (k * 1))) _ _) i) = _
    rw [if_neg hc]
    cases a with
    | none => have := h3 rfl; omega
    | some p =>
      have h5 := h4 (k + i) (by omega)
      simp only [valAt] at h5
      show w.cell? ((p.add (k * 1)).add i) = _
      rw [Nat.mul_one, show (p.add k).add i = p.add (k + i) by unfold Addr.add; by_cases hk0 : k = 0 <;> by_cases hi0 : i = 0 <;> simp [hk0, hi0, Nat.add_assoc], h5]
      simp

/-- s[k:]. -/
theorem IntsAt.post {w : World} {v : Value} {xs : List Int} (h : IntsAt w v xs) (k : Nat) (hk : k ≤ xs.length) :
    ∃ u, (∀ w', (Instr.slice 22 v (some (.int .i64 k)) none none).run Tryd.prog w' = .ok u w') ∧ IntsAt w u (xs.drop k) := by
  have h' := h
  obtain ⟨a, cap, rfl, _⟩ := h'
  refine ⟨sliced a k xs.length cap 1, fun w' => ?_, ?_⟩
  · rw [run_slice_l w' 22 a xs.length cap uIntsE .i64 k (by omega) (by omega), eInts, sInt]
    rfl
  · have := h.piece k xs.length hk (Nat.le_refl _)
    rwa [List.take_length] at this

/-- s[k:l]. -/
theorem IntsAt.mid {w : World} {v : Value} {xs : List Int} (h : IntsAt w v xs) (k l : Nat) (hk : k ≤ l) (hl : l ≤ xs.length) :
    ∃ u, (∀ w', (Instr.slice 22 v (some (.int .i64 k)) (some (.int .i64 l)) none).run Tryd.prog w' = .ok u w') ∧ IntsAt w u ((xs.take l).drop k) := by
  have h' := h
  obtain ⟨a, cap, rfl, h1, _⟩ := h'
  refine ⟨sliced a k l cap 1, fun w' => ?_, h.piece k l hk hl⟩
  rw [run_slice_lh w' 22 a xs.length cap uIntsE .i64 .i64 k l (by omega) (by omega) (by omega), eInts, sInt]
  rfl

/-- s[:l]. -/
theorem IntsAt.front {w : World} {v : Value} {xs : List Int} (h : IntsAt w v xs) (l : Nat) (hl : l ≤ xs.length) :
    ∃ u, (∀ w', (Instr.slice 22 v none (some (.int .i64 l)) none).run Tryd.prog w' = .ok u w') ∧ IntsAt w u (xs.take l) := by
  have h' := h
  obtain ⟨a, cap, rfl, h1, _⟩ := h'
  refine ⟨sliced a 0 l cap 1, fun w' => ?_, ?_⟩
  · rw [run_slice_h w' 22 a xs.length cap uIntsE .i64 l (by omega) (by omega), eInts, sInt]
    rfl
  · have := h.piece 0 l (Nat.zero_le _) hl
    simpa using this
end Go.Proofs.YtilpckngghffoaaDoor

namespace Go.Proofs.YtilpckngghffoaaDoor
open Go.RowKit
set_option maxRecDepth 100000

theorem run_appI {w : World} (B : Nat) (ty : TypeId) (v u : Value) (xs ys : List Int) (hown : OwnI B w v xs) (hu : IntsAt w u ys) (hlen : xs.length + ys.length ≤ 17592186044416) (hB : B ≤ w.heap.size) :
    ∃ v' w', (Builtin.append_ #[22, 22] ty #[v, u]).run Tryd.prog w = .ok v' w' ∧ OwnI B w' v' (xs ++ ys) ∧ Below B w w' ∧ w.grownBy w' v.ownBlock ∧ (v'.ownBlock = v.ownBlock ∨ v'.ownBlock = some w.heap.size) := by
  obtain ⟨i, hi, hz0, hz1, hz2⟩ := info_parts iInt
  obtain ⟨ao, cap, rfl, h1, h2, h3, h4⟩ := hu
  cases ao with
  | none =>
    obtain rfl := h3 rfl
    have hy : ys = [] := List.length_eq_zero_iff.1 (by omega)
    subst hy
    have hrun := run_append_owned_none (P := Tryd.prog) w B 22 ty 3 i 1 uInts hi v xs.length _ hown
    exact ⟨_, _, hrun, by simpa using hown, Below.refl _ _, World.grownBy.refl _ _, .inl rfl⟩
  | some p =>
    obtain ⟨v', w', hr, ho', hgr, _, hat⟩ := run_append_own_at (P := Tryd.prog) w B 22 ty 3 i (.int .i64 0) 1 8 uInts hi hz0 hz1 hz2 rfl (by decide) v xs.length _ hown p ys.length cap (ys.map (.int .i64)) (by simp) (fun j u hj => by
      have hjl : j < ys.length := by have := (List.getElem?_eq_some_iff.1 hj).1; simpa using this
      have := h4 j hjl
      simp only [valAt] at this
      rw [this, ← hj]; simp [hjl]) (ints_oneCell _ _) (by unfold maxLen; omega) (by omega) hB
    exact ⟨v', w', hr, by simpa [OwnI] using ho', (Below.refl _ _).grown hgr hB (fun k hk => (hown.lt k hk).1), hgr, hat⟩

theorem copy_any (v : Value) (xs : List Int) (w : World) (h : IntsAt w v xs) (hl : xs.length ≤ 17592186044416) :
    Calls Tryd.prog 8 #[v] w (Ret1 (fun x w' => OwnI w.heap.size w' x xs) w) := by
  have b0 := belowAlloc w (.cells #[] 3)
  have ho := OwnI.lit w.heap.size w (Nat.le_refl _) [] (by unfold maxLen; simp) #[] rfl 0 rfl
  replace ho := Lib.hid ho
  replace h := Lib.hid (h.below b0)
  go_enter Tryd.func8, Tryd.ntmps8
  go_wp2_with (at_builtin; refine wpl_append rfl _ _ rfl w.heap.size _ v [] xs ho.out h.out rfl rfl (by simpa using hl) (by simp) ?_)
  intro v' w' h2 h3 _ _
  go_wp2
  go_ret
  exact ⟨_, rfl, Below.trans (b0.mono (Nat.le_refl _)) h3, h2⟩
end Go.Proofs.YtilpckngghffoaaDoor
