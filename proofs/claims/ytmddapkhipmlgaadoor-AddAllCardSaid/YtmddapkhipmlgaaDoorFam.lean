/-
  Several owned lists, each in blocks of its own: what Apart asks.
-/
import Derived.Test.YtmddapkhipmlgaaDoorApart
namespace Go.Proofs.YtmddapkhipmlgaaDoor
open Go.RowKit

theorem Below.step {w1 w2 w3 : World} (h : Below w1.heap.size w1 w2) (k : Below w2.heap.size w2 w3) : Below w1.heap.size w1 w3 := h.trans (k.mono h.size)
theorem belowAlloc (w : World) (o : Obj) : Below w.heap.size w (w.alloc o) := (Below.refl _ _).alloc (Nat.le_refl _) _

/-- Lists of their own, from block lo on, one behind the other. -/
def Owns (w : World) : Nat → List Value → List (List Int) → Prop
  | lo, [], [] => lo ≤ w.heap.size
  | lo, v :: vs, x :: xs => ∃ hi, lo ≤ hi ∧ OwnI lo w v x ∧ (∀ k, v.ownBlock = some k → k < hi) ∧ Owns w hi vs xs
  | _, _, _ => False

theorem Owns.get {w : World} : ∀ {vs : List Value} {xs : List (List Int)} {lo : Nat}, Owns w lo vs xs → vs.length = xs.length ∧ ∀ t, t < vs.length → OwnI lo w (vAt vs t) (xs.getD t [])
  | [], [], _, _ => ⟨rfl, by intro t h; simp at h⟩
  | v :: vs, x :: xs, lo, ⟨hi, hle, ho, _, hr⟩ => by
    obtain ⟨hl, hg⟩ := Owns.get hr
    refine ⟨by simp [hl], fun t ht => ?_⟩
    cases t with
    | zero => exact ho
    | succ t => exact (hg t (by simpa using ht)).mono hle
  | [], _ :: _, _, h => h.elim
  | _ :: _, [], _, h => h.elim

theorem Owns.two {w : World} : ∀ {vs : List Value} {xs : List (List Int)} {lo : Nat}, Owns w lo vs xs → ∀ s t, s < vs.length → t < vs.length → s ≠ t → (vAt vs s).ownBlock = none ∨ (vAt vs s).ownBlock ≠ (vAt vs t).ownBlock
  | [], [], _, _, s, t, hs, _, _ => by simp at hs
  | v :: vs, x :: xs, lo, ⟨hi, hle, ho, hlt, hr⟩, s, t, hs, ht, hne => by
    have hg := (Owns.get hr).2
    have key : ∀ t, t < vs.length → ∀ k, v.ownBlock = some k → (vAt vs t).ownBlock ≠ some k := fun t ht k hk e => by
      have h1 := hlt k hk
      have h2 := ((hg t ht).lt k e).1
      omega
    match s, t, hs, ht, hne with
    | 0, 0, _, _, hne => exact absurd rfl hne
    | 0, t + 1, _, ht, _ =>
      show v.ownBlock = none ∨ v.ownBlock ≠ (vAt vs t).ownBlock
      cases hk : v.ownBlock with
      | none => exact .inl rfl
      | some k => exact .inr fun e => key t (by simpa using ht) k hk e.symm
    | s + 1, 0, hs, _, _ =>
      show (vAt vs s).ownBlock = none ∨ (vAt vs s).ownBlock ≠ v.ownBlock
      cases hk : v.ownBlock with
      | none => cases (vAt vs s).ownBlock <;> simp
      | some k => exact .inr (key s (by simpa using hs) k hk)
    | s + 1, t + 1, hs, ht, hne => exact Owns.two hr s t (by simpa using hs) (by simpa using ht) (by omega)
  | [], _ :: _, _, h, _, _, _, _, _ => h.elim
  | _ :: _, [], _, h, _, _, _, _, _ => h.elim

theorem Owns.lo_le {w : World} : ∀ {vs : List Value} {xs : List (List Int)} {lo : Nat}, Owns w lo vs xs → lo ≤ w.heap.size
  | [], [], _, h => h
  | _ :: _, _ :: _, _, ⟨_, hle, _, _, hr⟩ => Nat.le_trans hle (Owns.lo_le hr)
  | [], _ :: _, _, h => h.elim
  | _ :: _, [], _, h => h.elim

theorem Owns.alloc {w : World} (o : Obj) : ∀ {vs : List Value} {xs : List (List Int)} {lo : Nat}, Owns w lo vs xs → Owns (w.alloc o) lo vs xs
  | [], [], lo, h => by show lo ≤ (w.alloc o).heap.size; have : lo ≤ w.heap.size := h; simp; omega
  | v :: vs, x :: xs, lo, ⟨hi, hle, ho, hlt, hr⟩ => ⟨hi, hle, ho.alloc o, hlt, Owns.alloc o hr⟩
  | [], _ :: _, _, h => h.elim
  | _ :: _, [], _, h => h.elim

/-- Apart, called with a literal list of such lists. -/
theorem apart_lit (vs : List Value) (xs : List (List Int)) (lo : Nat) (w : World) (h : Owns w lo vs xs) (hn : vs.length ≤ 100) (hx : ∀ x ∈ xs, x.length ≤ 1099511627776) (cs : Array Value) (hcs : cs.toList = vs) (n : Nat) (hnn : n = vs.length) :
    Calls Tryd.prog 18 #[.slice (some ⟨w.heap.size, 0, none⟩) n n] (w.alloc (.cells cs 22)) fun e w' => e = .returned (.bool true) ∧ Below lo (w.alloc (.cells cs 22)) w' := by
  subst hnn
  obtain ⟨hl, hg⟩ := h.get
  have hs : cs.size = vs.length * 1 := by rw [← Array.length_toList, hcs]; simp
  have hm : vs.length ≤ maxLen := by unfold maxLen; omega
  have hv : ValsAt (w.alloc (.cells cs 22)) (.slice (some ⟨w.heap.size, 0, none⟩) vs.length vs.length) vs := by
    have := World.ownsRow_lit (base := 0) (e := 22) (size := 1) w cs vs.length (Nat.zero_le _) hm hs
    rw [hcs] at this
    exact OwnV.at (E := 22) (B := 0) this
  refine apart_any lo _ vs (fun t => xs.getD t []) _ hv hn (fun t ht => ?_) (fun t ht => (hg t ht).alloc _) ⟨h.two, fun i t hi ht e => ?_⟩ (by have := h.lo_le; simp; omega)
  · have : t < xs.length := by omega
    simp only [List.getD, List.getElem?_eq_getElem this, Option.getD_some]
    exact hx _ (List.getElem_mem this)
  · rw [valAt_row] at e
    have := ((hg t ht).lt _ e).2
    simp at this
end Go.Proofs.YtmddapkhipmlgaaDoor
