/-
  Plain mathematics: graphs: what leads where; Tarjan's search and the parts that it tells.
  Plain mathematics of layer 13: pairs of nodes, their arrows; words and the nodes along them.
  Plain mathematics of layer 15: twins, and the ways from a pair of equal nodes through pairs that are apart to a pair of equal nodes.
  Plain mathematics of layer 7: the symbol of a row at a place, pieces of rows, twins in a row.
  Walk: word.Text: a word's symbols as digits.
  Several rows of memory of one's own, under names, no two in one block: what a store, an append, a new row does to them.
  Plain mathematics of layers 6 and 14: the image of a ring; the first two of a row of lists that are one.
  Plain mathematics: a rule with a greater radius.
  Plain mathematics of layer 14: rows along vertices without ends, their images.
  Plain mathematics: the image and the twins of a mirrored rule.
  Plain mathematics of layer 14: words of any length that differ in the middle and have one image; the theorem of the garden of Eden, one half.
  Plain facts: a ring's windows; two rings with one image tell that a rule is not one to one.
  Plain mathematics: numbers given one after another, as new ones come.
  A map from texts to lists that the call made: what is looked up, stored.
  edenraw.Err in memory; walks: edenraw.Root, New, Under, (Err).Bad.
  Walks: edenref03.Bad, edenref04.Power, Digits, Check.
  Walks: package additive.
  Walks: edenref18.Fault.
  Walk: edenraw.Under at an error.
  Walks: errors.Is and errors.As at a chain of Faults; the model's entries for internal/reflectlite at this program's types (after the kit's worked example Toyas).
  The model's entries for internal/reflectlite at a *api.Fault and at the address of a variable of that type (after the kit's worked example Toyas).
  Walk: errors.As at a Fault (after the kit's worked example Toyas).
  Walk: edenraw.Is at an error that is what it must be.
  Plain law of AddParts: a table is a sum just if each window is the sum of two.
  Plain mathematics of AddSums: a product may be turned; the factors of a sum at one symbol alone; factors taken modulo k.
  Plain mathematics: the reference's sums, window by window; what it tells by the factors; its products.
  Walk: edenref18.Sum.
  Walk: edenref18.Make.
  Walks: additive.Of.
  Walks: additive.Onto, additive.One.
  Walks: edenref18.Onto, One.
  Walk: edenref18.One.
  Errors as edenraw.Is takes them: a number from 1 to 11, few packages.
  Plain mathematics: the reference's factors of a rule, the first found first.
  Walk: edenref18.Of.
  Walk: rule.Step at a rule and a word of its symbols.
  Walks: forms.symbol, forms.behind$1.
  Walk: forms.made, with a function that holds two things.
  Walks: forms.behind, forms.check, forms.wrong, forms.Compose.
-/
import Derived.Test.YtilpckngghffoaaGreatDoorMIk1
import Derived.Laws.BytesArg
import Derived.Maps.OwnSet
import Derived.StringKeys
import Derived.Deep.RegionLawGrows
import Derived.Deep.RegionHeld3
import Derived.LaidEql
import Derived.Stop.Asserts
import Derived.RowKitTokens
import Derived.Deep.LoopGhost
import Derived.Deep.RegionWith
import Derived.RegionTactic
namespace Go.Proofs.YtilpckngghffoaaGreatDoor

/-- There is a way. -/
inductive Goes (adj : Nat → List Nat) : Nat → Nat → Prop
  | refl (x : Nat) : Goes adj x x
  | step {x y z : Nat} (h : Goes adj x y) (hz : z ∈ adj y) : Goes adj x z
theorem Goes.one {adj : Nat → List Nat} {x y : Nat} (h : y ∈ adj x) : Goes adj x y := .step (.refl x) h
theorem Goes.trans {adj : Nat → List Nat} {x y z : Nat} (h : Goes adj x y) (h2 : Goes adj y z) : Goes adj x z := by
  induction h2 with
  | refl => exact h
  | step _ hz ih => exact .step ih hz
theorem Goes.closed {adj : Nat → List Nat} {P : Nat → Prop} (hP : ∀ x, P x → ∀ t ∈ adj x, P t) {x y : Nat} (h : Goes adj x y) (hx : P x) : P y := by
  induction h with
  | refl => exact hx
  | step _ hz ih => exact hP _ ih _ hz

/-- A function with one value changed. -/
def updN {α : Type} (f : Nat → α) (v : Nat) (a : α) : Nat → α := fun x => if x = v then a else f x
theorem updN_same {α : Type} (f : Nat → α) (v : Nat) (a : α) : updN f v a v = a := by simp [updN]
theorem updN_other {α : Type} (f : Nat → α) (v : Nat) (a : α) {x : Nat} (h : x ≠ v) : updN f v a x = f x := by simp [updN, h]
theorem updN_self {α : Type} (f : Nat → α) (v : Nat) : updN f v (f v) = f := by funext x; by_cases h : x = v <;> simp [updN, h]

/-- The search's state: tops at the head. -/
structure TS where
  time : Nat
  low : Nat → Nat
  found : Nat → Nat
  idx : Nat → Nat
  opn : List Nat
  part : Nat → Int
  calls : List Nat

def enterS (S : TS) (v : Nat) : TS := { S with time := S.time + 1, low := updN S.low v (S.time + 1), found := updN S.found v (S.time + 1), idx := updN S.idx v 0, opn := v :: S.opn, calls := v :: S.calls }
/-- A part is closed: the stack's vertices down to v. -/
def closeS (v : Nat) : List Nat → (Nat → Int) → List Nat × (Nat → Int)
  | [], p => ([], p)
  | t :: r, p => if t = v then (r, updN p t v) else closeS v r (updN p t v)
def lowS (low : Nat → Nat) (v : Nat) : List Nat → Nat → Nat
  | [] => low
  | u :: _ => updN low u (min (low u) (low v))
def leaveS (S : TS) (v : Nat) (r : List Nat) : TS :=
  if lowS S.low v r v = S.found v then { S with low := lowS S.low v r, calls := r, opn := (closeS v S.opn S.part).1, part := (closeS v S.opn S.part).2 }
  else { S with low := lowS S.low v r, calls := r }
/-- One round of the search. -/
def stepS (adj : Nat → List Nat) (S : TS) : TS :=
  match S.calls with
  | [] => S
  | v :: r =>
    if S.idx v = (adj v).length then leaveS S v r
    else
      let t := (adj v).getD (S.idx v) 0
      let S1 := { S with idx := updN S.idx v (S.idx v + 1) }
      if S.found t = 0 then enterS S1 t
      else if S.part t < 0 then { S1 with low := updN S.low v (min (S.low v) (S.found t)) }
      else S1

theorem stepS_nil {adj : Nat → List Nat} {S : TS} (hc : S.calls = []) : stepS adj S = S := by
  cases S; simp only at hc; subst hc; rfl
theorem stepS_cons {adj : Nat → List Nat} {S : TS} {v : Nat} {r : List Nat} (hc : S.calls = v :: r) : stepS adj S =
    if S.idx v = (adj v).length then leaveS S v r
    else if S.found ((adj v).getD (S.idx v) 0) = 0 then enterS { S with idx := updN S.idx v (S.idx v + 1) } ((adj v).getD (S.idx v) 0)
    else if S.part ((adj v).getD (S.idx v) 0) < 0 then { S with idx := updN S.idx v (S.idx v + 1), low := updN S.low v (min (S.low v) (S.found ((adj v).getD (S.idx v) 0))) }
    else { S with idx := updN S.idx v (S.idx v + 1) } := by
  cases S; simp only at hc; subst hc; rfl

/-- The weights of the vertices not yet found. -/
def wsum (c found : Nat → Nat) : Nat → Nat
  | 0 => 0
  | n + 1 => wsum c found n + if found n = 0 then c n else 0
theorem wsum_upd (c found : Nat → Nat) (t a : Nat) (ha : a ≠ 0) (ht : found t = 0) (n : Nat) :
    wsum c (updN found t a) n + (if t < n then c t else 0) = wsum c found n := by
  induction n with
  | zero => simp [wsum]
  | succ n ih =>
    simp only [wsum]
    by_cases e : n = t
    · subst e
      rw [if_neg (Nat.lt_irrefl n)] at ih
      rw [updN_same, if_neg ha, if_pos ht, if_pos (by omega)]; omega
    · rw [updN_other _ _ _ e]
      by_cases h : t < n
      · rw [if_pos h] at ih; rw [if_pos (show t < n + 1 by omega)]; omega
      · rw [if_neg h] at ih; rw [if_neg (show ¬ t < n + 1 by omega)]; omega

structure TInv (n : Nat) (adj : Nat → List Nat) (S : TS) : Prop where
  adjLt : ∀ v, v < n → ∀ t ∈ adj v, t < n
  seenLt : ∀ v, S.found v ≠ 0 → v < n
  leTime : ∀ v, S.found v ≤ S.time
  count : S.time + wsum (fun _ => 1) S.found n = n
  inj : ∀ x y, S.found x = S.found y → S.found x ≠ 0 → x = y
  opnIff : ∀ v, v ∈ S.opn ↔ S.found v ≠ 0 ∧ S.part v < 0
  opnSorted : S.opn.Pairwise (fun a b => S.found b < S.found a)
  callsSorted : S.calls.Pairwise (fun a b => S.found b < S.found a)
  callsOpen : ∀ c ∈ S.calls, c ∈ S.opn
  idxLe : ∀ v, v ∈ S.opn → S.idx v ≤ (adj v).length
  idxDone : ∀ v, v ∈ S.opn → v ∉ S.calls → S.idx v = (adj v).length
  partSeen : ∀ v, 0 ≤ S.part v → S.found v ≠ 0
  partLow : ∀ v, -1 ≤ S.part v
  A : ∀ c ∈ S.calls, ∀ x ∈ S.opn, S.found c ≤ S.found x → Goes adj c x
  B : ∀ x ∈ S.opn, ∃ c ∈ S.calls, S.found c ≤ S.found x ∧ Goes adj x c
  C : ∀ x, 0 ≤ S.part x → ∀ t ∈ adj x, 0 ≤ S.part t
  D : ∀ x ∈ S.opn, ∀ j < S.idx x, ∀ t, (adj x)[j]? = some t → S.found t ≠ 0
  E : ∀ x ∈ S.opn, ∀ j < S.idx x, ∀ t ∈ S.opn, (adj x)[j]? = some t → ∀ c ∈ S.calls, S.found c ≤ S.found x →
        (∀ d ∈ S.calls, S.found d ≤ S.found x → S.found d ≤ S.found c) → S.low c ≤ S.found t
  F : ∀ c ∈ S.calls, S.low c ≤ S.found c
  G : ∀ c ∈ S.calls, ∃ z ∈ S.opn, S.found z = S.low c ∧ Goes adj c z
  P1 : ∀ x, 0 ≤ S.part x → ∃ p : Nat, S.part x = p ∧ 0 ≤ S.part p ∧ Goes adj x p ∧ Goes adj p x
  P2 : ∀ x y, 0 ≤ S.part x → 0 ≤ S.part y → Goes adj x y → Goes adj y x → S.part x = S.part y

variable {n : Nat} {adj : Nat → List Nat} {S : TS}

theorem TInv.callsSeen (h : TInv n adj S) {c : Nat} (hc : c ∈ S.calls) : S.found c ≠ 0 ∧ S.part c < 0 := (h.opnIff c).1 (h.callsOpen c hc)
/-- Nothing is open when nothing is called. -/
theorem TInv.opn_nil (h : TInv n adj S) (hc : S.calls = []) : S.opn = [] := by
  cases e : S.opn with
  | nil => rfl
  | cons x l =>
    obtain ⟨c, hm, _⟩ := h.B x (by rw [e]; exact List.mem_cons_self)
    rw [hc] at hm; cases hm

/-- A root is begun. -/
theorem TInv.enterRoot (h : TInv n adj S) (hc : S.calls = []) {v : Nat} (hv : v < n) (hw : S.found v = 0) : TInv n adj (enterS S v) := by
  have ho := h.opn_nil hc
  have hp : S.part v < 0 := by
    by_cases hp : S.part v < 0
    · exact hp
    · exact absurd hw (h.partSeen v (by omega))
  have hcnt := wsum_upd (fun _ => 1) S.found v (S.time + 1) (by omega) hw n
  rw [if_pos hv] at hcnt
  have hcl : ∀ x, 0 ≤ S.part x → x ≠ v := fun x hx e => by subst e; omega
  constructor
  case adjLt => exact h.adjLt
  case seenLt =>
    intro x hx
    by_cases e : x = v
    · omega
    · simp only [enterS, updN_other _ _ _ e] at hx; exact h.seenLt x hx
  case leTime =>
    intro x
    simp only [enterS]
    by_cases e : x = v
    · subst e; rw [updN_same]; omega
    · rw [updN_other _ _ _ e]; have := h.leTime x; omega
  case count => simp only [enterS]; have := h.count; omega
  case inj =>
    intro x y hxy hx
    simp only [enterS] at hxy hx
    by_cases ex : x = v <;> by_cases ey : y = v
    · omega
    · subst ex; rw [updN_same, updN_other _ _ _ ey] at hxy; have := h.leTime y; omega
    · subst ey; rw [updN_same, updN_other _ _ _ ex] at hxy; have := h.leTime x; omega
    · rw [updN_other _ _ _ ex, updN_other _ _ _ ey] at hxy; rw [updN_other _ _ _ ex] at hx; exact h.inj x y hxy hx
  case opnIff =>
    intro x
    simp only [enterS, ho, List.mem_singleton]
    by_cases e : x = v
    · subst e; rw [updN_same]; exact ⟨fun _ => ⟨by omega, hp⟩, fun _ => rfl⟩
    · rw [updN_other _ _ _ e]
      refine ⟨fun h1 => absurd h1 e, fun h1 => ?_⟩
      have := (h.opnIff x).2 h1; rw [ho] at this; cases this
  case opnSorted => simp only [enterS, ho]; exact List.pairwise_singleton _ _
  case callsSorted => simp only [enterS, hc]; exact List.pairwise_singleton _ _
  case callsOpen => intro c hc2; simp only [enterS, hc, ho] at hc2 ⊢; exact hc2
  case idxLe =>
    intro x hx; simp only [enterS, ho, List.mem_singleton] at hx ⊢; subst hx; rw [updN_same]; omega
  case idxDone => intro x hx hx2; simp only [enterS, hc, ho] at hx hx2; exact absurd hx hx2
  case partSeen =>
    intro x hx; simp only [enterS] at hx ⊢; rw [updN_other _ _ _ (hcl x hx)]; exact h.partSeen x hx
  case partLow => exact h.partLow
  case A =>
    intro c hc2 x hx _
    simp only [enterS, hc, ho, List.mem_singleton] at hc2 hx
    subst hc2; subst hx; exact .refl _
  case B =>
    intro x hx
    simp only [enterS, ho, List.mem_singleton] at hx
    subst hx; exact ⟨x, by simp [enterS], Nat.le_refl _, .refl _⟩
  case C => exact h.C
  case D =>
    intro x hx j hj; simp only [enterS, ho, List.mem_singleton] at hx hj; subst hx; rw [updN_same] at hj; omega
  case E =>
    intro x hx j hj; simp only [enterS, ho, List.mem_singleton] at hx hj; subst hx; rw [updN_same] at hj; omega
  case F =>
    intro c hc2; simp only [enterS, hc, List.mem_singleton] at hc2 ⊢; subst hc2; rw [updN_same, updN_same]; exact Nat.le_refl _
  case G =>
    intro c hc2; simp only [enterS, hc, List.mem_singleton] at hc2 ⊢; subst hc2; exact ⟨c, List.mem_cons_self, by rw [updN_same, updN_same], .refl _⟩
  case P1 => exact h.P1
  case P2 => exact h.P2

/-- An arrow to a vertex not yet found. -/
theorem TInv.enterEdge (h : TInv n adj S) {v : Nat} {r : List Nat} (hc : S.calls = v :: r) {t : Nat} (ht : (adj v)[S.idx v]? = some t) (hw : S.found t = 0) :
    TInv n adj (enterS { S with idx := updN S.idx v (S.idx v + 1) } t) := by
  have hvc : v ∈ S.calls := by rw [hc]; exact List.mem_cons_self
  have hvo := h.callsOpen v hvc
  have hvs := h.callsSeen hvc
  have hvn := h.seenLt v hvs.1
  have htm : t ∈ adj v := List.mem_of_getElem? ht
  have htn := h.adjLt v hvn t htm
  have hil : S.idx v < (adj v).length := by
    by_cases q : S.idx v < (adj v).length
    · exact q
    · rw [List.getElem?_eq_none (by omega)] at ht; cases ht
  have hp : S.part t < 0 := by
    by_cases hp : S.part t < 0
    · exact hp
    · exact absurd hw (h.partSeen t (by omega))
  have hcnt := wsum_upd (fun _ => 1) S.found t (S.time + 1) (by omega) hw n
  rw [if_pos htn] at hcnt
  have hcl : ∀ x, 0 ≤ S.part x → x ≠ t := fun x hx e => by subst e; omega
  have hop : ∀ x, x ∈ S.opn → x ≠ t := fun x hx e => by subst e; exact ((h.opnIff x).1 hx).1 hw
  have hca : ∀ x, x ∈ S.calls → x ≠ t := fun x hx => hop x (h.callsOpen x hx)
  have fo : ∀ x, x ∈ S.opn → updN S.found t (S.time + 1) x = S.found x := fun x hx => updN_other _ _ _ (hop x hx)
  have fc : ∀ x, x ∈ S.calls → updN S.found t (S.time + 1) x = S.found x := fun x hx => updN_other _ _ _ (hca x hx)
  have lc : ∀ x, x ∈ S.calls → updN S.low t (S.time + 1) x = S.low x := fun x hx => updN_other _ _ _ (hca x hx)
  have ft : updN S.found t (S.time + 1) t = S.time + 1 := updN_same _ _ _
  have lt : updN S.low t (S.time + 1) t = S.time + 1 := updN_same _ _ _
  have hgt : ∀ c ∈ S.calls, Goes adj c t := fun c hcm => by
    refine .step (h.A c hcm v hvo ?_) htm
    have := h.callsSorted
    rw [hc] at this hcm
    rcases List.mem_cons.1 hcm with e | e
    · rw [e]; exact Nat.le_refl _
    · exact Nat.le_of_lt ((List.pairwise_cons.1 this).1 c e)
  have ix : ∀ x, x ∈ S.opn → ∀ j, j < updN (updN S.idx v (S.idx v + 1)) t 0 x → j < S.idx x ∨ (x = v ∧ j = S.idx v) := fun x hx j hj => by
    rw [updN_other _ _ _ (hop x hx)] at hj
    by_cases e : x = v
    · subst e; rw [updN_same] at hj; omega
    · rw [updN_other _ _ _ e] at hj; exact .inl hj
  have mono : ∀ x, S.found x ≠ 0 → updN S.found t (S.time + 1) x ≠ 0 := fun x hx => by
    by_cases e : x = t
    · subst e; exact absurd hw hx
    · rw [updN_other _ _ _ e]; exact hx
  constructor
  case adjLt => exact h.adjLt
  case seenLt =>
    intro x hx
    by_cases e : x = t
    · omega
    · simp only [enterS, updN_other _ _ _ e] at hx; exact h.seenLt x hx
  case leTime =>
    intro x
    simp only [enterS]
    by_cases e : x = t
    · subst e; rw [updN_same]; omega
    · rw [updN_other _ _ _ e]; have := h.leTime x; omega
  case count => simp only [enterS]; have := h.count; omega
  case inj =>
    intro x y hxy hx
    simp only [enterS] at hxy hx
    by_cases ex : x = t <;> by_cases ey : y = t
    · omega
    · subst ex; rw [updN_same, updN_other _ _ _ ey] at hxy; have := h.leTime y; omega
    · subst ey; rw [updN_same, updN_other _ _ _ ex] at hxy; have := h.leTime x; omega
    · rw [updN_other _ _ _ ex, updN_other _ _ _ ey] at hxy; rw [updN_other _ _ _ ex] at hx; exact h.inj x y hxy hx
  case opnIff =>
    intro x
    simp only [enterS, List.mem_cons]
    by_cases e : x = t
    · subst e; rw [updN_same]; exact ⟨fun _ => ⟨by omega, hp⟩, fun _ => .inl rfl⟩
    · rw [updN_other _ _ _ e, ← h.opnIff x]
      exact ⟨fun h1 => h1.resolve_left e, .inr⟩
  case opnSorted =>
    simp only [enterS]
    refine List.pairwise_cons.2 ⟨fun x hx => ?_, h.opnSorted.imp_of_mem fun ha hb hab => ?_⟩
    · rw [fo x hx, ft]; have := h.leTime x; omega
    · rw [fo _ ha, fo _ hb]; exact hab
  case callsSorted =>
    simp only [enterS]
    refine List.pairwise_cons.2 ⟨fun x hx => ?_, h.callsSorted.imp_of_mem fun ha hb hab => ?_⟩
    · rw [fc x hx, ft]; have := h.leTime x; omega
    · rw [fc _ ha, fc _ hb]; exact hab
  case callsOpen =>
    intro c hc2; simp only [enterS, List.mem_cons] at hc2 ⊢; exact hc2.imp id (h.callsOpen c)
  case idxLe =>
    intro x hx; simp only [enterS, List.mem_cons] at hx ⊢
    rcases hx with rfl | hx
    · rw [updN_same]; omega
    · rw [updN_other _ _ _ (hop x hx)]
      by_cases e : x = v
      · subst e; rw [updN_same]; omega
      · rw [updN_other _ _ _ e]; exact h.idxLe x hx
  case idxDone =>
    intro x hx hx2; simp only [enterS, List.mem_cons, not_or] at hx hx2 ⊢
    have hx3 := hx.resolve_left hx2.1
    rw [updN_other _ _ _ hx2.1, updN_other _ _ _ (fun e => hx2.2 (by rw [e]; exact hvc))]
    exact h.idxDone x hx3 hx2.2
  case partSeen =>
    intro x hx; simp only [enterS] at hx ⊢; rw [updN_other _ _ _ (hcl x hx)]; exact h.partSeen x hx
  case partLow => exact h.partLow
  case A =>
    intro c hc2 x hx hle
    simp only [enterS, List.mem_cons] at hc2 hx hle
    rcases hc2 with rfl | hc2
    · rcases hx with rfl | hx
      · exact .refl _
      · rw [ft, fo x hx] at hle; have := h.leTime x; omega
    · rcases hx with rfl | hx
      · exact hgt c hc2
      · rw [fo x hx, fc c hc2] at hle; exact h.A c hc2 x hx hle
  case B =>
    intro x hx
    simp only [enterS, List.mem_cons] at hx
    rcases hx with rfl | hx
    · exact ⟨x, by simp [enterS], Nat.le_refl _, .refl _⟩
    · obtain ⟨c, h1, h2, h3⟩ := h.B x hx
      refine ⟨c, by simp only [enterS, List.mem_cons]; exact .inr h1, ?_, h3⟩
      simp only [enterS]; rw [fo x hx, fc c h1]; exact h2
  case C => exact h.C
  case D =>
    intro x hx j hj t' ht'
    simp only [enterS, List.mem_cons] at hx hj ⊢
    rcases hx with rfl | hx
    · rw [updN_same] at hj; omega
    · rcases ix x hx j hj with hj | ⟨rfl, rfl⟩
      · exact mono _ (h.D x hx j hj t' ht')
      · rw [ht] at ht'; cases ht'; rw [ft]; omega
  case E =>
    intro x hx j hj t' hto ht' c hc2 hle htop
    simp only [enterS, List.mem_cons] at hx hj hto hc2 hle htop ⊢
    rcases hx with rfl | hx
    · rw [updN_same] at hj; omega
    · rcases hc2 with rfl | hc2
      · rw [ft, fo x hx] at hle; have := h.leTime x; omega
      · rw [fc c hc2, fo x hx] at hle
        rw [lc c hc2]
        rcases hto with rfl | hto
        · rw [ft]; have := h.F c hc2; have := h.leTime c; omega
        · rw [fo _ hto]
          rcases ix x hx j hj with hj | ⟨rfl, rfl⟩
          · refine h.E x hx j hj t' hto ht' c hc2 hle fun d hd hd2 => ?_
            have := htop d (.inr hd) (by rw [fc d hd, fo x hx]; exact hd2)
            rwa [fc d hd, fc c hc2] at this
          · rw [ht] at ht'; cases ht'; exact absurd rfl (hop _ hto)
  case F =>
    intro c hc2; simp only [enterS, List.mem_cons] at hc2 ⊢
    rcases hc2 with rfl | hc2
    · rw [updN_same, updN_same]; exact Nat.le_refl _
    · rw [lc c hc2, fc c hc2]; exact h.F c hc2
  case G =>
    intro c hc2; simp only [enterS, List.mem_cons] at hc2 ⊢
    rcases hc2 with rfl | hc2
    · exact ⟨c, .inl rfl, by rw [updN_same, updN_same], .refl _⟩
    · obtain ⟨z, h1, h2, h3⟩ := h.G c hc2
      exact ⟨z, .inr h1, by rw [lc c hc2, fo z h1]; exact h2, h3⟩
  case P1 => exact h.P1
  case P2 => exact h.P2

/-- An arrow to a vertex that is found already. -/
theorem TInv.edge (h : TInv n adj S) {v : Nat} {r : List Nat} (hc : S.calls = v :: r) {t : Nat} (ht : (adj v)[S.idx v]? = some t) (hw : S.found t ≠ 0) (lo : Nat → Nat)
    (hlo : ∀ c, c ≠ v → lo c = S.low c) (hle : lo v ≤ S.low v) (hlt : S.part t < 0 → lo v ≤ S.found t) (hlg : lo v = S.low v ∨ (S.part t < 0 ∧ lo v = S.found t)) :
    TInv n adj { S with idx := updN S.idx v (S.idx v + 1), low := lo } := by
  have hvc : v ∈ S.calls := by rw [hc]; exact List.mem_cons_self
  have hvo := h.callsOpen v hvc
  have htm : t ∈ adj v := List.mem_of_getElem? ht
  have hil : S.idx v < (adj v).length := by
    by_cases q : S.idx v < (adj v).length
    · exact q
    · rw [List.getElem?_eq_none (by omega)] at ht; cases ht
  have lol : ∀ c, lo c ≤ S.low c := fun c => by
    by_cases e : c = v
    · rw [e]; exact hle
    · rw [hlo c e]; exact Nat.le_refl _
  have ix : ∀ x, ∀ j, j < updN S.idx v (S.idx v + 1) x → j < S.idx x ∨ (x = v ∧ j = S.idx v) := fun x j hj => by
    by_cases e : x = v
    · subst e; rw [updN_same] at hj; omega
    · rw [updN_other _ _ _ e] at hj; exact .inl hj
  constructor
  case adjLt => exact h.adjLt
  case seenLt => exact h.seenLt
  case leTime => exact h.leTime
  case count => exact h.count
  case inj => exact h.inj
  case opnIff => exact h.opnIff
  case opnSorted => exact h.opnSorted
  case callsSorted => exact h.callsSorted
  case callsOpen => exact h.callsOpen
  case idxLe =>
    intro x hx
    show updN S.idx v (S.idx v + 1) x ≤ _
    by_cases e : x = v
    · subst e; rw [updN_same]; omega
    · rw [updN_other _ _ _ e]; exact h.idxLe x hx
  case idxDone =>
    intro x hx hx2
    show updN S.idx v (S.idx v + 1) x = _
    rw [updN_other _ _ _ (fun e => hx2 (by rw [e]; exact hvc))]
    exact h.idxDone x hx hx2
  case partSeen => exact h.partSeen
  case partLow => exact h.partLow
  case A => exact h.A
  case B => exact h.B
  case C => exact h.C
  case D =>
    intro x hx j hj t' ht'
    rcases ix x j hj with hj | ⟨rfl, rfl⟩
    · exact h.D x hx j hj t' ht'
    · rw [ht] at ht'; cases ht'; exact hw
  case E =>
    intro x hx j hj t' hto ht' c hc2 hcx htop
    show lo c ≤ _
    rcases ix x j hj with hj | ⟨rfl, rfl⟩
    · exact Nat.le_trans (lol c) (h.E x hx j hj t' hto ht' c hc2 hcx htop)
    · rw [ht] at ht'; cases ht'
      have e : c = x := by
        have h1 := htop x hvc (Nat.le_refl _)
        exact h.inj c x (by have h2 : S.found c ≤ S.found x := hcx; have h3 : S.found x ≤ S.found c := h1; omega) (h.callsSeen hc2).1
      subst e
      exact hlt ((h.opnIff t).1 hto).2
  case F => intro c hc2; exact Nat.le_trans (lol c) (h.F c hc2)
  case G =>
    intro c hc2
    show ∃ z ∈ S.opn, S.found z = lo c ∧ _
    by_cases e : c = v
    · subst e
      rcases hlg with e | ⟨e1, e2⟩
      · rw [e]; exact h.G c hc2
      · exact ⟨t, (h.opnIff t).2 ⟨hw, e1⟩, e2.symm, .one htm⟩
    · rw [hlo c e]; exact h.G c hc2
  case P1 => exact h.P1
  case P2 => exact h.P2

theorem TInv.low_eq (h : TInv n adj S) {v : Nat} {r : List Nat} (hc : S.calls = v :: r) : lowS S.low v r v = S.low v := by
  cases r with
  | nil => rfl
  | cons u r =>
    have := h.callsSorted
    rw [hc] at this
    have h1 := (List.pairwise_cons.1 this).1 u List.mem_cons_self
    exact updN_other _ _ _ (fun e => by subst e; omega)

/-- A vertex is left whose part begins lower. -/
theorem TInv.leaveN (h : TInv n adj S) {v : Nat} {r : List Nat} (hc : S.calls = v :: r) (hi : S.idx v = (adj v).length) (hl : S.low v ≠ S.found v) :
    TInv n adj { S with low := lowS S.low v r, calls := r } := by
  have hvc : v ∈ S.calls := by rw [hc]; exact List.mem_cons_self
  have hvo := h.callsOpen v hvc
  have hsrt := h.callsSorted
  rw [hc] at hsrt
  have hrl : ∀ c ∈ r, S.found c < S.found v := (List.pairwise_cons.1 hsrt).1
  have hsub : ∀ c ∈ r, c ∈ S.calls := fun c hm => by rw [hc]; exact List.mem_cons_of_mem _ hm
  have hcs : ∀ c ∈ S.calls, c = v ∨ c ∈ r := fun c hm => by rw [hc] at hm; exact List.mem_cons.1 hm
  have hF := h.F v hvc
  obtain ⟨z, hz1, hz2, hz3⟩ := h.G v hvc
  obtain ⟨g, hg1, hg2, hg3⟩ := h.B z hz1
  have hgr : g ∈ r := (hcs g hg1).resolve_left (fun e => by subst e; omega)
  obtain ⟨u, r', rfl⟩ : ∃ u r', r = u :: r' := by cases r with
    | nil => cases hgr
    | cons u r' => exact ⟨u, r', rfl⟩
  have hur : u ∈ u :: r' := List.mem_cons_self
  have huc := hsub u hur
  have hru : ∀ c ∈ u :: r', S.found c ≤ S.found u := fun c hm => by
    rcases List.mem_cons.1 hm with e | e
    · rw [e]; exact Nat.le_refl _
    · exact Nat.le_of_lt ((List.pairwise_cons.1 (List.pairwise_cons.1 hsrt).2).1 c e)
  have lol : ∀ c, lowS S.low v (u :: r') c ≤ S.low c := fun c => by
    show updN S.low u _ c ≤ _
    by_cases e : c = u
    · subst e; rw [updN_same]; omega
    · rw [updN_other _ _ _ e]; exact Nat.le_refl _
  have lou : lowS S.low v (u :: r') u = min (S.low u) (S.low v) := updN_same _ _ _
  have loc : ∀ c, c ≠ u → lowS S.low v (u :: r') c = S.low c := fun c e => updN_other _ _ _ e
  constructor
  case adjLt => exact h.adjLt
  case seenLt => exact h.seenLt
  case leTime => exact h.leTime
  case count => exact h.count
  case inj => exact h.inj
  case opnIff => exact h.opnIff
  case opnSorted => exact h.opnSorted
  case callsSorted => exact (List.pairwise_cons.1 hsrt).2
  case callsOpen => exact fun c hm => h.callsOpen c (hsub c hm)
  case idxLe => exact h.idxLe
  case idxDone =>
    intro x hx hx2
    show S.idx x = _
    by_cases e : x = v
    · rw [e]; exact hi
    · exact h.idxDone x hx (fun hm => (hcs x hm).elim e hx2)
  case partSeen => exact h.partSeen
  case partLow => exact h.partLow
  case A => exact fun c hm => h.A c (hsub c hm)
  case B =>
    intro x hx
    obtain ⟨c, h1, h2, h3⟩ := h.B x hx
    rcases hcs c h1 with rfl | hcr
    · refine ⟨g, hgr, ?_, h3.trans (hz3.trans hg3)⟩
      show S.found g ≤ S.found x
      omega
    · exact ⟨c, hcr, h2, h3⟩
  case C => exact h.C
  case D => exact h.D
  case E =>
    intro x hx j hj t hto ht c hc2 hcx htop
    have hcx : S.found c ≤ S.found x := hcx
    have htop : ∀ d ∈ u :: r', S.found d ≤ S.found x → S.found d ≤ S.found c := htop
    show lowS S.low v (u :: r') c ≤ S.found t
    by_cases hvx : S.found v ≤ S.found x
    · have hux := htop u hur (by have := hrl u hur; omega)
      have hcu := hru c hc2
      have e : c = u := h.inj c u (by omega) (h.callsSeen (hsub c hc2)).1
      rw [e, lou]
      have := h.E x hx j hj t hto ht v hvc hvx (fun d hd _ => by
        rcases hcs d hd with e | e
        · rw [e]; exact Nat.le_refl _
        · exact Nat.le_of_lt (hrl d e))
      omega
    · refine Nat.le_trans (lol c) (h.E x hx j hj t hto ht c (hsub c hc2) hcx fun d hd hdx => ?_)
      rcases hcs d hd with e | e
      · rw [e] at hdx; exact absurd hdx hvx
      · exact htop d e hdx
  case F => exact fun c hm => Nat.le_trans (lol c) (h.F c (hsub c hm))
  case G =>
    intro c hc2
    show ∃ z ∈ S.opn, S.found z = lowS S.low v (u :: r') c ∧ _
    by_cases e : c = u
    · subst e
      rw [lou]
      by_cases q : S.low v ≤ S.low c
      · rw [Nat.min_eq_right q]
        exact ⟨z, hz1, hz2, (h.A c huc v hvo (Nat.le_of_lt (hrl c hur))).trans hz3⟩
      · rw [Nat.min_eq_left (by omega)]; exact h.G c huc
    · rw [loc c e]; exact h.G c (hsub c hc2)
  case P1 => exact h.P1
  case P2 => exact h.P2

theorem closeS_spec (found : Nat → Nat) (v : Nat) : ∀ (l : List Nat) (p : Nat → Int), l.Pairwise (fun a b => found b < found a) → v ∈ l →
    (closeS v l p).1.Sublist l ∧ (∀ x, x ∈ (closeS v l p).1 ↔ x ∈ l ∧ found x < found v) ∧
    (∀ x, (x ∈ l ∧ found v ≤ found x) → (closeS v l p).2 x = (v : Int)) ∧ (∀ x, ¬ (x ∈ l ∧ found v ≤ found x) → (closeS v l p).2 x = p x) := by
  intro l
  induction l with
  | nil => intro p _ h; cases h
  | cons t r ih =>
    intro p hs hv
    have ⟨h1, h2⟩ := List.pairwise_cons.1 hs
    unfold closeS
    by_cases e : t = v
    · subst e
      rw [if_pos rfl]
      refine ⟨List.sublist_cons_self _ _, fun x => ?_, fun x ⟨hx, hf⟩ => ?_, fun x hx => ?_⟩
      · refine ⟨fun hx => ⟨List.mem_cons_of_mem _ hx, h1 x hx⟩, fun ⟨hx, hf⟩ => ?_⟩
        rcases List.mem_cons.1 hx with e | e
        · subst e; omega
        · exact e
      · rcases List.mem_cons.1 hx with e | e
        · subst e; exact updN_same _ _ _
        · have := h1 x e; omega
      · exact updN_other _ _ _ (fun e => hx (by rw [e]; exact ⟨List.mem_cons_self, Nat.le_refl _⟩))
    · rw [if_neg e]
      have hvr : v ∈ r := (List.mem_cons.1 hv).resolve_left (fun q => e q.symm)
      obtain ⟨i1, i2, i3, i4⟩ := ih (updN p t v) h2 hvr
      have htv := h1 v hvr
      refine ⟨i1.trans (List.sublist_cons_self _ _), fun x => ?_, fun x ⟨hx, hf⟩ => ?_, fun x hx => ?_⟩
      · rw [i2 x]
        refine ⟨fun ⟨a, b⟩ => ⟨List.mem_cons_of_mem _ a, b⟩, fun ⟨a, b⟩ => ⟨?_, b⟩⟩
        rcases List.mem_cons.1 a with e | e
        · subst e; omega
        · exact e
      · by_cases hxr : x ∈ r
        · exact i3 x ⟨hxr, hf⟩
        · rw [i4 x (fun q => hxr q.1)]
          rcases List.mem_cons.1 hx with e | e
          · subst e; exact updN_same _ _ _
          · exact absurd e hxr
      · rw [i4 x (fun q => hx ⟨List.mem_cons_of_mem _ q.1, q.2⟩)]
        exact updN_other _ _ _ (fun e => hx (by rw [e]; exact ⟨List.mem_cons_self, Nat.le_of_lt htv⟩))

/-- A vertex is left with which its part begins. -/
theorem TInv.leaveC (h : TInv n adj S) {v : Nat} {r : List Nat} (hc : S.calls = v :: r) (hi : S.idx v = (adj v).length) (hl : S.low v = S.found v) :
    TInv n adj { S with low := lowS S.low v r, calls := r, opn := (closeS v S.opn S.part).1, part := (closeS v S.opn S.part).2 } := by
  have hvc : v ∈ S.calls := by rw [hc]; exact List.mem_cons_self
  have hvo := h.callsOpen v hvc
  have hsrt := h.callsSorted
  rw [hc] at hsrt
  have hrl : ∀ c ∈ r, S.found c < S.found v := (List.pairwise_cons.1 hsrt).1
  have hsub : ∀ c ∈ r, c ∈ S.calls := fun c hm => by rw [hc]; exact List.mem_cons_of_mem _ hm
  have hcs : ∀ c ∈ S.calls, c = v ∨ c ∈ r := fun c hm => by rw [hc] at hm; exact List.mem_cons.1 hm
  have hlow : lowS S.low v r = S.low := by
    cases r with
    | nil => rfl
    | cons u r' =>
      have h1 := hrl u List.mem_cons_self
      have h2 := h.F u (hsub u List.mem_cons_self)
      show updN S.low u _ = _
      rw [Nat.min_eq_left (by omega), updN_self]
  rw [hlow]
  obtain ⟨k1, k2, k3, k4⟩ := closeS_spec S.found v S.opn S.part h.opnSorted hvo
  generalize (closeS v S.opn S.part).1 = O at *
  generalize (closeS v S.opn S.part).2 = P at *
  have seg : ∀ x, x ∈ S.opn → S.found v ≤ S.found x → Goes adj v x ∧ Goes adj x v := fun x hx hf => by
    refine ⟨h.A v hvc x hx hf, ?_⟩
    obtain ⟨c, h1, h2, h3⟩ := h.B x hx
    rcases hcs c h1 with e | e
    · rw [← e]; exact h3
    · exact h3.trans (h.A c h1 v hvo (Nat.le_of_lt (hrl c e)))
  have old : ∀ x, 0 ≤ S.part x → P x = S.part x := fun x hx => k4 x (fun q => by have := ((h.opnIff x).1 q.1).2; omega)
  have new : ∀ x, 0 ≤ P x → 0 ≤ S.part x ∨ (x ∈ S.opn ∧ S.found v ≤ S.found x) := fun x hx => by
    by_cases q : x ∈ S.opn ∧ S.found v ≤ S.found x
    · exact .inr q
    · rw [k4 x q] at hx; exact .inl hx
  have C2 : ∀ x, 0 ≤ P x → ∀ t ∈ adj x, 0 ≤ P t := fun x hx t ht => by
    rcases new x hx with hx | ⟨hxo, hxf⟩
    · have := h.C x hx t ht; rw [old t this]; exact this
    · obtain ⟨j, hj⟩ := List.mem_iff_getElem?.1 ht
      have hjl : j < (adj x).length := by
        by_cases q : j < (adj x).length
        · exact q
        · rw [List.getElem?_eq_none (by omega)] at hj; cases hj
      have hix : S.idx x = (adj x).length := by
        by_cases e : x = v
        · rw [e]; exact hi
        · refine h.idxDone x hxo (fun hm => ?_)
          rcases hcs x hm with q | q
          · exact e q
          · have := hrl x q; omega
      have hft := h.D x hxo j (by omega) t hj
      by_cases hp : 0 ≤ S.part t
      · rw [old t hp]; exact hp
      · have hto := (h.opnIff t).2 ⟨hft, by omega⟩
        have := h.E x hxo j (by omega) t hto hj v hvc hxf (fun d hd _ => by
          rcases hcs d hd with e | e
          · rw [e]; exact Nat.le_refl _
          · exact Nat.le_of_lt (hrl d e))
        rw [k3 t ⟨hto, by omega⟩]; omega
  constructor
  case adjLt => exact h.adjLt
  case seenLt => exact h.seenLt
  case leTime => exact h.leTime
  case count => exact h.count
  case inj => exact h.inj
  case opnIff =>
    intro x
    show x ∈ O ↔ S.found x ≠ 0 ∧ P x < 0
    rw [k2 x]
    constructor
    · rintro ⟨a, b⟩
      have := (h.opnIff x).1 a
      rw [k4 x (fun q => by omega)]; exact this
    · rintro ⟨a, b⟩
      by_cases q : x ∈ S.opn ∧ S.found v ≤ S.found x
      · rw [k3 x q] at b; omega
      · rw [k4 x q] at b
        have := (h.opnIff x).2 ⟨a, b⟩
        exact ⟨this, by have : ¬ S.found v ≤ S.found x := fun w => q ⟨this, w⟩; omega⟩
  case opnSorted => exact h.opnSorted.sublist k1
  case callsSorted => exact (List.pairwise_cons.1 hsrt).2
  case callsOpen => exact fun c hm => (k2 c).2 ⟨h.callsOpen c (hsub c hm), hrl c hm⟩
  case idxLe => exact fun x hx => h.idxLe x ((k2 x).1 hx).1
  case idxDone =>
    intro x hx hx2
    refine h.idxDone x ((k2 x).1 hx).1 (fun hm => ?_)
    rcases hcs x hm with e | e
    · have := ((k2 x).1 hx).2; subst e; omega
    · exact hx2 e
  case partSeen =>
    intro x hx
    rcases new x hx with q | q
    · exact h.partSeen x q
    · exact ((h.opnIff x).1 q.1).1
  case partLow =>
    intro x
    show -1 ≤ P x
    by_cases q : x ∈ S.opn ∧ S.found v ≤ S.found x
    · rw [k3 x q]; omega
    · rw [k4 x q]; exact h.partLow x
  case A => exact fun c hm x hx hf => h.A c (hsub c hm) x ((k2 x).1 hx).1 hf
  case B =>
    intro x hx
    have ⟨hx1, hx2⟩ := (k2 x).1 hx
    obtain ⟨c, h1, h2, h3⟩ := h.B x hx1
    rcases hcs c h1 with e | e
    · subst e; omega
    · exact ⟨c, e, h2, h3⟩
  case C => exact C2
  case D => exact fun x hx => h.D x ((k2 x).1 hx).1
  case E =>
    intro x hx j hj t hto ht c hc2 hcx htop
    have ⟨hx1, hx2⟩ := (k2 x).1 hx
    refine h.E x hx1 j hj t ((k2 t).1 hto).1 ht c (hsub c hc2) hcx fun d hd hdx => ?_
    rcases hcs d hd with e | e
    · subst e; omega
    · exact htop d e hdx
  case F => exact fun c hm => h.F c (hsub c hm)
  case G =>
    intro c hm
    obtain ⟨z, h1, h2, h3⟩ := h.G c (hsub c hm)
    have := h.F c (hsub c hm)
    have := hrl c hm
    exact ⟨z, (k2 z).2 ⟨h1, by omega⟩, h2, h3⟩
  case P1 =>
    intro x hx
    rcases new x hx with q | q
    · obtain ⟨p, a, b, c, d⟩ := h.P1 x q
      exact ⟨p, by show P x = _; rw [old x q]; exact a, by show 0 ≤ P p; rw [old _ b]; exact b, c, d⟩
    · have := seg x q.1 q.2
      exact ⟨v, k3 x q, by show 0 ≤ P v; rw [k3 v ⟨hvo, Nat.le_refl _⟩]; omega, this.2, this.1⟩
  case P2 =>
    intro x y hx hy hxy hyx
    show P x = P y
    rcases new x hx with q | q <;> rcases new y hy with q' | q'
    · rw [old x q, old y q']; exact h.P2 x y q q' hxy hyx
    · have := Goes.closed (P := fun z => 0 ≤ S.part z) h.C hxy q
      have := ((h.opnIff y).1 q'.1).2; omega
    · have := Goes.closed (P := fun z => 0 ≤ S.part z) h.C hyx q'
      have := ((h.opnIff x).1 q.1).2; omega
    · rw [k3 x q, k3 y q']

/-- A round keeps all that. -/
theorem TInv.leave (h : TInv n adj S) {v : Nat} {r : List Nat} (hc : S.calls = v :: r) (hi : S.idx v = (adj v).length) : TInv n adj (leaveS S v r) := by
  unfold leaveS
  rw [h.low_eq hc]
  split
  · next q => exact h.leaveC hc hi q
  · next q => exact h.leaveN hc hi q
theorem TInv.idx_get (h : TInv n adj S) {v : Nat} {r : List Nat} (hc : S.calls = v :: r) (hi : S.idx v ≠ (adj v).length) :
    S.idx v < (adj v).length ∧ (adj v)[S.idx v]? = some ((adj v).getD (S.idx v) 0) ∧ (adj v).getD (S.idx v) 0 < n := by
  have hvc : v ∈ S.calls := by rw [hc]; exact List.mem_cons_self
  have hvo := h.callsOpen v hvc
  have h1 : S.idx v < (adj v).length := by have := h.idxLe v hvo; omega
  have h2 : (adj v)[S.idx v]? = some ((adj v).getD (S.idx v) 0) := by simp [List.getD, List.getElem?_eq_getElem h1]
  exact ⟨h1, h2, h.adjLt v (h.seenLt v (h.callsSeen hvc).1) _ (List.mem_of_getElem? h2)⟩
theorem TInv.step (h : TInv n adj S) : TInv n adj (stepS adj S) := by
  cases hc : S.calls with
  | nil => rw [stepS_nil hc]; exact h
  | cons v r =>
    rw [stepS_cons hc]
    by_cases hi : S.idx v = (adj v).length
    · rw [if_pos hi]; exact h.leave hc hi
    · rw [if_neg hi]
      obtain ⟨_, h2, _⟩ := h.idx_get hc hi
      by_cases hf : S.found ((adj v).getD (S.idx v) 0) = 0
      · rw [if_pos hf]; exact h.enterEdge hc h2 hf
      · rw [if_neg hf]
        by_cases hp : S.part ((adj v).getD (S.idx v) 0) < 0
        · rw [if_pos hp]
          refine h.edge hc h2 hf (updN S.low v (min (S.low v) (S.found ((adj v).getD (S.idx v) 0)))) (fun c (hcv : c ≠ v) => updN_other S.low v _ hcv) ?_ (fun _ => ?_) ?_
          · rw [updN_same]; omega
          · rw [updN_same]; omega
          · rw [updN_same]
            by_cases q : S.low v ≤ S.found ((adj v).getD (S.idx v) 0)
            · exact .inl (Nat.min_eq_left q)
            · exact .inr ⟨hp, Nat.min_eq_right (by omega)⟩
        · rw [if_neg hp]
          exact h.edge hc h2 hf S.low (fun _ _ => rfl) (Nat.le_refl _) (fun q => absurd q hp) (.inl rfl)

/-- The stacks are short. -/
theorem sorted_len (found : Nat → Nat) : ∀ (l : List Nat) (b : Nat), l.Pairwise (fun a b => found b < found a) → (∀ x ∈ l, found x ≠ 0 ∧ found x ≤ b) → l.length ≤ b
  | [], b, _, _ => Nat.zero_le b
  | a :: l, b, hs, hb => by
    have ⟨h1, h2⟩ := List.pairwise_cons.1 hs
    have ha := hb a List.mem_cons_self
    have := sorted_len found l (found a - 1) h2 (fun x hx => ⟨(hb x (List.mem_cons_of_mem _ hx)).1, by have := h1 x hx; omega⟩)
    simp only [List.length_cons]; omega
theorem TInv.time_le (h : TInv n adj S) : S.time ≤ n := by have := h.count; omega
theorem TInv.calls_len (h : TInv n adj S) : S.calls.length ≤ n :=
  Nat.le_trans (sorted_len S.found S.calls S.time h.callsSorted (fun x hx => ⟨(h.callsSeen hx).1, h.leTime x⟩)) h.time_le
theorem TInv.opn_len (h : TInv n adj S) : S.opn.length ≤ n :=
  Nat.le_trans (sorted_len S.found S.opn S.time h.opnSorted (fun x hx => ⟨((h.opnIff x).1 hx).1, h.leTime x⟩)) h.time_le

/-- What is left to do. -/
def phi (n : Nat) (adj : Nat → List Nat) (S : TS) : Nat :=
  (S.calls.map fun v => 1 + ((adj v).length - S.idx v)).sum + wsum (fun v => 2 + (adj v).length) S.found n
theorem phi_calls (adj : Nat → List Nat) (l : List Nat) (f g : Nat → Nat) (h : ∀ v ∈ l, f v = g v) :
    (l.map fun v => 1 + ((adj v).length - f v)).sum = (l.map fun v => 1 + ((adj v).length - g v)).sum := by
  congr 1
  exact List.map_congr_left fun v hv => by rw [h v hv]
theorem TInv.phi_step (h : TInv n adj S) {v : Nat} {r : List Nat} (hc : S.calls = v :: r) : phi n adj (stepS adj S) < phi n adj S := by
  have hsrt := h.callsSorted
  rw [hc] at hsrt
  have hnd : ∀ c ∈ r, c ≠ v := fun c hm e => by have := (List.pairwise_cons.1 hsrt).1 c hm; subst e; omega
  have hbase : phi n adj S = (1 + ((adj v).length - S.idx v)) + (r.map fun v => 1 + ((adj v).length - S.idx v)).sum + wsum (fun v => 2 + (adj v).length) S.found n := by
    unfold phi; rw [hc]; simp
  have hbump : ∀ lo, phi n adj { S with idx := updN S.idx v (S.idx v + 1), low := lo } = (1 + ((adj v).length - (S.idx v + 1))) + (r.map fun v => 1 + ((adj v).length - S.idx v)).sum + wsum (fun v => 2 + (adj v).length) S.found n := fun lo => by
    unfold phi; rw [hc]; simp only [List.map_cons, List.sum_cons, updN_same]
    rw [phi_calls adj r _ S.idx (fun c hm => updN_other _ _ _ (hnd c hm))]
  rw [stepS_cons hc]
  by_cases hi : S.idx v = (adj v).length
  · rw [if_pos hi, hbase]
    unfold leaveS
    split <;> · unfold phi; dsimp only; omega
  · rw [if_neg hi]
    obtain ⟨h1, h2, h3⟩ := h.idx_get hc hi
    by_cases hf : S.found ((adj v).getD (S.idx v) 0) = 0
    · rw [if_pos hf, hbase]
      generalize (adj v).getD (S.idx v) 0 = t at *
      have hw := wsum_upd (fun v => 2 + (adj v).length) S.found t (S.time + 1) (by omega) hf n
      rw [if_pos h3] at hw
      have htc : ∀ c ∈ S.calls, c ≠ t := fun c hm e => by have := (h.callsSeen hm).1; rw [e] at this; exact this hf
      unfold phi enterS
      dsimp only
      rw [hc]
      simp only [List.map_cons, List.sum_cons, updN_same]
      rw [phi_calls adj r _ S.idx (fun c hm => by rw [updN_other _ _ _ (htc c (by rw [hc]; exact List.mem_cons_of_mem _ hm)), updN_other _ _ _ (hnd c hm)]),
        updN_other _ _ _ (htc v (by rw [hc]; exact List.mem_cons_self)), updN_same]
      omega
    · rw [if_neg hf]
      by_cases hp : S.part ((adj v).getD (S.idx v) 0) < 0
      · rw [if_pos hp, hbase]; have := hbump (updN S.low v (min (S.low v) (S.found ((adj v).getD (S.idx v) 0)))); omega
      · rw [if_neg hp, hbase]; have := hbump S.low; have e : ({ S with idx := updN S.idx v (S.idx v + 1), low := S.low } : TS) = { S with idx := updN S.idx v (S.idx v + 1) } := rfl
        rw [e] at this; omega
/-- The beginning. -/
def initS : TS := ⟨0, fun _ => 0, fun _ => 0, fun _ => 0, [], fun _ => -1, []⟩
theorem wsum_white (n : Nat) : wsum (fun _ => 1) (fun _ => 0) n = n := by
  induction n with
  | zero => rfl
  | succ n ih => simp [wsum, ih]
theorem TInv.init (n : Nat) (adj : Nat → List Nat) (ha : ∀ v, v < n → ∀ t ∈ adj v, t < n) : TInv n adj initS := by
  constructor
  case adjLt => exact ha
  case count => simp [initS, wsum_white]
  case C => intro x hx; simp [initS] at hx
  case P1 => intro x hx; simp [initS] at hx
  case P2 => intro x y hx; simp [initS] at hx
  all_goals simp [initS]

/-- What was found stays found. -/
theorem keepsS (adj : Nat → List Nat) (S : TS) {x : Nat} (hx : S.found x ≠ 0) : (stepS adj S).found x = S.found x := by
  cases hc : S.calls with
  | nil => rw [stepS_nil hc]
  | cons v r =>
    rw [stepS_cons hc]
    split
    · unfold leaveS; split <;> rfl
    · split
      · next hf => exact updN_other _ _ _ (fun e => by rw [e] at hx; exact hx hf)
      · split <;> rfl

/-- At the end: all parts told: one number just where there are ways both ways. -/
theorem TInv.done (h : TInv n adj S) (hc : S.calls = []) (hall : ∀ v, v < n → S.found v ≠ 0) :
    (∀ v, v < n → 0 ≤ S.part v) ∧ ∀ x y, x < n → y < n → (S.part x = S.part y ↔ Goes adj x y ∧ Goes adj y x) := by
  have hp : ∀ v, v < n → 0 ≤ S.part v := fun v hv => by
    by_cases q : S.part v < 0
    · have := (h.opnIff v).2 ⟨hall v hv, q⟩; rw [h.opn_nil hc] at this; cases this
    · omega
  refine ⟨hp, fun x y hx hy => ⟨fun e => ?_, fun ⟨a, b⟩ => h.P2 x y (hp x hx) (hp y hy) a b⟩⟩
  obtain ⟨p, p1, _, p2, p3⟩ := h.P1 x (hp x hx)
  obtain ⟨q, q1, _, q2, q3⟩ := h.P1 y (hp y hy)
  have : p = q := by omega
  subst this
  exact ⟨p2.trans q3, q2.trans p3⟩

end Go.Proofs.YtilpckngghffoaaGreatDoor

namespace Go.Proofs.YtilpckngghffoaaGreatDoor

def sPairs : ByteArray := ⟨#[112, 97, 105, 114, 115]⟩
/-- Where a symbol leads from a node, and what is told. -/
def toN (K N u s : Nat) : Nat := (u * K + s) % N
def labN (K : Nat) (T : List Int) (u s : Nat) : Int := T.getD (u * K + s) 0
/-- The arrows of a pair as they are found. -/
def rawT (K N : Nat) (T : List Int) (u v s t : Nat) : List Nat := if labN K T u s = labN K T v t then [toN K N u s * N + toN K N v t] else []
def rawS (K N : Nat) (T : List Int) (u v s n : Nat) : List Nat := (List.range n).flatMap fun t => rawT K N T u v s t
def rawP (K N : Nat) (T : List Int) (u v n : Nat) : List Nat := (List.range n).flatMap fun s => rawS K N T u v s K
theorem rawS_succ (K N : Nat) (T : List Int) (u v s n : Nat) : rawS K N T u v s (n + 1) = rawS K N T u v s n ++ rawT K N T u v s n := by
  simp [rawS, List.range_succ]
theorem rawP_succ (K N : Nat) (T : List Int) (u v n : Nat) : rawP K N T u v (n + 1) = rawP K N T u v n ++ rawS K N T u v n K := by
  simp [rawP, List.range_succ]
theorem rawT_len (K N : Nat) (T : List Int) (u v s t : Nat) : (rawT K N T u v s t).length ≤ 1 := by unfold rawT; split <;> simp
theorem rawS_len (K N : Nat) (T : List Int) (u v s n : Nat) : (rawS K N T u v s n).length ≤ n := by
  induction n with
  | zero => simp [rawS]
  | succ n ih => rw [rawS_succ, List.length_append]; have := rawT_len K N T u v s n; omega
theorem rawP_len (K N : Nat) (T : List Int) (u v n : Nat) : (rawP K N T u v n).length ≤ n * K := by
  induction n with
  | zero => simp [rawP]
  | succ n ih => rw [rawP_succ, List.length_append, Nat.add_mul]; have := rawS_len K N T u v n K; omega
/-- Does an arrow lead from the pair u, v to the vertex q? -/
def Arr (K N : Nat) (T : List Int) (u v q : Nat) : Prop := ∃ s t, s < K ∧ t < K ∧ labN K T u s = labN K T v t ∧ q = toN K N u s * N + toN K N v t
theorem mem_rawP {K N : Nat} {T : List Int} {u v q : Nat} : q ∈ rawP K N T u v K ↔ Arr K N T u v q := by
  unfold rawP rawS rawT Arr
  simp only [List.mem_flatMap, List.mem_range]
  constructor
  · rintro ⟨s, hs, t, ht, h⟩
    split at h
    · rename_i e
      exact ⟨s, t, hs, ht, e, by simpa using h⟩
    · cases h
  · rintro ⟨s, t, hs, ht, e, h⟩
    exact ⟨s, hs, t, ht, by rw [if_pos e]; simpa using h⟩
theorem toN_lt {K N u s : Nat} (hN : 0 < N) : toN K N u s < N := Nat.mod_lt _ hN
theorem pair_lt {N a b : Nat} (ha : a < N) (hb : b < N) : a * N + b < N * N := by
  have := Nat.mul_le_mul_right N (show a + 1 ≤ N by omega)
  rw [Nat.add_mul] at this; omega
theorem pair_div {N a b : Nat} (hb : b < N) : (a * N + b) / N = a := div_mk hb
theorem pair_mod {N a b : Nat} (hb : b < N) : (a * N + b) % N = b := mod_mk hb
theorem pair_eq (p N : Nat) : p / N * N + p % N = p := by rw [Nat.mul_comm]; exact Nat.div_add_mod p N
theorem div_lt_of {p N : Nat} (h : p < N * N) : p / N < N := Nat.div_lt_of_lt_mul h
theorem Arr.lt {K N : Nat} {T : List Int} {u v q : Nat} (hN : 0 < N) (h : Arr K N T u v q) : q < N * N := by
  obtain ⟨s, t, _, _, _, rfl⟩ := h
  exact pair_lt (toN_lt hN) (toN_lt hN)
/-- The vertices that arrows lead to, ascending. -/
def pairL (K N : Nat) (T : List Int) (p : Nat) : List Nat := (List.range (N * N)).filter fun q => decide (q ∈ rawP K N T (p / N) (p % N) K)
theorem pairL_sorted (K N : Nat) (T : List Int) (p : Nat) : (pairL K N T p).Pairwise (· < ·) := List.Pairwise.filter _ List.pairwise_lt_range
theorem mem_pairL {K N : Nat} {T : List Int} {p q : Nat} (hN : 0 < N) : q ∈ pairL K N T p ↔ Arr K N T (p / N) (p % N) q := by
  unfold pairL
  rw [List.mem_filter, List.mem_range, decide_eq_true_iff, mem_rawP]
  exact ⟨fun h => h.2, fun h => ⟨h.lt hN, h⟩⟩
theorem nodup_sub {α : Type} [DecidableEq α] : ∀ {l m : List α}, l.Nodup → l ⊆ m → l.length ≤ m.length
  | [], _, _, _ => by simp
  | a :: l, m, hn, hs => by
    obtain ⟨h1, h2⟩ := List.nodup_cons.1 hn
    have ha := hs List.mem_cons_self
    have := nodup_sub (l := l) (m := m.erase a) h2 (fun b hb => (List.mem_erase_of_ne (fun e => h1 (by rw [← e]; exact hb))).2 (hs (List.mem_cons_of_mem _ hb)))
    have hl := List.length_erase_of_mem ha
    have := List.length_pos_of_mem ha
    simp only [List.length_cons]; omega
theorem pairL_len (K N : Nat) (T : List Int) (p : Nat) : (pairL K N T p).length ≤ K * K := by
  have hn : (pairL K N T p).Nodup := (pairL_sorted K N T p).imp (fun h => Nat.ne_of_lt h)
  have hs : pairL K N T p ⊆ rawP K N T (p / N) (p % N) K := fun q hq => by
    unfold pairL at hq
    simpa using (List.mem_filter.1 hq).2
  exact Nat.le_trans (nodup_sub hn hs) (rawP_len ..)

/-- The node of a word at a place. -/
def nodeAt (K m : Nat) (x : List Int) (i : Nat) : Nat := numW K ((x.drop i).take m)
theorem win_snoc {x : List Int} {i m : Nat} (h : i + m < x.length) : (x.drop i).take (m + 1) = (x.drop i).take m ++ [x.getD (i + m) 0] := by
  rw [List.take_add_one, List.getElem?_drop]
  simp [List.getD, h]
theorem win_cons {x : List Int} {i m : Nat} : ((x.drop i).take (m + 1)).drop 1 = (x.drop (i + 1)).take m := by
  rw [List.drop_take]; simp
theorem syms_drop {K : Int} {x : List Int} (h : Syms K x) (i : Nat) : Syms K (x.drop i) := fun y hy => h y (List.mem_of_mem_drop hy)
theorem syms_take {K : Int} {x : List Int} (h : Syms K x) (i : Nat) : Syms K (x.take i) := fun y hy => h y (List.mem_of_mem_take hy)
theorem syms_at {K : Nat} {x : List Int} (h : Syms K x) {i : Nat} (hi : i < x.length) : 0 ≤ x.getD i 0 ∧ x.getD i 0 < K ∧ (x.getD i 0).toNat < K := by
  have := h (x[i]) (List.getElem_mem hi)
  simp only [List.getD_eq_getElem?_getD, List.getElem?_eq_getElem hi, Option.getD_some]
  omega
theorem win_num {K m : Nat} {x : List Int} {i : Nat} (h : i + m < x.length) : numW K ((x.drop i).take (m + 1)) = nodeAt K m x i * K + (x.getD (i + m) 0).toNat := by
  rw [win_snoc h, numW_snoc]; rfl
theorem node_lt {K m : Nat} {x : List Int} (hx : Syms K x) {i : Nat} (h : i + m ≤ x.length) : nodeAt K m x i < pw K m := by
  have := numW_lt _ (syms_take (syms_drop hx i) m)
  rwa [show ((x.drop i).take m).length = m by simp; omega] at this
theorem node_next {K m : Nat} {x : List Int} (hx : Syms K x) {i : Nat} (h : i + m < x.length) : nodeAt K m x (i + 1) = toN K (pw K m) (nodeAt K m x i) (x.getD (i + m) 0).toNat := by
  have hl : ((x.drop i).take m).length = m := by simp; omega
  have hs : Syms K ((x.drop i).take m ++ [x.getD (i + m) 0]) := by rw [← win_snoc h]; exact syms_take (syms_drop hx i) _
  have := num_shift hs
  rw [← win_snoc h, win_cons, hl, win_num h] at this
  exact this
theorem img_at {K R : Nat} {T x : List Int} {i : Nat} (h : i + 2 * R < x.length) : (imgP K R T x).getD i 0 = labN K T (nodeAt K (2 * R) x i) (x.getD (i + 2 * R) 0).toNat := by
  rw [imgP_getD _ _ _ _ _ (by omega), win_num h]; rfl
theorem img_eq {K R : Nat} {T x y : List Int} (hl : x.length = y.length) : imgP K R T x = imgP K R T y ↔
    ∀ i, i + 2 * R < x.length → labN K T (nodeAt K (2 * R) x i) (x.getD (i + 2 * R) 0).toNat = labN K T (nodeAt K (2 * R) y i) (y.getD (i + 2 * R) 0).toNat := by
  constructor
  · intro h i hi
    rw [← img_at hi, ← img_at (by omega), h]
  · intro h
    refine List.ext_getElem (by rw [imgP_length, imgP_length, hl]) fun i h1 h2 => ?_
    rw [imgP_length] at h1 h2
    have := h i (by omega)
    rw [← img_at (by omega), ← img_at (by omega)] at this
    simpa [List.getD_eq_getElem?_getD, imgP_length, h1, h2] using this

theorem wayW_arr {K R : Nat} {T x y : List Int} (hx : Syms K x) (hy : Syms K y) (hl : x.length = y.length) (he : imgP K R T x = imgP K R T y) {i : Nat} (hi : i + 2 * R < x.length) :
    Arr K (pw K (2 * R)) T (nodeAt K (2 * R) x i) (nodeAt K (2 * R) y i) (nodeAt K (2 * R) x (i + 1) * pw K (2 * R) + nodeAt K (2 * R) y (i + 1)) :=
  ⟨_, _, (syms_at hx hi).2.2, (syms_at hy (by omega)).2.2, (img_eq hl).1 he i hi, by rw [node_next hx hi, node_next hy (by omega)]⟩

/-- Does a step of the way fit: the second vertex by the last symbols of its nodes? -/
def StepFits (K N : Nat) (T : List Int) (p q : Nat) : Prop :=
  toN K N (p / N) (q / N % K) = q / N ∧ toN K N (p % N) (q % N % K) = q % N ∧ labN K T (p / N) (q / N % K) = labN K T (p % N) (q % N % K)
instance (K N : Nat) (T : List Int) (p q : Nat) : Decidable (StepFits K N T p q) := by unfold StepFits; exact inferInstance
/-- The last symbol of the node that a symbol leads to is that symbol. -/
theorem toN_mod {K R u s : Nat} (_hK : 1 ≤ K) (hR : 1 ≤ R) (hs : s < K) : toN K (pw K (2 * R)) u s % K = s := by
  unfold toN
  have : K ∣ pw K (2 * R) := ⟨pw K (2 * R - 1), by rw [Nat.mul_comm K, ← pw_succ]; congr 1; omega⟩
  rw [Nat.mod_mod_of_dvd _ this, mod_mk hs]
theorem fits_iff {K R : Nat} {T : List Int} {p q : Nat} (hK : 1 ≤ K) (hR : 1 ≤ R) (hq : q < pw K (2 * R) * pw K (2 * R)) :
    StepFits K (pw K (2 * R)) T p q ↔ Arr K (pw K (2 * R)) T (p / pw K (2 * R)) (p % pw K (2 * R)) q := by
  have hN := pw_pos (K := K) (2 * R) hK
  constructor
  · rintro ⟨h1, h2, h3⟩
    exact ⟨_, _, Nat.mod_lt _ (by omega), Nat.mod_lt _ (by omega), h3, by rw [h1, h2, pair_eq]⟩
  · rintro ⟨s, t, hs, ht, e, rfl⟩
    unfold StepFits
    rw [pair_div (toN_lt (by omega)), pair_mod (toN_lt (by omega)), toN_mod hK hR hs, toN_mod hK hR ht]
    exact ⟨rfl, rfl, e⟩
/-- The word along a way of nodes. -/
def alongW (K m : Nat) (F : Nat → Nat) (way : List Nat) : List Int := digs K m (F (way.getD 0 0)) ++ (way.drop 1).map fun p => ((F p % K : Nat) : Int)
theorem alongW_len (K m : Nat) (F : Nat → Nat) (way : List Nat) : (alongW K m F way).length = m + (way.length - 1) := by simp [alongW, digs_length]
theorem alongW_syms {K m : Nat} (hK : 1 ≤ K) (F : Nat → Nat) (way : List Nat) : Syms K (alongW K m F way) := by
  intro y hy
  rcases List.mem_append.1 hy with hy | hy
  · exact digs_syms hK _ _ y hy
  · obtain ⟨p, _, rfl⟩ := List.mem_map.1 hy
    have := Nat.mod_lt (F p) (show 0 < K by omega); omega
theorem alongW_get {K m : Nat} {F : Nat → Nat} {way : List Nat} {i : Nat} (h : i + 1 < way.length) : (alongW K m F way).getD (i + m) 0 = ((F (way.getD (i + 1) 0) % K : Nat) : Int) := by
  unfold alongW
  rw [List.getD_eq_getElem?_getD, List.getElem?_append_right (by rw [digs_length]; omega), digs_length, Nat.add_sub_cancel, List.getElem?_map, List.getElem?_drop, Nat.add_comm 1 i]
  rw [List.getElem?_eq_getElem h]
  simp [List.getD, h]
/-- Along a way that fits the nodes are the way's. -/
theorem along_node {K m : Nat} (hK : 1 ≤ K) {F : Nat → Nat} {way : List Nat} (h0 : F (way.getD 0 0) < pw K m) (hs : ∀ i, i + 1 < way.length → toN K (pw K m) (F (way.getD i 0)) (F (way.getD (i + 1) 0) % K) = F (way.getD (i + 1) 0)) :
    ∀ i, i < way.length → nodeAt K m (alongW K m F way) i = F (way.getD i 0)
  | 0, _ => by
    unfold nodeAt alongW
    rw [List.drop_zero, List.take_append_of_le_length (by rw [digs_length]; omega), List.take_of_length_le (by rw [digs_length]; omega), numW_digs hK _ _ h0]
  | i + 1, hi => by
    have ih := along_node hK h0 hs i (by omega)
    rw [node_next (alongW_syms hK F way) (by rw [alongW_len]; omega), ih, alongW_get hi, Int.toNat_natCast]
    exact hs i hi
/-- The word along the nodes of a word is that word. -/
theorem along_word {K R : Nat} (hK : 1 ≤ K) (hR : 1 ≤ R) {F : Nat → Nat} {x : List Int} (hx : Syms K x) (hl : 2 * R ≤ x.length) {way : List Nat} (hw : way.length = x.length - 2 * R + 1)
    (hF : ∀ i, i < way.length → F (way.getD i 0) = nodeAt K (2 * R) x i) : alongW K (2 * R) F way = x := by
  have hN := pw_pos (K := K) (2 * R) hK
  refine List.ext_getElem (by rw [alongW_len]; omega) fun i h1 h2 => ?_
  by_cases hi : i < 2 * R
  · have e : digs K (2 * R) (F (way.getD 0 0)) = x.take (2 * R) := by
      rw [hF 0 (by omega)]
      have := digs_numW hK (x.take (2 * R)) (syms_take hx _)
      rw [show (x.take (2 * R)).length = 2 * R by simp; omega] at this
      simpa [nodeAt] using this
    simp only [alongW, e]
    rw [List.getElem_append_left (by simp; omega), List.getElem_take]
  · obtain ⟨j, rfl⟩ : ∃ j, i = j + 2 * R := ⟨i - 2 * R, by omega⟩
    have hj : j + 1 < way.length := by omega
    have := alongW_get (K := K) (m := 2 * R) (F := F) hj
    rw [hF (j + 1) hj, node_next hx (by omega), toN_mod hK hR (syms_at hx (by omega)).2.2] at this
    simp only [List.getD_eq_getElem?_getD, List.getElem?_eq_getElem h1, List.getElem?_eq_getElem h2, Option.getD_some] at this
    rw [this]
    have := (hx (x[j + 2 * R]) (List.getElem_mem _)).1
    omega
end Go.Proofs.YtilpckngghffoaaGreatDoor

namespace Go.Proofs.YtilpckngghffoaaGreatDoor

/-- Two words that differ, with the same 2 R symbols at both ends and one image. -/
structure IsTwins (K R : Nat) (T a b : List Int) : Prop where
  sa : Syms K a
  sb : Syms K b
  len : a.length = b.length
  ne : a ≠ b
  low : 2 * R ≤ a.length
  front : a.take (2 * R) = b.take (2 * R)
  back : a.drop (a.length - 2 * R) = b.drop (b.length - 2 * R)
  img : imgP K R T a = imgP K R T b
theorem IsTwins.symm {K R : Nat} {T a b : List Int} (h : IsTwins K R T a b) : IsTwins K R T b a :=
  ⟨h.sb, h.sa, h.len.symm, h.ne.symm, by rw [← h.len]; exact h.low, h.front.symm, h.back.symm, h.img.symm⟩
/-- The nodes of the pair are one. -/
def Diag (N p : Nat) : Prop := p / N = p % N
instance (N p : Nat) : Decidable (Diag N p) := by unfold Diag; exact inferInstance
theorem diag_mk {N u : Nat} (h : u < N) : Diag N (u * N + u) := by unfold Diag; rw [pair_div h, pair_mod h]
theorem Diag.eq {N p : Nat} (h : Diag N p) : p = p / N * N + p / N := by
  have := pair_eq p N
  rw [← h] at this; exact this.symm
/-- A way from a pair of equal nodes through pairs that are apart to a pair of equal nodes. -/
structure ApartWay (N : Nat) (adj : Nat → List Nat) (w : List Nat) : Prop where
  len : 3 ≤ w.length
  low : ∀ i, i < w.length → w.getD i 0 < N * N
  arr : ∀ i, i + 1 < w.length → w.getD (i + 1) 0 ∈ adj (w.getD i 0)
  fst : Diag N (w.getD 0 0)
  lst : Diag N (w.getD (w.length - 1) 0)
  inn : ∀ i, 0 < i → i + 1 < w.length → ¬ Diag N (w.getD i 0)
theorem last_diag {N : Nat} {W : Nat → Nat} (h0 : Diag N (W 0)) : ∀ i, ¬ Diag N (W i) → ∃ k, k < i ∧ Diag N (W k) ∧ ∀ j, k < j → j ≤ i → ¬ Diag N (W j)
  | 0, h => absurd h0 h
  | i + 1, h => by
    by_cases q : Diag N (W i)
    · exact ⟨i, by omega, q, fun j h1 h2 => by obtain rfl : j = i + 1 := by omega
                                               exact h⟩
    · obtain ⟨k, h1, h2, h3⟩ := last_diag h0 i q
      refine ⟨k, by omega, h2, fun j h4 h5 => ?_⟩
      by_cases e : j = i + 1
      · subst e; exact h
      · exact h3 j h4 (by omega)
theorem next_diag {N : Nat} {W : Nat → Nat} {i : Nat} (h : ¬ Diag N (W i)) : ∀ k, Diag N (W (i + k)) → ∃ m, i < m ∧ m ≤ i + k ∧ Diag N (W m) ∧ ∀ j, i ≤ j → j < m → ¬ Diag N (W j)
  | 0, hk => absurd hk h
  | k + 1, hk => by
    by_cases q : ∃ m, i < m ∧ m ≤ i + k ∧ Diag N (W m) ∧ ∀ j, i ≤ j → j < m → ¬ Diag N (W j)
    · obtain ⟨m, h1, h2, h3⟩ := q
      exact ⟨m, h1, by omega, h3⟩
    · refine ⟨i + (k + 1), by omega, Nat.le_refl _, hk, fun j h1 h2 hd => q ?_⟩
      obtain ⟨d, rfl⟩ : ∃ d, j = i + d := ⟨j - i, by omega⟩
      obtain ⟨m, m1, m2, m3⟩ := next_diag h d hd
      exact ⟨m, m1, by omega, m3⟩
theorem list_range_get (f : Nat → Nat) (n i : Nat) (h : i < n) : ((List.range n).map f).getD i 0 = f i := by simp [List.getD, h]
/-- Twins have such a way. -/
theorem IsTwins.way {K R : Nat} {T a b : List Int} (hK : 1 ≤ K) (hR : 1 ≤ R) (h : IsTwins K R T a b) : ∃ w, ApartWay (pw K (2 * R)) (pairL K (pw K (2 * R)) T) w ∧ 2 * R + (w.length - 1) ≤ a.length := by
  have hlen := h.len
  have hlow := h.low
  have hN := pw_pos (K := K) (2 * R) hK
  have na : ∀ i, i + 2 * R ≤ a.length → nodeAt K (2 * R) a i < pw K (2 * R) := fun i hi => node_lt h.sa hi
  have nb : ∀ i, i + 2 * R ≤ a.length → nodeAt K (2 * R) b i < pw K (2 * R) := fun i hi => node_lt h.sb (by omega)
  obtain ⟨W, hW⟩ : ∃ W : Nat → Nat, W = fun i => nodeAt K (2 * R) a i * pw K (2 * R) + nodeAt K (2 * R) b i := ⟨_, rfl⟩
  have hWi : ∀ i, W i = nodeAt K (2 * R) a i * pw K (2 * R) + nodeAt K (2 * R) b i := fun i => by rw [hW]
  have dg : ∀ i, i + 2 * R ≤ a.length → (Diag (pw K (2 * R)) (W i) ↔ nodeAt K (2 * R) a i = nodeAt K (2 * R) b i) := fun i hi => by
    unfold Diag; rw [hWi, pair_div (nb i hi), pair_mod (nb i hi)]
  have d0 : Diag (pw K (2 * R)) (W 0) := by
    rw [dg 0 (by omega)]; unfold nodeAt; rw [List.drop_zero, List.drop_zero, h.front]
  obtain ⟨n, hn⟩ : ∃ n, a.length = n + 2 * R := ⟨a.length - 2 * R, by omega⟩
  have dn : Diag (pw K (2 * R)) (W n) := by
    rw [dg n (by omega)]; unfold nodeAt
    have := h.back
    rw [← hlen, hn, Nat.add_sub_cancel] at this
    rw [this]
  have hex : ∃ i, i ≤ n ∧ ¬ Diag (pw K (2 * R)) (W i) := by
    apply Classical.byContradiction
    intro hno
    have hall : ∀ i, i ≤ n → nodeAt K (2 * R) a i = nodeAt K (2 * R) b i := fun i hi => (dg i (by omega)).1 (Classical.byContradiction fun q => hno ⟨i, hi, q⟩)
    apply h.ne
    have hget : ∀ i, i < n + 1 → ((List.range (n + 1)).map (nodeAt K (2 * R) a)).getD i 0 = nodeAt K (2 * R) a i := fun i hi => list_range_get _ _ _ hi
    have e1 := along_word (F := id) (way := (List.range (n + 1)).map (nodeAt K (2 * R) a)) hK hR h.sa h.low (by simp; omega) (fun i hi => hget i (by simpa using hi))
    have e2 := along_word (F := id) (way := (List.range (n + 1)).map (nodeAt K (2 * R) a)) hK hR h.sb (by omega) (by simp; omega) (fun i hi => by
      have hi : i < n + 1 := by simpa using hi
      show ((List.range (n + 1)).map (nodeAt K (2 * R) a)).getD i 0 = _
      rw [hget i hi, hall i (by omega)])
    rw [← e1, e2]
  obtain ⟨i, hi, hnd⟩ := hex
  obtain ⟨k, k1, k2, k3⟩ := last_diag d0 i hnd
  obtain ⟨m, m1, m2, m3, m4⟩ := next_diag hnd (n - i) (by rw [show i + (n - i) = n by omega]; exact dn)
  have hget : ∀ j, j < m - k + 1 → ((List.range (m - k + 1)).map fun j => W (k + j)).getD j 0 = W (k + j) := fun j hj => list_range_get _ _ _ hj
  refine ⟨(List.range (m - k + 1)).map fun j => W (k + j), ⟨by simp; omega, fun j hj => ?_, fun j hj => ?_, ?_, ?_, fun j j0 j1 => ?_⟩, by simp; omega⟩
  · rw [hget j (by simpa using hj), hWi]
    have : j < m - k + 1 := by simpa using hj
    exact pair_lt (na _ (by omega)) (nb _ (by omega))
  · have hj : j + 1 < m - k + 1 := by simpa using hj
    rw [hget j (by omega), hget (j + 1) hj, mem_pairL (by omega), hWi, hWi, pair_div (nb _ (by omega)), pair_mod (nb _ (by omega)), ← Nat.add_assoc]
    exact wayW_arr h.sa h.sb hlen h.img (by omega)
  · rw [hget 0 (by omega)]; exact k2
  · rw [List.length_map, List.length_range, Nat.add_sub_cancel, hget _ (by omega), show k + (m - k) = m by omega]; exact m3
  · have hj : j + 1 < m - k + 1 := by simpa using j1
    rw [hget j (by omega)]
    by_cases q : k + j ≤ i
    · exact k3 _ (by omega) q
    · exact m4 _ (by omega) (by omega)
/-- A way of pairs gives two words with one image. -/
theorem ways_words {K R : Nat} {T : List Int} {w : List Nat} (hK : 1 ≤ K) (hR : 1 ≤ R) (hw : 1 ≤ w.length) (low : ∀ i, i < w.length → w.getD i 0 < pw K (2 * R) * pw K (2 * R))
    (arr : ∀ i, i + 1 < w.length → w.getD (i + 1) 0 ∈ pairL K (pw K (2 * R)) T (w.getD i 0)) :
    (∀ i, i < w.length → nodeAt K (2 * R) (alongW K (2 * R) (· / pw K (2 * R)) w) i = w.getD i 0 / pw K (2 * R) ∧ nodeAt K (2 * R) (alongW K (2 * R) (· % pw K (2 * R)) w) i = w.getD i 0 % pw K (2 * R)) ∧
    imgP K R T (alongW K (2 * R) (· / pw K (2 * R)) w) = imgP K R T (alongW K (2 * R) (· % pw K (2 * R)) w) := by
  have hN := pw_pos (K := K) (2 * R) hK
  have fits : ∀ i, i + 1 < w.length → StepFits K (pw K (2 * R)) T (w.getD i 0) (w.getD (i + 1) 0) := fun i hi =>
    (fits_iff hK hR (low _ hi)).2 ((mem_pairL (by omega)).1 (arr i hi))
  have n1 := along_node (K := K) (m := 2 * R) (F := (· / pw K (2 * R))) (way := w) hK (div_lt_of (low 0 (by omega))) (fun i hi => (fits i hi).1)
  have n2 := along_node (K := K) (m := 2 * R) (F := (· % pw K (2 * R))) (way := w) hK (Nat.mod_lt _ (by omega)) (fun i hi => (fits i hi).2.1)
  refine ⟨fun i hi => ⟨n1 i hi, n2 i hi⟩, ?_⟩
  rw [img_eq (by rw [alongW_len, alongW_len])]
  intro i hi
  rw [alongW_len] at hi
  rw [n1 i (by omega), n2 i (by omega), alongW_get (by omega), alongW_get (by omega), Int.toNat_natCast, Int.toNat_natCast]
  exact (fits i (by omega)).2.2
/-- Such a way has twins. -/
theorem ApartWay.twins {K R : Nat} {T : List Int} {w : List Nat} (hK : 1 ≤ K) (hR : 1 ≤ R) (h : ApartWay (pw K (2 * R)) (pairL K (pw K (2 * R)) T) w) :
    IsTwins K R T (alongW K (2 * R) (· / pw K (2 * R)) w) (alongW K (2 * R) (· % pw K (2 * R)) w) := by
  have hN := pw_pos (K := K) (2 * R) hK
  have h3 := h.len
  obtain ⟨hn, hi⟩ := ways_words hK hR (by omega) h.low h.arr
  have la := alongW_len K (2 * R) (· / pw K (2 * R)) w
  have lb := alongW_len K (2 * R) (· % pw K (2 * R)) w
  have sa := alongW_syms (m := 2 * R) hK (· / pw K (2 * R)) w
  have sb := alongW_syms (m := 2 * R) hK (· % pw K (2 * R)) w
  generalize alongW K (2 * R) (· / pw K (2 * R)) w = a at *
  generalize alongW K (2 * R) (· % pw K (2 * R)) w = b at *
  have same : ∀ i, i < w.length → Diag (pw K (2 * R)) (w.getD i 0) → (a.drop i).take (2 * R) = (b.drop i).take (2 * R) := fun i hi hd => by
    obtain ⟨e1, e2⟩ := hn i hi
    have q1 := digs_numW hK _ (syms_take (syms_drop sa i) (2 * R))
    have q2 := digs_numW hK _ (syms_take (syms_drop sb i) (2 * R))
    rw [show ((a.drop i).take (2 * R)).length = 2 * R by simp; omega] at q1
    rw [show ((b.drop i).take (2 * R)).length = 2 * R by simp; omega] at q2
    rw [← q1, ← q2]
    show digs K (2 * R) (nodeAt K (2 * R) a i) = digs K (2 * R) (nodeAt K (2 * R) b i)
    rw [e1, e2, hd]
  refine ⟨sa, sb, by omega, fun e => ?_, by omega, ?_, ?_, hi⟩
  · subst e
    obtain ⟨e1, e2⟩ := hn 1 (by omega)
    exact h.inn 1 (by omega) (by omega) (e1.symm.trans e2)
  · have := same 0 (by omega) h.fst
    simpa using this
  · have := same (w.length - 1) (by omega) h.lst
    rw [List.take_of_length_le (by simp; omega), List.take_of_length_le (by simp; omega)] at this
    rw [show a.length - 2 * R = w.length - 1 by omega, show b.length - 2 * R = w.length - 1 by omega]
    exact this

/-- The least length of twins. -/
def TwinLen (K R : Nat) (T : List Int) (n : Nat) : Prop := (∃ a b, IsTwins K R T a b ∧ a.length = n) ∧ ∀ a b, IsTwins K R T a b → n ≤ a.length
theorem TwinLen.unique {K R : Nat} {T : List Int} {n m : Nat} (h : TwinLen K R T n) (k : TwinLen K R T m) : n = m := by
  obtain ⟨⟨a, b, h1, rfl⟩, h2⟩ := h
  obtain ⟨⟨c, d, k1, rfl⟩, k2⟩ := k
  exact Nat.le_antisymm (h2 _ _ k1) (k2 _ _ h1)
end Go.Proofs.YtilpckngghffoaaGreatDoor

namespace Go.Proofs.YtilpckngghffoaaGreatDoor

theorem emod_nat {a : Int} {n : Nat} (hn : 1 ≤ n) : ∃ m : Nat, m < n ∧ a % (n : Int) = m := by
  have h1 := Int.emod_nonneg a (show (n : Int) ≠ 0 by omega)
  have h2 := Int.emod_lt_of_pos a (show (0 : Int) < n by omega)
  exact ⟨(a % (n : Int)).toNat, by omega, by omega⟩
theorem getD_syms {K : Int} {x : List Int} (h : Syms K x) {i : Nat} (hi : i < x.length) : 0 ≤ x.getD i 0 ∧ x.getD i 0 < K := by
  have e : x.getD i 0 = x[i] := by simp [List.getD, hi]
  rw [e]; exact h _ (List.getElem_mem hi)
end Go.Proofs.YtilpckngghffoaaGreatDoor

namespace Go.Proofs.YtilpckngghffoaaGreatDoor
open Go.RowKit
set_option maxRecDepth 100000

theorem oneBytes : OneCell 155 5 (.int .u8 0) 1 := ⟨by kernel_rfl, by kernel_rfl, rfl, by decide, fun _ => by kernel_rfl⟩
theorem uByte : Tryz.prog.underlying 5 = some (.int .u8) := by kernel_rfl
theorem uStr : Tryz.prog.underlying 9 = some .string := by kernel_rfl
/-- The digits of a word. -/
def dig8 (xs : List Int) : List Int := xs.map fun x => 48 + x
def txtW (xs : List Int) : ByteArray := strOfNums (dig8 xs)
def byteV (xs : List Int) : List Value := (dig8 xs).map (Value.int .u8)

/-- make([]T, 0, n). -/
theorem wpl_makeV0 {T E : TypeId} {z : Value} {b : Nat} (oc : OneCell T E z b) {w : World} {ops : Array Oper} {rest : List Oper} {o : Oper} {a : Act} {Q : Exit → Act → World → Prop}
    (hg : o.guard = none) (l c : Operand) (hop : o.op = Op.makeSlice T l c) (n : Nat) (hl : a.eval l = .int .i64 0) (hc : a.eval c = .int .i64 (n : Int)) (hC : n ≤ 100000)
    (hK : ∀ v w', OwnV E w.heap.size w' v [] → Below w.heap.size w w' → wpList Tryz.prog ops Q rest (a.put o.dst v) w') :
    wpList Tryz.prog ops Q (o :: rest) a w := by
  obtain ⟨i, hi, hz0, hz1, hz2⟩ := info_parts oc.hi
  have hb := oc.hb
  refine wpList_make_own w hg l c T hop w.heap.size E i z 1 oc.ht hi hz0 hz1 .i64 .i64 n n hl hc rfl (by
    rw [hz2]
    calc b * n ≤ 32 * 100000 := Nat.mul_le_mul hb hC
      _ ≤ _ := by decide) (by unfold maxLen; omega) (Nat.le_refl _) ?_
  intro w' hown hgrow
  exact hK _ _ hown ((Below.refl _ _).grown hgrow (Nat.le_refl _) (by intro k hk; cases hk))

theorem digit_at (x : Int) (h0 : 0 ≤ x) (h4 : x < 4) (w' : World) : (Instr.index 9 (.string ⟨#[48, 49, 50, 51]⟩) (.int .i64 x)).run Tryz.prog w' = .ok (.int .u8 (48 + x)) w' := by
  rw [run_index_string w' _ _ _ _ uStr]
  obtain ⟨n, rfl⟩ := Int.eq_ofNat_of_zero_le h0
  have : n = 0 ∨ n = 1 ∨ n = 2 ∨ n = 3 := by omega
  rcases this with rfl | rfl | rfl | rfl <;> rfl

/-- append(s, y), one value laid just ahead. -/
theorem wpl_appV {T E : TypeId} {z : Value} {b : Nat} (oc : OneCell T E z b) {w : World} {ops : Array Oper} {rest : List Oper} {o : Oper} {a : Act} {Q : Exit → Act → World → Prop} (hgd : o.guard = none) (s x : Operand)
    (ho : o.op = .call { callee := .builtin .append, args := #[s, x], argTypes := #[T, T] })
    (B : Nat) (v : Value) (xs : List Value) (y : Value) (hy : y.oneCell' = true) (hown : OwnV E B w v xs) (hs : a.eval s = v) (hx : a.eval x = .slice (some ⟨w.heap.size, 0, none⟩) 1 1)
    (hlen : xs.length < 4398046511104) (hB : B ≤ w.heap.size)
    (h : ∀ v' w', OwnV E B w' v' (xs ++ [y]) → Below B w w' → wpList Tryz.prog ops Q rest (a.put o.dst v') w') :
    wpList Tryz.prog ops Q (o :: rest) a (w.alloc (.cells #[y] E)) := by
  refine wpList_plain hgd fun K hK => ?_
  obtain ⟨v', w', hr, h2, h3⟩ := run_app oc (w.alloc (.cells #[y] E)) B o.type v _ (hown.alloc _) ⟨w.heap.size, 0, none⟩ 1 [y] (by simp) (cell_one_new _ _ _) (by simp [hy]) (by simp; omega) (by simp; omega)
  unfold Oper.wp execOp
  simp only [ho, resolve, invoke, builtin, Sem.run_bind, Sem.run_pure, Result.andThen_ok, List.map_toArray, List.map_cons, List.map_nil, hs, hx]
  rw [show ([y] : List Value).length = 1 from rfl] at hr
  rw [hr]
  have hal : ∀ row, w.grownBy (w.alloc (.cells #[y] E)) row := fun row => World.grownBy_alloc w _ row
  rcases h3 with ⟨_, hg⟩ | ⟨_, hg⟩
  · exact hK _ _ (h v' w' h2 ((Below.refl _ _).grown ((hal v.ownBlock).trans hg) hB (fun k hk => (hown.lt k hk).1)))
  · exact hK _ _ (h v' w' h2 ((Below.refl _ _).grown ((hal none).trans hg) hB (by intro k hk; cases hk)))

theorem byteV_snoc (xs : List Int) (x : Int) : byteV (xs ++ [x]) = byteV xs ++ [.int .u8 (48 + x)] := by simp [byteV, dig8]
theorem conv_bytes (B : Nat) (w : World) (v : Value) (xs : List Int) (h : OwnV 5 B w v (byteV xs)) (h1 : 1 ≤ xs.length) : (convert 155 9 v).run Tryz.prog w = .ok (.string (txtW xs)) w := by
  have hl : (byteV xs).length = xs.length := by simp [byteV, dig8]
  rcases h.2 with ⟨rfl, hn⟩ | ⟨g, cap, cur, rfl, hb, hg, hn, hm, hs, ht⟩
  · omega
  · refine run_convert_bytes_arg (P := Tryz.prog) w 155 5 oneBytes.ht uByte g 0 (byteV xs).length cap (dig8 xs) (by simp [dig8, byteV]) (fun i hi => ?_) 9 uStr
    have := h.at.cell i hi
    rw [valAt_row] at this
    rw [Nat.zero_add, this]
    have hi2 : i < xs.length := by rw [← hl]; exact hi
    simp [byteV, List.getD, dig8, hi2]

set_option maxHeartbeats 1000000 in
theorem word_text (K : Nat) (v : Value) (xs : List Int) (w : World) (h : IntsAt w v xs) (h1 : 1 ≤ K) (h4 : K ≤ 4) (hs : Syms K xs) (hn : 1 ≤ xs.length) (hl : xs.length ≤ 4096) :
    Calls Tryz.prog 57 #[.int .i64 K, v] w (Ret2 (fun x y _ => y = .nilIface ∧ x = .string (txtW xs)) w) := by
  have l1 := h.len
  obtain ⟨va, vn, vc, rfl⟩ := h.shape
  replace h := Lib.hid h
  replace hs := Lib.hid hs
  go_enter Tryz.func57, Tryz.ntmps57
  go_wp2_with fail
  refine (word_check K _ xs w h.out h1 h4 hs.out hl).mono ?_
  rintro e w1 ⟨_, rfl, b1, rfl⟩
  have hx1 := h.out.below b1
  replace hx1 := Lib.hid hx1
  go_wp2_with (at_make; refine wpl_makeV0 oneBytes rfl _ _ rfl xs.length rfl rfl (by omega) ?_)
  intro bv w2 ho2 b2
  have b02 := Below.step b1 b2
  replace ho2 := Lib.hid ho2
  go_wp2_with fail
  go_loopw [7, 21] (fun ov iv wr => ∃ (i : Nat) (ow : Value), ow = ov ∧ iv = .int .i64 i ∧ i ≤ xs.length ∧ OwnV 5 w1.heap.size wr ow (byteV (xs.take i)) ∧ Below w1.heap.size w1 wr) (fun _ iv _ => xs.length - (intOf iv).toNat)
  case atStart => exact ⟨0, _, rfl, rfl, Nat.zero_le _, ho2.out, b2⟩
  case round =>
    obtain ⟨i, ow, rfl, rfl, hi, hO, hB⟩ := hrel
    obtain ⟨wo, rfl⟩ : ∃ wo : World, wo = wr := ⟨_, rfl⟩
    by_cases hil : i < xs.length
    · have di : decide ((i : Int) < (xs.length : Int)) = true := decide_eq_true (by omega)
      have hxo := hx1.out.below hB
      have iX := fun w' => hxo.idx i hil w'
      have cX := hxo.cellD i hil
      have hsy := getD_syms hs.out hil
      have htk : xs.take (i + 1) = xs.take i ++ [xs.getD i 0] := by
        rw [List.take_add_one]; simp [List.getD, hil]
      have hbv := byteV_snoc (xs.take i) (xs.getD i 0)
      rw [← htk] at hbv
      obtain ⟨x, hx⟩ : ∃ x, xs.getD i 0 = x := ⟨_, rfl⟩
      rw [hx] at cX hsy hbv
      have dg := digit_at x hsy.1 (by omega)
      obtain ⟨xa, hxa⟩ : ∃ xa, valAt (.slice va vn vc) i = xa := ⟨_, rfl⟩
      rw [hxa] at iX cX
      have hlb : (byteV (xs.take i)).length < 4398046511104 := by simp [byteV, dig8]; omega
      have hBs := hB.size
      replace hx := Lib.hid hx
      replace hxa := Lib.hid hxa
      replace hxo := Lib.hid hxo
      replace htk := Lib.hid htk
      replace hbv := Lib.hid hbv
      go_wp2_with (at_builtin; go_loud (refine wpl_appV oneBytes rfl _ _ rfl w1.heap.size ow _ (.int .u8 (48 + x)) rfl hO rfl rfl hlb hBs ?_))
      intro v' w7 ho7 b7
      rw [← hbv.out] at ho7
      obtain ⟨v7a, v7b, v7c, rfl⟩ := ho7.shape
      replace ho7 := Lib.hid ho7
      clear hO
      go_wp2
      go_roundw
      case measure => simp [intOf]; omega
      case rel => exact ⟨i + 1, _, rfl, by go_num, by omega, ho7.out, hB.trans b7⟩
    · have di : decide ((i : Int) < (xs.length : Int)) = false := decide_eq_false (by omega)
      obtain rfl : i = xs.length := by omega
      rw [List.take_length] at hO
      have hc := conv_bytes w1.heap.size wo ow xs hO hn
      obtain ⟨oa, on, oc, rfl⟩ := hO.shape
      have bE := Below.step b1 hB
      replace hO := Lib.hid hO
      go_wp2
      go_ret2
      exact ⟨_, _, rfl, bE, rfl, rfl⟩
end Go.Proofs.YtilpckngghffoaaGreatDoor

namespace Go.Proofs.YtilpckngghffoaaGreatDoor
open Go.RowKit

/-- A row: its elements' type, how many cells each has, the slice value, how many elements, the cells. -/
structure Row where
  E : TypeId
  size : Nat
  v : Value
  n : Nat
  xs : List Value
def Row.own (B : Nat) (w : World) (r : Row) : Prop := w.ownsRow B r.E r.size r.v r.n r.xs
abbrev Names := Nat × Nat → Option Row
/-- The rows lie where they lie, no two in one block. -/
def Rows (B : Nat) (w : World) (f : Names) : Prop :=
  (∀ i r, f i = some r → r.own B w) ∧ (∀ i j r s, f i = some r → f j = some s → i ≠ j → r.v.ownBlock = none ∨ r.v.ownBlock ≠ s.v.ownBlock)
def upd (f : Names) (i : Nat × Nat) (r : Option Row) : Names := fun j => if j = i then r else f j
theorem upd_same (f : Names) (i : Nat × Nat) (r : Option Row) : upd f i r i = r := by simp [upd]
theorem upd_ne (f : Names) {i j : Nat × Nat} (r : Option Row) (h : j ≠ i) : upd f i r j = f j := by simp [upd, h]

theorem Rows.below {B : Nat} {w w' : World} {f : Names} (h : Rows B w f) (hb : Below w.heap.size w w') : Rows B w' f :=
  ⟨fun i r hi => by
    have ho := h.1 i r hi
    refine ⟨ho.1, ?_⟩
    rcases ho.2 with h2 | ⟨g, cap, cur, e, hB, hg, rest⟩
    · exact .inl h2
    · exact .inr ⟨g, cap, cur, e, hB, by rw [hb.block g (Array.getElem?_eq_some_iff.1 hg).1]; exact hg, rest⟩, h.2⟩
theorem Rows.drop {B : Nat} {w : World} {f : Names} (h : Rows B w f) (i : Nat × Nat) : Rows B w (upd f i none) :=
  ⟨fun j r hj => by
    by_cases e : j = i
    · subst e; rw [upd_same] at hj; cases hj
    · rw [upd_ne _ _ e] at hj; exact h.1 j r hj, fun j k r s hj hk hne => by
    by_cases e : j = i
    · subst e; rw [upd_same] at hj; cases hj
    by_cases e' : k = i
    · subst e'; rw [upd_same] at hk; cases hk
    rw [upd_ne _ _ e] at hj
    rw [upd_ne _ _ e'] at hk
    exact h.2 j k r s hj hk hne⟩
theorem Rows.lt {B : Nat} {w : World} {f : Names} (h : Rows B w f) {i : Nat × Nat} {r : Row} (hi : f i = some r) : ∀ k, r.v.ownBlock = some k → B ≤ k ∧ k < w.heap.size := World.ownsRow.lt (h.1 i r hi)

/-- What was done in row i alone: the row is now r'; it lies where it lay, or in a new block. -/
theorem Rows.grown {B : Nat} {w w' : World} {f : Names} {i : Nat × Nat} {r r' : Row} (h : Rows B w f) (hi : f i = some r) (hg : w.grownBy w' r.v.ownBlock) (ho : r'.own B w') (hb : r'.v.ownBlock = r.v.ownBlock ∨ ∃ k, r'.v.ownBlock = some k ∧ w.heap.size ≤ k) :
    Rows B w' (upd f i (some r')) := by
  have far : ∀ j s, f j = some s → j ≠ i → s.v.ownBlock = none ∨ s.v.ownBlock ≠ r'.v.ownBlock := fun j s hj hne => by
    rcases hb with e | ⟨k, e, hk⟩
    · rw [e]; exact h.2 j i s r hj hi hne
    · cases hs : s.v.ownBlock with
      | none => exact .inl rfl
      | some m =>
        have := (h.lt hj m hs).2
        right; rw [e]; intro e2; injection e2 with e2; omega
  refine ⟨fun j s hj => ?_, fun j k s t hj hk hne => ?_⟩
  · by_cases e : j = i
    · subst e; rw [upd_same] at hj; cases hj; exact ho
    · rw [upd_ne _ _ e] at hj
      exact World.ownsRow.kept (h.1 j s hj) hg (h.2 j i s r hj hi e)
  · by_cases e : j = i
    · subst e
      rw [upd_same] at hj; cases hj
      rw [upd_ne _ _ (Ne.symm hne)] at hk
      rcases far k t hk (Ne.symm hne) with e2 | e2
      · cases hr : r'.v.ownBlock with
        | none => exact .inl rfl
        | some m => right; rw [e2]; simp
      · exact .inr (Ne.symm e2)
    · rw [upd_ne _ _ e] at hj
      by_cases e' : k = i
      · subst e'; rw [upd_same] at hk; cases hk
        exact far j s hj e
      · rw [upd_ne _ _ e'] at hk
        exact h.2 j k s t hj hk hne

/-- A new row, in a new block (or nil). -/
theorem Rows.fresh {B : Nat} {w w' : World} {f : Names} {i : Nat × Nat} {r' : Row} (h : Rows B w f) (hg : w.grownBy w' none) (ho : r'.own B w') (hb : ∀ k, r'.v.ownBlock = some k → w.heap.size ≤ k) :
    Rows B w' (upd f i (some r')) := by
  refine ⟨fun j s hj => ?_, fun j k s t hj hk hne => ?_⟩
  · by_cases e : j = i
    · subst e; rw [upd_same] at hj; cases hj; exact ho
    · rw [upd_ne _ _ e] at hj
      exact World.ownsRow.kept (h.1 j s hj) hg (by cases s.v.ownBlock <;> simp)
  · by_cases e : j = i
    · subst e
      rw [upd_same] at hj; cases hj
      rw [upd_ne _ _ (Ne.symm hne)] at hk
      cases hr : r'.v.ownBlock with
      | none => exact .inl rfl
      | some m =>
        right; intro e2
        have h1 := hb m hr
        have h2 := (h.lt hk m e2.symm).2
        omega
    · rw [upd_ne _ _ e] at hj
      by_cases e' : k = i
      · subst e'; rw [upd_same] at hk; cases hk
        cases hs : s.v.ownBlock with
        | none => exact .inl rfl
        | some m =>
          right; intro e2
          have h1 := hb m e2.symm
          have h2 := (h.lt hj m hs).2
          omega
      · rw [upd_ne _ _ e'] at hk
        exact h.2 j k s t hj hk hne

theorem below_grows {w w' : World} (h : Below w.heap.size w w') (row : Option Nat) : w.grownBy w' row := ⟨h.os, h.tape, h.output, h.size, fun k hk _ => h.block k hk⟩
/-- A new row, made by a call that keeps what was. -/
theorem Rows.add {B : Nat} {w w' : World} {f : Names} {i : Nat × Nat} {r' : Row} (h : Rows B w f) (hb : Below w.heap.size w w') (ho : r'.own B w') (hn : ∀ k, r'.v.ownBlock = some k → w.heap.size ≤ k) : Rows B w' (upd f i (some r')) :=
  h.fresh (below_grows hb none) ho hn

/-- The block of a row that is not nil. -/
theorem Row.own.shape {B : Nat} {w : World} {r : Row} (h : r.own B w) (hn : 0 < r.n) : ∃ g cap, r.v = .slice (some ⟨g, 0, none⟩) r.n cap ∧ B ≤ g := by
  rcases h.2 with ⟨_, h0⟩ | ⟨g, cap, cur, e, hB, _⟩
  · omega
  · exact ⟨g, cap, e, hB⟩
/-- A store into cell k of row i. -/
theorem Rows.set {B : Nat} {w : World} {f : Names} {i : Nat × Nat} {r : Row} (h : Rows B w f) (hi : f i = some r) {g cap : Nat} (hv : r.v = .slice (some ⟨g, 0, none⟩) r.n cap) (k : Nat) (y : Value) :
    Rows B (w.setCell ⟨g, k, none⟩ y) (upd f i (some { r with xs := r.xs.set k y })) := by
  have ho := h.1 i r hi
  unfold Row.own at ho
  rw [hv] at ho
  have hs := World.ownsRow.stored ho k y
  refine h.grown hi (by rw [hv]; exact hs.2) ?_ (.inl rfl)
  unfold Row.own
  rw [hv]
  exact hs.1
theorem Rows.cell {B : Nat} {w : World} {f : Names} {i : Nat × Nat} {r : Row} (h : Rows B w f) (hi : f i = some r) {g cap : Nat} (hv : r.v = .slice (some ⟨g, 0, none⟩) r.n cap) (k : Nat) (hk : k < r.n * r.size) : w.cell? ⟨g, k, none⟩ = r.xs[k]? := by
  have ho := h.1 i r hi
  unfold Row.own at ho
  rw [hv] at ho
  exact ho.cellAt k hk
theorem Rows.frozen {B : Nat} {w : World} {f : Names} {i : Nat × Nat} {r : Row} (h : Rows B w f) (hi : f i = some r) {g cap : Nat} (hv : r.v = .slice (some ⟨g, 0, none⟩) r.n cap) (k : Nat) : w.frozen? ⟨g, k, none⟩ = false := by
  have ho := h.1 i r hi
  unfold Row.own at ho
  rw [hv] at ho
  exact ho.frozenAt k
theorem Rows.congr {B : Nat} {w : World} {f f' : Names} (h : Rows B w f) (e : ∀ i, f' i = f i) : Rows B w f' := by
  rw [show f' = f from funext e]; exact h
theorem Rows.drew {B : Nat} {w : World} {f : Names} (h : Rows B w f) : Rows B w.drew f := h
theorem Rows.drewN {B : Nat} {w : World} {f : Names} (h : Rows B w f) (n : Nat) : Rows B (w.drewN n) f := h

/-- A row of ints, of whatever one-cell values. -/
abbrev rowI (v : Value) (xs : List Int) : Row := ⟨3, 1, v, xs.length, xs.map (Value.int .i64)⟩
abbrev rowV (E : TypeId) (v : Value) (vs : List Value) : Row := ⟨E, 1, v, vs.length, vs⟩
theorem Rows.ownI {B : Nat} {w : World} {f : Names} {i : Nat × Nat} {v : Value} {xs : List Int} (h : Rows B w f) (hi : f i = some (rowI v xs)) : OwnI B w v xs := h.1 i _ hi
theorem Rows.ownV {B : Nat} {w : World} {f : Names} {i : Nat × Nat} {E : TypeId} {v : Value} {vs : List Value} (h : Rows B w f) (hi : f i = some (rowV E v vs)) : OwnV E B w v vs := h.1 i _ hi
/-- A store into element k of a row of ints. -/
theorem Rows.setI {B : Nat} {w : World} {f : Names} {i : Nat × Nat} {v : Value} {xs : List Int} (h : Rows B w f) (hi : f i = some (rowI v xs)) (k : Nat) (hk : k < xs.length) (y : Int) :
    Rows B (w.setCell (valAt v k) (.int .i64 y)) (upd f i (some (rowI v (xs.set k y)))) := by
  have ho := h.ownI hi
  have hs := ho.set k hk y
  refine h.grown hi ?_ hs (.inl rfl)
  have := ho.toV.setGrown k (by simpa using hk) (.int .i64 y)
  exact this
theorem Rows.setV {B : Nat} {w : World} {f : Names} {i : Nat × Nat} {E : TypeId} {v : Value} {vs : List Value} (h : Rows B w f) (hi : f i = some (rowV E v vs)) (k : Nat) (hk : k < vs.length) (y : Value) :
    Rows B (w.setCell (valAt v k) y) (upd f i (some (rowV E v (vs.set k y)))) := by
  have ho := h.ownV hi
  refine h.grown hi (ho.setGrown k hk y) ?_ (.inl rfl)
  have := ho.set k hk y
  unfold Row.own
  exact this
end Go.Proofs.YtilpckngghffoaaGreatDoor

namespace Go.Proofs.YtilpckngghffoaaGreatDoor

/-- A ring, with R symbols more on both sides. -/
def ringX (R : Nat) (w : List Int) : List Int := (List.range (w.length + 2 * R)).map fun t : Nat => w.getD (((t : Int) - R) % (w.length : Int)).toNat 0
theorem ringX_len (R : Nat) (w : List Int) : (ringX R w).length = w.length + 2 * R := by simp [ringX]
/-- The image of a ring. -/
def ringI (K R : Nat) (T w : List Int) : List Int := imgP K R T (ringX R w)
theorem ringI_len (K R : Nat) (T w : List Int) : (ringI K R T w).length = w.length := by unfold ringI; rw [imgP_length, ringX_len]; omega
theorem ringX_syms {K : Int} {R : Nat} {w : List Int} (h : Syms K w) (hl : 1 ≤ w.length) : Syms K (ringX R w) := by
  intro x hx
  obtain ⟨t, _, rfl⟩ := List.mem_map.1 hx
  obtain ⟨m, hm, e⟩ := emod_nat (a := (t : Int) - R) hl
  rw [e, Int.toNat_natCast]; exact getD_syms h hm
theorem ringX_take {R : Nat} {w : List Int} {t : Nat} (h : t < w.length + 2 * R) : (ringX R w).take (t + 1) = (ringX R w).take t ++ [w.getD (((t : Int) - R) % (w.length : Int)).toNat 0] := by
  rw [List.take_add_one]
  congr 1
  simp [ringX, h]
/-- a is the first of which b, further on, is a repeat; ahead of b nothing repeats. -/
def FirstIs (img : Nat → List Int) (m a b : Nat) : Prop := a < b ∧ b < m ∧ img a = img b ∧ ∀ x y, x < y → y < b → img x ≠ img y
def NoRepeat (img : Nat → List Int) (m : Nat) : Prop := ∀ x y, x < y → y < m → img x ≠ img y
theorem FirstIs.unique {img : Nat → List Int} {m a b c d : Nat} (h : FirstIs img m a b) (k : FirstIs img m c d) : a = c ∧ b = d := by
  obtain ⟨h1, h2, h3, h4⟩ := h
  obtain ⟨k1, k2, k3, k4⟩ := k
  have e : b = d := by
    rcases Nat.lt_trichotomy b d with e | e | e
    · exact absurd h3 (k4 a b h1 e)
    · exact e
    · exact absurd k3 (h4 c d k1 e)
  subst e
  refine ⟨?_, rfl⟩
  rcases Nat.lt_trichotomy a c with e | e | e
  · exact absurd (h3.trans k3.symm) (h4 a c e k1)
  · exact e
  · exact absurd (k3.trans h3.symm) (h4 c a e h1)
theorem FirstIs.not {img : Nat → List Int} {m a b : Nat} (h : FirstIs img m a b) : ¬ NoRepeat img m := fun k => k a b h.1 h.2.1 h.2.2.1
theorem NoRepeat.succ {img : Nat → List Int} {m : Nat} (h : NoRepeat img m) (k : ∀ x, x < m → img x ≠ img m) : NoRepeat img (m + 1) := fun x y h1 h2 => by
  by_cases e : y = m
  · subst e; exact k x h1
  · exact h x y h1 (by omega)
end Go.Proofs.YtilpckngghffoaaGreatDoor

namespace Go.Proofs.YtilpckngghffoaaGreatDoor

/-- The table with the radius R + d. -/
def wideT (K R d : Nat) (T : List Int) : List Int := (List.range (pw K (2 * (R + d) + 1))).map fun i => T.getD (numW K (((digs K (2 * (R + d) + 1) i).drop d).take (2 * R + 1))) 0
theorem wideT_length (K R d : Nat) (T : List Int) : (wideT K R d T).length = pw K (2 * (R + d) + 1) := by simp [wideT]
theorem wideT_ok {K R d : Nat} {T : List Int} (h : RuleOk K R T) (hd : R + d ≤ 3) : RuleOk K (R + d) (wideT K R d T) :=
  ⟨h.k1, h.k4, hd, wideT_length .., fun y hy => by
    obtain ⟨i, _, rfl⟩ := List.mem_map.1 hy
    exact h.syms.getD (by have := h.k1; omega) _⟩
theorem wideT_at {K R d : Nat} {T : List Int} (hK : 1 ≤ K) (w : List Int) (hw : Syms K w) (hl : w.length = 2 * (R + d) + 1) : (wideT K R d T).getD (numW K w) 0 = T.getD (numW K ((w.drop d).take (2 * R + 1))) 0 := by
  have hlt := numW_lt w hw
  rw [hl] at hlt
  have : (wideT K R d T).getD (numW K w) 0 = T.getD (numW K (((digs K (2 * (R + d) + 1) (numW K w)).drop d).take (2 * R + 1))) 0 := by simp [wideT, List.getD, hlt]
  rw [this, ← hl, digs_numW hK w hw]
/-- The image under the wider rule is that of the word without d symbols on both sides. -/
theorem img_wide {K R d : Nat} {T : List Int} (hK : 1 ≤ K) (x : List Int) (hx : Syms K x) : imgP K (R + d) (wideT K R d T) x = imgP K R T ((x.drop d).take (x.length - 2 * d)) := by
  refine List.ext_getElem (by rw [imgP_length, imgP_length]; simp; omega) fun i h1 h2 => ?_
  have e1 := imgP_getD K (R + d) (wideT K R d T) x i (by rw [imgP_length] at h1; exact h1)
  have e2 := imgP_getD K R T ((x.drop d).take (x.length - 2 * d)) i (by rw [imgP_length] at h2; exact h2)
  rw [imgP_length] at h1
  rw [List.getD_eq_getElem?_getD, List.getElem?_eq_getElem (by rw [imgP_length]; exact h1), Option.getD_some] at e1
  rw [List.getD_eq_getElem?_getD, List.getElem?_eq_getElem h2, Option.getD_some] at e2
  rw [e1, e2, wideT_at hK _ (syms_take (syms_drop hx i) _) (by simp; omega)]
  congr 2
  rw [List.drop_take, List.take_take, List.drop_drop, List.drop_take, List.drop_drop, List.take_take, Nat.add_comm d i]
  congr 1
  omega
end Go.Proofs.YtilpckngghffoaaGreatDoor

namespace Go.Proofs.YtilpckngghffoaaGreatDoor

/-- What stands at a place of a row of whatever. -/
def cellA {α : Type} (d : α) (L C Q : List α) (i : Int) : α :=
  if i < 0 then L.getD (i % (L.length : Int)).toNat d
  else if i < C.length then C.getD i.toNat d
  else Q.getD ((i - C.length) % (Q.length : Int)).toNat d
theorem emod_next {a : Int} {n j : Nat} (hn : 1 ≤ n) (h : a % (n : Int) = j) : (a + 1) % (n : Int) = if j + 1 < n then ((j + 1 : Nat) : Int) else 0 := by
  have h1 := Int.emod_lt_of_pos a (show (0 : Int) < n by omega)
  have e : (a + 1) % (n : Int) = (((a % n) + 1) % n) := by rw [Int.emod_add_emod]
  rw [e, h]
  split
  · exact Int.emod_eq_of_lt (by omega) (by omega)
  · rw [show (j : Int) + 1 = n by omega]; exact Int.emod_self
/-- A way without ends: a loop, a way, a loop. -/
structure Bi (adj : Nat → List Nat) (L C Q : List Nat) : Prop where
  l1 : 1 ≤ L.length
  c1 : 1 ≤ C.length
  q1 : 1 ≤ Q.length
  sL : ∀ j, j + 1 < L.length → L.getD (j + 1) 0 ∈ adj (L.getD j 0)
  eL : L.getD 0 0 ∈ adj (L.getD (L.length - 1) 0)
  fC : C.getD 0 0 = L.getD 0 0
  sC : ∀ j, j + 1 < C.length → C.getD (j + 1) 0 ∈ adj (C.getD j 0)
  eC : Q.getD 0 0 ∈ adj (C.getD (C.length - 1) 0)
  sQ : ∀ j, j + 1 < Q.length → Q.getD (j + 1) 0 ∈ adj (Q.getD j 0)
  eQ : Q.getD (Q.length - 1) 0 = C.getD (C.length - 1) 0
theorem Bi.step {adj : Nat → List Nat} {L C Q : List Nat} (h : Bi adj L C Q) (i : Int) : cellA 0 L C Q (i + 1) ∈ adj (cellA 0 L C Q i) := by
  have l1 := h.l1
  have c1 := h.c1
  have q1 := h.q1
  unfold cellA
  by_cases h0 : i < 0
  · rw [if_pos h0]
    obtain ⟨j, hj, e⟩ := emod_nat (a := i) l1
    have e2 := emod_next l1 e
    rw [e, Int.toNat_natCast]
    by_cases h1 : i + 1 < 0
    · rw [if_pos h1, e2]
      split
      · rename_i hlt; rw [Int.toNat_natCast]; exact h.sL j hlt
      · obtain rfl : j = L.length - 1 := by omega
        exact h.eL
    · rw [if_neg h1, if_pos (by omega), show (i + 1).toNat = 0 by omega, h.fC]
      have : i = -1 := by omega
      subst this
      have e3 : (-1 : Int) + 1 = 0 := rfl
      rw [e3, Int.zero_emod] at e2
      have : j = L.length - 1 := by
        split at e2
        · omega
        · omega
      subst this
      exact h.eL
  · rw [if_neg h0, if_neg (show ¬ i + 1 < 0 by omega)]
    by_cases h1 : i < C.length
    · rw [if_pos h1]
      by_cases h2 : i + 1 < C.length
      · rw [if_pos h2, show (i + 1).toNat = i.toNat + 1 by omega]; exact h.sC _ (by omega)
      · rw [if_neg h2, show i + 1 - (C.length : Int) = 0 by omega, Int.zero_emod]
        have := h.eC
        rw [show i.toNat = C.length - 1 by omega]
        exact this
    · rw [if_neg h1, if_neg (show ¬ i + 1 < C.length by omega)]
      obtain ⟨j, hj, e⟩ := emod_nat (a := i - C.length) q1
      have e2 := emod_next q1 e
      rw [show i + 1 - (C.length : Int) = i - C.length + 1 by omega, e2, e, Int.toNat_natCast]
      split
      · rename_i hlt; rw [Int.toNat_natCast]; exact h.sQ j hlt
      · obtain rfl : j = Q.length - 1 := by omega
        rw [h.eQ]; exact h.eC
end Go.Proofs.YtilpckngghffoaaGreatDoor

namespace Go.Proofs.YtilpckngghffoaaGreatDoor

end Go.Proofs.YtilpckngghffoaaGreatDoor

namespace Go.Proofs.YtilpckngghffoaaGreatDoor

theorem sub_get {x : List Int} {i m j : Nat} (h : j < m) : ((x.drop i).take m).getD j 0 = x.getD (i + j) 0 := by
  simp [List.getD, h, List.getElem?_drop]
theorem ext_getD {a b : List Int} (hl : a.length = b.length) (h : ∀ t, t < a.length → a.getD t 0 = b.getD t 0) : a = b :=
  List.ext_getElem hl fun t h1 h2 => by have := h t h1; simpa [List.getD, h1, h2] using this
theorem img_cut {K R : Nat} {T x : List Int} {i m : Nat} (h : i + m ≤ x.length) : imgP K R T ((x.drop i).take m) = ((imgP K R T x).drop i).take (m - 2 * R) := by
  have hl : ((x.drop i).take m).length = m := by simp; omega
  refine ext_getD (by simp only [imgP_length, hl, List.length_take, List.length_drop]; omega) fun t ht => ?_
  rw [imgP_length, hl] at ht
  rw [imgP_getD _ _ _ _ _ (by rw [hl]; exact ht), sub_get ht, imgP_getD _ _ _ _ _ (by omega)]
  congr 2
  rw [List.drop_take, List.take_take, List.drop_drop, Nat.min_eq_left (by omega)]

/-- Two words of 2 n + 1 symbols, unlike in the middle, with one image. -/
def Split (K R : Nat) (T : List Int) (n : Nat) : Prop := ∃ x y, Syms K x ∧ Syms K y ∧ x.length = 2 * n + 1 ∧ y.length = 2 * n + 1 ∧ x.getD n 0 ≠ y.getD n 0 ∧ imgP K R T x = imgP K R T y
def NotOne (K R : Nat) (T : List Int) : Prop := ∀ n, Split K R T n
theorem split_of {K R : Nat} {T x y : List Int} (sx : Syms K x) (sy : Syms K y) (hl : x.length = y.length) {j n : Nat} (h1 : n ≤ j) (h2 : j + n < x.length) (hne : x.getD j 0 ≠ y.getD j 0)
    (hi : imgP K R T ((x.drop (j - n)).take (2 * n + 1)) = imgP K R T ((y.drop (j - n)).take (2 * n + 1))) : Split K R T n :=
  ⟨_, _, syms_take (syms_drop sx _) _, syms_take (syms_drop sy _) _, by simp; omega, by simp; omega, by
    rw [sub_get (by omega), sub_get (by omega), show j - n + n = j by omega]; exact hne, hi⟩
theorem split_img {K R : Nat} {T x y : List Int} (sx : Syms K x) (sy : Syms K y) (hl : x.length = y.length) {j n : Nat} (h1 : n ≤ j) (h2 : j + n < x.length) (hne : x.getD j 0 ≠ y.getD j 0)
    (hi : imgP K R T x = imgP K R T y) : Split K R T n :=
  split_of sx sy hl h1 h2 hne (by rw [img_cut (by omega), img_cut (by omega), hi])
theorem Split.mono {K R : Nat} {T : List Int} {n m : Nat} (h : Split K R T n) (hm : m ≤ n) : Split K R T m := by
  obtain ⟨x, y, sx, sy, lx, ly, hne, hi⟩ := h
  exact split_img sx sy (by omega) (j := n) hm (by omega) hne hi
theorem pad_get {z a v : List Int} {n j : Nat} (hz : z.length = n) (hj : j < a.length) : (z ++ a ++ v).getD (n + j) 0 = a.getD j 0 := by
  subst hz
  rw [List.append_assoc, List.getD_eq_getElem?_getD, List.getElem?_append_right (by omega), Nat.add_sub_cancel_left, List.getElem?_append_left hj, ← List.getD_eq_getElem?_getD]
theorem syms_pad {K : Nat} (hK : 1 ≤ K) {a : List Int} (h : Syms K a) (n m : Nat) : Syms K (List.replicate n 0 ++ a ++ List.replicate m 0) := by
  intro y hy
  rcases List.mem_append.1 hy with hy | hy
  · rcases List.mem_append.1 hy with hy | hy
    · rw [List.eq_of_mem_replicate hy]; omega
    · exact h y hy
  · rw [List.eq_of_mem_replicate hy]; omega
theorem notOne_wide {K R d : Nat} {T : List Int} (hK : 1 ≤ K) : NotOne K (R + d) (wideT K R d T) ↔ NotOne K R T := by
  constructor
  · intro h n
    obtain ⟨x, y, sx, sy, lx, ly, hne, e⟩ := h (n + d)
    rw [img_wide hK x sx, img_wide hK y sy] at e
    refine ⟨_, _, syms_take (syms_drop sx d) _, syms_take (syms_drop sy d) _, by simp; omega, by simp; omega, ?_, e⟩
    rw [sub_get (by omega), sub_get (by omega), Nat.add_comm d n]
    exact hne
  · intro h n
    obtain ⟨x, y, sx, sy, lx, ly, hne, e⟩ := h n
    have mid : ∀ u : List Int, ((List.replicate d (0 : Int) ++ u ++ List.replicate d 0).drop d).take ((List.replicate d (0 : Int) ++ u ++ List.replicate d 0).length - 2 * d) = u := fun u => by
      rw [List.append_assoc, List.drop_left' (by simp), List.take_left' (by simp; omega)]
    refine Split.mono (n := n + d) ⟨_, _, syms_pad hK sx d d, syms_pad hK sy d d, by simp; omega, by simp; omega, ?_, ?_⟩ (by omega)
    · rw [Nat.add_comm n d, pad_get (by simp) (by omega), pad_get (by simp) (by omega)]
      exact hne
    · rw [img_wide hK _ (syms_pad hK sx d d), img_wide hK _ (syms_pad hK sy d d), mid, mid, e]

end Go.Proofs.YtilpckngghffoaaGreatDoor

namespace Go.Proofs.YtilpckngghffoaaGreatDoor

theorem ringI_get {K R : Nat} {T w : List Int} {i : Nat} (h : i < w.length) : (ringI K R T w).getD i 0 = T.getD (numW K (((ringX R w).drop i).take (2 * R + 1))) 0 := by
  unfold ringI
  rw [imgP_getD _ _ _ _ _ (by rw [ringX_len]; omega)]
theorem ringX_win {K R : Nat} {w : List Int} {i : Nat} (hs : Syms K w) (hi : i < w.length) : numW K ((ringX R w).take (i + (2 * R + 1))) % pw K (2 * R + 1) = numW K (((ringX R w).drop i).take (2 * R + 1)) := by
  have hl : (((ringX R w).drop i).take (2 * R + 1)).length = 2 * R + 1 := by rw [List.length_take, List.length_drop, ringX_len]; omega
  rw [List.take_add]
  have := numW_mod (K := K) (u := (ringX R w).take i) (v := ((ringX R w).drop i).take (2 * R + 1)) (syms_take (syms_drop (ringX_syms hs (by omega)) i) _)
  rw [hl] at this
  exact this
/-- Go's remainder made a place of the ring. -/
theorem ring_mod {a : Int} {n : Nat} (hn : 1 ≤ n) : ∃ (c1 : Int) (c2 r : Nat), a.tmod (n : Int) = c1 ∧ c1 + (n : Int) = (c2 : Int) ∧ c2 ≤ 2 * n ∧ -(n : Int) ≤ c1 ∧ c1 ≤ n ∧ c2 % n = r ∧ r < n ∧ a % (n : Int) = (r : Int) := by
  have hlt := Int.tmod_lt_of_pos a (show (0 : Int) < n by omega)
  have hgt : -(n : Int) < a.tmod (n : Int) := by
    have h1 := Int.tmod_lt_of_pos (-a) (show (0 : Int) < n by omega)
    rw [Int.neg_tmod] at h1
    omega
  have he : a % (n : Int) = (a.tmod (n : Int) + n) % n := by
    rw [Int.add_emod_right]
    have h2 := Int.mul_tdiv_add_tmod a (n : Int)
    have : a = a.tmod (n : Int) + (n : Int) * a.tdiv (n : Int) := by omega
    conv => lhs; rw [this]
    rw [Int.add_mul_emod_self_left]
  refine ⟨a.tmod (n : Int), (a.tmod (n : Int) + n).toNat, (a.tmod (n : Int) + n).toNat % n, rfl, by omega, by omega, by omega, by omega, rfl, Nat.mod_lt _ (by omega), ?_⟩
  rw [he, Int.natCast_emod]
  congr 1
  omega
end Go.Proofs.YtilpckngghffoaaGreatDoor

namespace Go.Proofs.YtilpckngghffoaaGreatDoor

def updM (M : Int → Option Int) (p x : Int) : Int → Option Int := fun q => if q = p then some x else M q
/-- Behind the first k: what has a number, and how many have. -/
def numM (p : Nat → Int) : Nat → (Int → Option Int) × Nat
  | 0 => (fun _ => none, 0)
  | k + 1 => if ((numM p k).1 (p k)).isSome then numM p k else (updM (numM p k).1 (p k) ((numM p k).2 : Int), (numM p k).2 + 1)
/-- The number of the k-th. -/
def numO (p : Nat → Int) (k : Nat) : Int := ((numM p (k + 1)).1 (p k)).getD 0
theorem numM_size (p : Nat → Int) : ∀ k, (numM p k).2 ≤ k
  | 0 => Nat.le_refl _
  | k + 1 => by
    have := numM_size p k
    simp only [numM]; split <;> simp <;> omega
theorem numM_keep (p : Nat → Int) {q x : Int} (k : Nat) (h : (numM p k).1 q = some x) : ∀ d, (numM p (k + d)).1 q = some x
  | 0 => h
  | d + 1 => by
    have ih := numM_keep p k h d
    show (numM p (k + d + 1)).1 q = some x
    simp only [numM]
    split
    · exact ih
    · next hn =>
      show updM _ _ _ q = some x
      unfold updM
      by_cases e : q = p (k + d)
      · subst e; rw [ih] at hn; exact absurd rfl hn
      · rw [if_neg e]; exact ih
theorem numM_own (p : Nat → Int) (k : Nat) : (numM p (k + 1)).1 (p k) = some (numO p k) := by
  unfold numO
  have : ((numM p (k + 1)).1 (p k)).isSome := by
    simp only [numM]
    split
    · next h => exact h
    · simp [updM]
  obtain ⟨x, hx⟩ := Option.isSome_iff_exists.1 this
  rw [hx]; rfl
theorem numM_below (p : Nat → Int) : ∀ k q x, (numM p k).1 q = some x → 0 ≤ x ∧ x < (numM p k).2
  | 0, q, x, h => by cases h
  | k + 1, q, x, h => by
    have ih := numM_below p k q x
    simp only [numM] at h ⊢
    split at h
    · next hs => rw [if_pos hs]; exact ih h
    · next hs =>
      rw [if_neg hs]
      simp only [updM] at h ⊢
      by_cases e : q = p k
      · rw [if_pos e] at h; injection h with h; omega
      · rw [if_neg e] at h; have := ih h; omega
theorem numM_inj (p : Nat → Int) : ∀ k q q' x, (numM p k).1 q = some x → (numM p k).1 q' = some x → q = q'
  | 0, q, q', x, h, _ => by cases h
  | k + 1, q, q', x, h, h' => by
    have ih := numM_inj p k q q' x
    simp only [numM] at h h'
    split at h
    · next hs => rw [if_pos hs] at h'; exact ih h h'
    · next hs =>
      rw [if_neg hs] at h'
      simp only [updM] at h h'
      by_cases e : q = p k <;> by_cases e' : q' = p k
      · rw [e, e']
      · rw [if_pos e] at h; rw [if_neg e'] at h'
        have := numM_below p k q' x h'
        injection h with h; omega
      · rw [if_neg e] at h; rw [if_pos e'] at h'
        have := numM_below p k q x h
        injection h' with h'; omega
      · rw [if_neg e] at h; rw [if_neg e'] at h'; exact ih h h'
/-- One number just where it is one thing. -/
theorem numO_eq (p : Nat → Int) (i j : Nat) : numO p i = numO p j ↔ p i = p j := by
  have key : ∀ i d, (numM p (i + 1 + d)).1 (p i) = some (numO p i) := fun i d => numM_keep p (i + 1) (numM_own p i) d
  have hi := key i j
  have hj := key j i
  rw [show j + 1 + i = i + 1 + j by omega] at hj
  constructor
  · intro h; rw [h] at hi; exact numM_inj p _ _ _ _ hi hj
  · intro h; rw [h] at hi; rw [hi] at hj; injection hj
/-- What the numbers tell: one number just where there are ways both ways. -/
def PartsOf (n : Nat) (adj : Nat → List Nat) (ps : List Int) : Prop :=
  ∃ p : Nat → Int, (∀ x y, x < n → y < n → (p x = p y ↔ Goes adj x y ∧ Goes adj y x)) ∧ ps = (List.range n).map (numO p)
theorem PartsOf.len {n : Nat} {adj : Nat → List Nat} {ps : List Int} (h : PartsOf n adj ps) : ps.length = n := by
  obtain ⟨p, _, rfl⟩ := h; simp
theorem PartsOf.eq {n : Nat} {adj : Nat → List Nat} {ps : List Int} (h : PartsOf n adj ps) {x y : Nat} (hx : x < n) (hy : y < n) : ps.getD x 0 = ps.getD y 0 ↔ Goes adj x y ∧ Goes adj y x := by
  obtain ⟨p, hp, rfl⟩ := h
  simp only [List.getD_eq_getElem?_getD, List.getElem?_map, List.getElem?_range hx, List.getElem?_range hy, Option.map_some, Option.getD_some]
  rw [numO_eq, hp x y hx hy]
end Go.Proofs.YtilpckngghffoaaGreatDoor

namespace Go.Proofs.YtilpckngghffoaaGreatDoor
open Go.RowKit Go.Maps Go.WideMaps
set_option maxRecDepth 100000

theorem uMapS : Tryz.prog.underlying 96 = some (.map 9 22) := by kernel_rfl
theorem keyedS : Keyed Tryz.prog 9 := string_keyed uStr
theorem zeroS (w : World) : (zeroValue 22).run Tryz.prog w = .ok (.slice none 0 0) w := by kernel_rfl
/-- A value as it is. -/
def heldE (v : Value) : Option (DataW Value × List MemPlace) := some (.held v, [])
def keyL (y : List Int) : Lit := .string (txtW y).data.toList
theorem txt_size (y : List Int) : (txtW y).size = y.length := by unfold txtW; rw [strOfNums_size]; simp [dig8]
theorem keyL_of {y : List Int} (h : y.length ≤ 4096) : keyOf Tryz.prog 9 (.string (txtW y)) = some (keyL y) := keyOf_string_mk uStr (by rw [txt_size]; unfold maxLen; omega)
theorem keyL_inj {K : Int} {x y : List Int} (hK : K ≤ 4) (hx : Syms K x) (hy : Syms K y) (h : keyL x = keyL y) : x = y := by
  have h2 : (txtW x).data.toList = (txtW y).data.toList := by injection h
  unfold txtW at h2
  rw [strOfNums_data, strOfNums_data] at h2
  unfold dig8 at h2
  rw [List.map_map, List.map_map] at h2
  have key : ∀ (a b : List Int), Syms K a → Syms K b → a.map ((fun n : Int => UInt8.ofNat n.toNat) ∘ fun x : Int => 48 + x) = b.map ((fun n : Int => UInt8.ofNat n.toNat) ∘ fun x : Int => 48 + x) → a = b := by
    intro a
    induction a with
    | nil =>
      intro b _ _ h
      cases b with
      | nil => rfl
      | cons _ _ => simp at h
    | cons p a ih =>
      intro b ha hb h
      cases b with
      | nil => simp at h
      | cons q b =>
        rw [List.map_cons, List.map_cons] at h
        injection h with h1 h2
        have e1 := ha p List.mem_cons_self
        have e2 := hb q List.mem_cons_self
        have : p = q := by
          have h3 := congrArg UInt8.toNat h1
          simp only [Function.comp, UInt8.toNat_ofNat'] at h3
          omega
        rw [this, ih b (fun z hz => ha z (List.mem_cons_of_mem _ hz)) (fun z hz => hb z (List.mem_cons_of_mem _ hz)) h2]
  exact key x y hx hy h2

/-- Block b is the map of the first j words by their images. -/
def RingMap (w : World) (b j K n : Nat) (img : Nat → List Int) (vals : Nat → Value) : Prop :=
  ∃ D : DataW Value, w.ownsMap Tryz.prog 9 heldE b j D ∧ (∀ y, Syms K y → y.length = n → (Maps.has D (keyL y) = true ↔ ∃ x, x < j ∧ img x = y)) ∧ ∀ x, x < j → D.atKey (keyL (img x)) (.held (.slice none 0 0)) = .held (vals x)
theorem RingMap.made (w : World) (K n : Nat) (img : Nat → List Int) (vals : Nat → Value) : RingMap (w.alloc (.map #[] 0)) w.heap.size 0 K n img vals :=
  ⟨_, World.ownsMap_made w Tryz.prog 9 _, fun y _ _ => ⟨fun h => (by cases h), fun ⟨x, hx, _⟩ => absurd hx (Nat.not_lt_zero _)⟩, fun x hx => absurd hx (Nat.not_lt_zero _)⟩
section
variable {w : World} {b j K n : Nat} {img : Nat → List Int} {vals : Nat → Value}
theorem RingMap.blk (h : RingMap w b j K n img vals) : ∃ es c, w.heap[b]? = some (.map es c) := by
  obtain ⟨D, ⟨es, c, hb, _⟩, _⟩ := h
  exact ⟨es, c, hb⟩
theorem RingMap.below {w' : World} (h : RingMap w b j K n img vals) (hb : Below w.heap.size w w') : RingMap w' b j K n img vals := by
  obtain ⟨D, h1, h2⟩ := h
  refine ⟨D, ?_, h2⟩
  have hlt := h1.lt
  obtain ⟨es, clock, hb', F, hs, hD⟩ := h1
  exact ⟨es, clock, (hb.block b hlt).trans hb', F, hs, hD⟩
theorem RingMap.hit (h : RingMap w b j K n img vals) {x : Nat} (hx : x < j) (hs : Syms K (img x)) (hl : (img x).length = n) (hn : n ≤ 4096) :
    (Instr.lookup 96 (.map (some b)) (.string (txtW (img x))) true).run Tryz.prog w = .ok (.tuple #[vals x, .bool true]) w := by
  obtain ⟨D, h1, h2, h3⟩ := h
  obtain ⟨v, ps, hr, hv⟩ := h1.look_ok keyedS uMapS (zeroS w) (zd := .held (.slice none 0 0)) (zp := []) rfl (keyL_of (y := img x) (by omega))
  rw [h3 x hx] at hv
  unfold heldE at hv
  have e1 := Option.some.inj hv
  have e2 : DataW.held v = DataW.held (vals x) := congrArg Prod.fst e1
  have e : v = vals x := by injection e2
  rw [hr, e, (h2 _ hs hl).2 ⟨x, hx, rfl⟩]
theorem RingMap.miss (h : RingMap w b j K n img vals) {y : List Int} (hs : Syms K y) (hl : y.length = n) (hn : n ≤ 4096) (hno : ∀ x, x < j → img x ≠ y) :
    ∃ v, (Instr.lookup 96 (.map (some b)) (.string (txtW y)) true).run Tryz.prog w = .ok (.tuple #[v, .bool false]) w := by
  obtain ⟨D, h1, h2, h3⟩ := h
  obtain ⟨v, ps, hr, hv⟩ := h1.look_ok keyedS uMapS (zeroS w) (zd := .held (.slice none 0 0)) (zp := []) rfl (keyL_of (y := y) (by omega))
  have : Maps.has D (keyL y) = false := by
    cases hh : Maps.has D (keyL y) with
    | false => rfl
    | true => obtain ⟨x, hx, e⟩ := (h2 y hs hl).1 hh; exact absurd e (hno x hx)
  exact ⟨v, by rw [hr, this]⟩
theorem RingMap.store (h : RingMap w b j K n img vals) (hK : K ≤ 4) (hsy : ∀ x, x ≤ j → Syms K (img x)) (hln : ∀ x, x ≤ j → (img x).length = n) (hn : n ≤ 4096) (hno : ∀ x, x < j → img x ≠ img j) (v : Value) (hj : j < 100000) :
    ∃ w', (Instr.mapUpdate 96 (.map (some b)) (.string (txtW (img j))) v).run Tryz.prog w = .ok () w' ∧ RingMap w' b (j + 1) K n img (fun x => if x = j then v else vals x) ∧ w.grownBy w' (some b) := by
  obtain ⟨D, h1, h2, h3⟩ := h
  have hI := h1.isMap
  have hkey := keyL_of (y := img j) (by rw [hln j (Nat.le_refl _)]; exact hn)
  obtain ⟨w', hr, ho, hg⟩ := h1.update keyedS uMapS (by unfold maxLen; omega) hkey (val := v) (d := .held v) (ps := []) rfl
  have hkl : WideAt.IsKeyLit (keyL (img j)) := keyedS.key hkey
  refine ⟨w', hr, ⟨_, ho, fun y hy hyl => ?_, fun x hx => ?_⟩, hg⟩
  · by_cases e : y = img j
    · subst e
      exact ⟨fun _ => ⟨j, Nat.lt_succ_self _, rfl⟩, fun _ => Maps.has_put_same hI hkl _⟩
    · have hne : keyL y ≠ keyL (img j) := fun h => e (keyL_inj (K := K) (by omega) hy (hsy j (Nat.le_refl _)) h)
      rw [Maps.has_put_other hne, h2 y hy hyl]
      constructor
      · rintro ⟨x, hx, rfl⟩; exact ⟨x, by omega, rfl⟩
      · rintro ⟨x, hx, rfl⟩
        exact ⟨x, by
          have : x ≠ j := fun q => e (by rw [q])
          omega, rfl⟩
  · by_cases e : x = j
    · subst e
      rw [Maps.atKey_put_same hI hkl]
      show DataW.held v = DataW.held (if x = x then v else vals x)
      rw [if_pos rfl]
    · have hne : keyL (img x) ≠ keyL (img j) := fun h => hno x (by omega) (keyL_inj (K := K) (by omega) (hsy x (by omega)) (hsy j (Nat.le_refl _)) h)
      rw [Maps.atKey_put_other hne]
      show _ = DataW.held (if x = j then v else vals x)
      rw [if_neg e]
      exact h3 x (by omega)
end
/-- Rows stay while a map's block is written. -/
theorem Rows.map {B : Nat} {w w' : World} {f : Names} {b : Nat} {es : Array MapEntry} {c : Nat} (h : Rows B w f) (hb : w.heap[b]? = some (.map es c)) (hg : w.grownBy w' (some b)) : Rows B w' f :=
  ⟨fun i r hi => (by
    have ho := h.1 i r hi
    refine World.ownsRow.kept ho hg ?_
    rcases ho.2 with ⟨e, _⟩ | ⟨g, cap, cur, e, _, hh, _⟩
    · left; rw [e]; rfl
    · right; rw [e]; intro q
      have : g = b := by injection q
      subst this; rw [hh] at hb; cases hb), h.2⟩
end Go.Proofs.YtilpckngghffoaaGreatDoor

namespace Go.Proofs.YtilpckngghffoaaGreatDoor
open Go.RowKit
set_option maxRecDepth 100000

/-- What an edenraw.Err is in memory. -/
def EAt (w : World) (t : PErr) (v : Value) : Prop :=
  match t with
  | none => v = .agg #[.int .i64 0, .slice none 0 0, .slice none 0 0]
  | some (n, l) => ∃ a1 n1 c1 a2 n2 c2, v = .agg #[.int .i64 n, .slice a1 n1 c1, .slice a2 n2 c2] ∧ ValsAt w (.slice a1 n1 c1) (l.map fun x => Value.string x.1) ∧ IntsAt w (.slice a2 n2 c2) (l.map (·.2))

theorem EAt.below {w w' : World} {t : PErr} {v : Value} (h : EAt w t v) (hb : Below w.heap.size w w') : EAt w' t v := by
  match t, h with
  | none, h => exact h
  | some (n, l), ⟨a1, n1, c1, a2, n2, c2, e, h1, h2⟩ => exact ⟨a1, n1, c1, a2, n2, c2, e, h1.below hb, h2.below hb⟩

/-- An edenraw.Err whose lists this call made, from block B on. -/
def EOwn (B : Nat) (w : World) (t : PErr) (v : Value) : Prop :=
  match t with
  | none => v = .agg #[.int .i64 0, .slice none 0 0, .slice none 0 0]
  | some (n, l) => ∃ a1 n1 c1 a2 n2 c2, v = .agg #[.int .i64 n, .slice a1 n1 c1, .slice a2 n2 c2] ∧ OwnV 9 B w (.slice a1 n1 c1) (l.map fun x => Value.string x.1) ∧ OwnV 3 B w (.slice a2 n2 c2) ((l.map (·.2)).map (Value.int .i64))

theorem OwnV.setBelowBase {E : TypeId} {B : Nat} {w : World} {v : Value} {vs : List Value} (h : OwnV E B w v vs) {a : Addr} (ha : a.block < B) (u : Value) : OwnV E B (w.setCell a u) v vs := ownsRow_setCell_below h ha u
theorem EOwn.at {B : Nat} {w : World} {t : PErr} {v : Value} (h : EOwn B w t v) : EAt w t v := by
  match t, h with
  | none, h => exact h
  | some (n, l), ⟨a1, n1, c1, a2, n2, c2, e, h1, h2⟩ => exact ⟨a1, n1, c1, a2, n2, c2, e, h1.at, OwnI.at (OwnV.toI h2)⟩
theorem EOwn.mono {B B' : Nat} {w : World} {t : PErr} {v : Value} (h : EOwn B w t v) (hB : B' ≤ B) : EOwn B' w t v := by
  match t, h with
  | none, h => exact h
  | some (n, l), ⟨a1, n1, c1, a2, n2, c2, e, h1, h2⟩ => exact ⟨a1, n1, c1, a2, n2, c2, e, h1.mono hB, h2.mono hB⟩
theorem EOwn.below {B : Nat} {w w' : World} {t : PErr} {v : Value} (h : EOwn B w t v) (hb : Below w.heap.size w w') : EOwn B w' t v := by
  match t, h with
  | none, h => exact h
  | some (n, l), ⟨a1, n1, c1, a2, n2, c2, e, h1, h2⟩ => exact ⟨a1, n1, c1, a2, n2, c2, e, h1.below hb, h2.below hb⟩
theorem EOwn.set {B : Nat} {w : World} {t : PErr} {v : Value} (h : EOwn B w t v) {a : Addr} (ha : a.block < B) (u : Value) : EOwn B (w.setCell a u) t v := by
  match t, h with
  | none, h => exact h
  | some (n, l), ⟨a1, n1, c1, a2, n2, c2, e, h1, h2⟩ => exact ⟨a1, n1, c1, a2, n2, c2, e, h1.setBelowBase ha u, h2.setBelowBase ha u⟩
theorem OwnV.lit {E : TypeId} (B : Nat) (w : World) (hB : B ≤ w.heap.size) (x : Value) : OwnV E B (w.alloc (.cells #[x] E)) (.slice (some ⟨w.heap.size, 0, none⟩) 1 1) [x] :=
  World.ownsRow_lit (base := B) (e := E) (size := 1) w #[x] 1 hB (by unfold maxLen; omega) rfl

theorem EAt.shape {w : World} {t : PErr} {v : Value} (h : EAt w t v) : ∃ n a1 n1 c1 a2 n2 c2, v = .agg #[.int .i64 n, .slice a1 n1 c1, .slice a2 n2 c2] := by
  match t, h with
  | none, h => exact ⟨0, none, 0, 0, none, 0, 0, h⟩
  | some (n, l), ⟨a1, n1, c1, a2, n2, c2, e, _⟩ => exact ⟨n, a1, n1, c1, a2, n2, c2, e⟩

abbrev zErr : Value := .agg #[.int .i64 0, .slice none 0 0, .slice none 0 0]
theorem EAt.none (w : World) : EAt w none zErr := rfl

theorem ValsAt.alloc {w : World} {v : Value} {vs : List Value} (h : ValsAt w v vs) (o : Obj) : ValsAt (w.alloc o) v vs := h.below ((Below.refl _ _).alloc (Nat.le_refl _) _)
theorem ValsAt.drew {w : World} {v : Value} {vs : List Value} (h : ValsAt w v vs) : ValsAt w.drew v vs := h
theorem ValsAt.split {w : World} {v : Value} {vs : List Value} (h : ValsAt w v vs) : (v = .slice none 0 0 ∧ vs = []) ∨ ∃ p cap, v = .slice (some p) vs.length cap ∧ ∀ j u, vs[j]? = some u → w.cell? (p.add j) = some u := by
  obtain ⟨a, cap, rfl, h1, h2, h3, h4⟩ := h
  cases a with
  | none =>
    obtain rfl := h3 rfl
    obtain rfl := List.length_eq_zero_iff.1 (show vs.length = 0 by omega)
    exact .inl ⟨rfl, rfl⟩
  | some p =>
    refine .inr ⟨p, cap, rfl, fun j u hj => ?_⟩
    have hjl : j < vs.length := (List.getElem?_eq_some_iff.1 hj).1
    have := h4 j hjl
    simp only [valAt] at this
    rw [this, ← hj]; simp [hjl]
theorem IntsAt.alloc {w : World} {v : Value} {xs : List Int} (h : IntsAt w v xs) (o : Obj) : IntsAt (w.alloc o) v xs := h.below ((Below.refl _ _).alloc (Nat.le_refl _) _)

end Go.Proofs.YtilpckngghffoaaGreatDoor

namespace Go.Proofs.YtilpckngghffoaaGreatDoor
open Go.RowKit
set_option maxRecDepth 100000

theorem EOwn.shape {B : Nat} {w : World} {t : PErr} {v : Value} (h : EOwn B w t v) : ∃ n a1 n1 c1 a2 n2 c2, v = .agg #[.int .i64 n, .slice a1 n1 c1, .slice a2 n2 c2] := h.at.shape

theorem below_set3 {B b : Nat} {w0 w : World} (h : Below B w0 w) (hb : B ≤ b) (x y z : Value) : Below B w0 (((w.setCell ⟨b, 0, none⟩ x).setCell ⟨b, 1, none⟩ y).setCell ⟨b, 2, none⟩ z) :=
  ((h.setCell (p := ⟨b, 0, none⟩) hb x).setCell (p := ⟨b, 1, none⟩) hb y).setCell (p := ⟨b, 2, none⟩) hb z

end Go.Proofs.YtilpckngghffoaaGreatDoor

namespace Go.Proofs.YtilpckngghffoaaGreatDoor
open Go.RowKit
set_option maxRecDepth 100000

end Go.Proofs.YtilpckngghffoaaGreatDoor

namespace Go.Proofs.YtilpckngghffoaaGreatDoor
open Go.RowKit
set_option maxRecDepth 100000

end Go.Proofs.YtilpckngghffoaaGreatDoor

namespace Go.Proofs.YtilpckngghffoaaGreatDoor
open Go.RowKit
set_option maxRecDepth 100000

theorem ValsAt.shape {w : World} {v : Value} {vs : List Value} (h : ValsAt w v vs) : ∃ a n c, v = .slice a n c := by
  obtain ⟨a, cap, e, _⟩ := h; exact ⟨_, _, _, e⟩
theorem cell_keep {w w' : World} {b i : Nat} {x : Value} (hb : Below w.heap.size w w') (h : w.cell? ⟨b, i, none⟩ = some x) : w'.cell? ⟨b, i, none⟩ = some x :=
  (hb.cell (p := ⟨b, i, none⟩) (World.block_lt_of_cell? _ _ h)).trans h
/-- Three cells of a variable of the call's own. -/
def Box3 (w : World) (b : Nat) (x0 x1 x2 : Value) : Prop := (w.cell? ⟨b, 0, none⟩ = some x0 ∧ w.cell? ⟨b, 1, none⟩ = some x1 ∧ w.cell? ⟨b, 2, none⟩ = some x2) ∧ w.frozen? ⟨b, 0, none⟩ = false ∧ w.frozen? ⟨b, 1, none⟩ = false ∧ w.frozen? ⟨b, 2, none⟩ = false
theorem Box3.below {w w' : World} {b : Nat} {x0 x1 x2 : Value} (h : Box3 w b x0 x1 x2) (hb : Below w.heap.size w w') : Box3 w' b x0 x1 x2 := by
  obtain ⟨⟨h0, h1, h2⟩, f0, f1, f2⟩ := h
  have hlt := World.block_lt_of_cell? _ _ h0
  exact ⟨⟨cell_keep hb h0, cell_keep hb h1, cell_keep hb h2⟩, (hb.frozen (p := ⟨b, 0, none⟩) hlt).trans f0, (hb.frozen (p := ⟨b, 1, none⟩) hlt).trans f1, (hb.frozen (p := ⟨b, 2, none⟩) hlt).trans f2⟩
theorem Box3.alloc {w : World} {b : Nat} {x0 x1 x2 : Value} (h : Box3 w b x0 x1 x2) (o : Obj) : Box3 (w.alloc o) b x0 x1 x2 := h.below ((Below.refl _ _).alloc (Nat.le_refl _) _)
theorem Box3.drew {w : World} {b : Nat} {x0 x1 x2 : Value} (h : Box3 w b x0 x1 x2) : Box3 w.drew b x0 x1 x2 := h
theorem OwnV.drew {E : TypeId} {B : Nat} {w : World} {v : Value} {vs : List Value} (h : OwnV E B w v vs) : OwnV E B w.drew v vs := h
end Go.Proofs.YtilpckngghffoaaGreatDoor

namespace Go.Proofs.YtilpckngghffoaaGreatDoor
open Go.RowKit Go.Extern.Stop Go.Stop Go.Extern
set_option maxRecDepth 100000
namespace Errs

end Errs
end Go.Proofs.YtilpckngghffoaaGreatDoor

namespace Go.Proofs.YtilpckngghffoaaGreatDoor
open Go.RowKit Go.Extern.Stop Go.Stop Go.Extern
set_option maxRecDepth 100000
namespace Errs

/-! errors.As at a Fault: the target a *api.Fault variable. -/
end Errs
end Go.Proofs.YtilpckngghffoaaGreatDoor

namespace Go.Proofs.YtilpckngghffoaaGreatDoor
open Go.RowKit Go.Extern.Stop Go.Stop Go.Extern
set_option maxRecDepth 100000
namespace Errs
end Errs
end Go.Proofs.YtilpckngghffoaaGreatDoor

namespace Go.Proofs.YtilpckngghffoaaGreatDoor
open Go.RowKit
set_option maxRecDepth 100000

/-- errors.errorType holds the handle of the type error. -/
def GlobE (w : World) : Prop := w.cell? ⟨12, 0, none⟩ = some (.iface 169 (.agg #[.pointer (some ⟨13, 28, none⟩)]))
theorem GlobE.below {w w' : World} (h : GlobE w) (hb : Below w.heap.size w w') : GlobE w' := cell_keep hb h

theorem takeD {P : Program} {ops : Array Oper} {Q : Exit → Act → World → Prop} {md : Region.Mode} {S : World → Prop} {i : Nat} {oi : Oper} {v : Value} {fuel : Nat} {listed : Array Bool} {a : Act} {w : World} (d : Option Tmp) (hi : ops[i]? = some oi) (hd : oi.dst = d)
    (hs : Region.noSelect ops = true) (hf : Region.free md ops listed i = true) (hr : (Region.ready md ops listed).contains i = true)
    (hQ : ∀ c a w, Q (.panic c) (a.put d v) w → Q (.panic c) a w) (hy : YieldsIf P ops S oi v a) (hS : S w)
    (h : wpAnyH P md ops Q S fuel (listed.setIfInBounds i true) (a.put d v) w) : wpAnyH P md ops Q S (fuel + 1) listed a w := by
  subst hd
  exact wpAnyH_take hi hs hf hr hQ hy hS h

theorem takeA {P : Program} {ops : Array Oper} {Q : Exit → Act → World → Prop} {md : Region.Mode} {i : Nat} {oi : Oper} {v : Value} {fuel : Nat} {listed : Array Bool} {a : Act} {w : World} (d : Option Tmp) (hi : ops[i]? = some oi) (hd : oi.dst = d)
    (hs : Region.noSelect ops = true) (hf : Region.free md ops listed i = true) (hr : (Region.ready md ops listed).contains i = true)
    (hQ : ∀ c a w, Q (.panic c) (a.put d v) w → Q (.panic c) a w) (hy : Yields P ops oi v a)
    (h : wpAny P md ops Q fuel (listed.setIfInBounds i true) (a.put d v) w) : wpAny P md ops Q (fuel + 1) listed a w := by
  subst hd
  exact wpAny_take hi hs hf hr hQ hy h

end Go.Proofs.YtilpckngghffoaaGreatDoor

namespace Go.Proofs.YtilpckngghffoaaGreatDoor

end Go.Proofs.YtilpckngghffoaaGreatDoor

namespace Go.Proofs.YtilpckngghffoaaGreatDoor

end Go.Proofs.YtilpckngghffoaaGreatDoor

namespace Go.Proofs.YtilpckngghffoaaGreatDoor

end Go.Proofs.YtilpckngghffoaaGreatDoor

namespace Go.Proofs.YtilpckngghffoaaGreatDoor
open Go.RowKit
set_option maxRecDepth 100000

theorem Box3.belowB {B : Nat} {w w' : World} {b : Nat} {x0 x1 x2 : Value} (h : Box3 w b x0 x1 x2) (hb : Below B w w') (hlt : b < B) : Box3 w' b x0 x1 x2 := by
  obtain ⟨⟨h0, h1, h2⟩, f0, f1, f2⟩ := h
  exact ⟨⟨(hb.cell (p := ⟨b, 0, none⟩) hlt).trans h0, (hb.cell (p := ⟨b, 1, none⟩) hlt).trans h1, (hb.cell (p := ⟨b, 2, none⟩) hlt).trans h2⟩, (hb.frozen (p := ⟨b, 0, none⟩) hlt).trans f0, (hb.frozen (p := ⟨b, 1, none⟩) hlt).trans f1, (hb.frozen (p := ⟨b, 2, none⟩) hlt).trans f2⟩
theorem Box3.far {w : World} {b b' : Nat} {x0 x1 x2 : Value} (h : Box3 w b x0 x1 x2) (hne : b' ≠ b) (i : Nat) (u : Value) : Box3 (w.setCell ⟨b', i, none⟩ u) b x0 x1 x2 := by
  obtain ⟨⟨h0, h1, h2⟩, f0, f1, f2⟩ := h
  refine ⟨⟨?_, ?_, ?_⟩, ?_, ?_, ?_⟩
  · rw [World.cell?_setCell_far _ _ _ _ hne]; exact h0
  · rw [World.cell?_setCell_far _ _ _ _ hne]; exact h1
  · rw [World.cell?_setCell_far _ _ _ _ hne]; exact h2
  · simpa using f0
  · simpa using f1
  · simpa using f2
end Go.Proofs.YtilpckngghffoaaGreatDoor

namespace Go.Proofs.YtilpckngghffoaaGreatDoor
open Go.RowKit
set_option maxRecDepth 100000

end Go.Proofs.YtilpckngghffoaaGreatDoor

namespace Go.Proofs.YtilpckngghffoaaGreatDoor
open Go.RowKit
set_option maxRecDepth 100000

end Go.Proofs.YtilpckngghffoaaGreatDoor

namespace Go.Proofs.YtilpckngghffoaaGreatDoor
open Go.RowKit
set_option maxRecDepth 100000

end Go.Proofs.YtilpckngghffoaaGreatDoor

namespace Go.Proofs.YtilpckngghffoaaGreatDoor
open Go.RowKit
set_option maxRecDepth 100000

theorem EOwn.drew {B : Nat} {w : World} {t : PErr} {v : Value} (h : EOwn B w t v) : EOwn B w.drew t v := by
  match t, h with
  | none, h => exact h
  | some (n, l), h => exact h
end Go.Proofs.YtilpckngghffoaaGreatDoor

namespace Go.Proofs.YtilpckngghffoaaGreatDoor
open Go.RowKit
set_option maxRecDepth 100000

end Go.Proofs.YtilpckngghffoaaGreatDoor

namespace Go.Proofs.YtilpckngghffoaaGreatDoor
open Go.RowKit
set_option maxRecDepth 100000

end Go.Proofs.YtilpckngghffoaaGreatDoor

namespace Go.Proofs.YtilpckngghffoaaGreatDoor

end Go.Proofs.YtilpckngghffoaaGreatDoor

namespace Go.Proofs.YtilpckngghffoaaGreatDoor
open Go.RowKit
set_option maxRecDepth 100000

end Go.Proofs.YtilpckngghffoaaGreatDoor

namespace Go.Proofs.YtilpckngghffoaaGreatDoor
open Go.RowKit
set_option maxRecDepth 100000

end Go.Proofs.YtilpckngghffoaaGreatDoor

namespace Go.Proofs.YtilpckngghffoaaGreatDoor
open Go.RowKit
set_option maxRecDepth 100000

theorem symbol_any (K R : Nat) (va : Option Addr) (vn vc : Nat) (T : List Int) (u : Value) (ys : List Int) (w : World) (h : IntsAt w (.slice va vn vc) T) (hr : RuleOk K R T) (hu : IntsAt w u ys) (hy : Syms K ys) (hyl : ys.length = 2 * R + 1) :
    Calls Tryz.prog 172 #[.agg #[.int .i64 K, .int .i64 R, .slice va vn vc], u] w (Ret1 (fun x _ => x = .int .i64 (T.getD (numW K ys) 0)) w) := by
  have hb0 := belowAlloc w (.cells #[.int .i64 K, .int .i64 R, .slice va vn vc] 24)
  have hR := hr.r3
  have hk1 := hr.k1
  have hk4 := hr.k4
  have l1 := hu.len
  have hb7 : ys.length ≤ 7 := by omega
  have hnl : numW K ys < T.length := by rw [hr.len, ← hyl]; exact numW_lt ys hy
  generalize hy0 : T.getD (numW K ys) 0 = y0
  replace hy0 := Lib.hid hy0
  replace hnl := Lib.hid hnl
  replace hyl := Lib.hid hyl
  replace h := Lib.hid (h.below hb0)
  replace hu := Lib.hid (hu.below hb0)
  replace hy := Lib.hid hy
  replace hr := Lib.hid hr
  obtain ⟨ua, un, uc, rfl⟩ := hu.out.shape
  go_enter Tryz.func172, Tryz.ntmps172
  go_wp2
  go_loop [5, 10] (fun n i => ∃ j : Nat, j ≤ ys.length ∧ i = .int .i64 j ∧ n = .int .i64 (numW K (ys.take j))) (fun _ i => ys.length - (intOf i).toNat)
  case atStart => exact ⟨0, by omega, rfl, rfl⟩
  case round =>
    obtain ⟨j, hj, rfl, rfl⟩ := hrel
    by_cases hjl : j < ys.length
    · have i1 := hu.out.idx j hjl
      have c1 := hu.out.cell j hjl
      have hx := hy.out ys[j] (by simp)
      have hn : Hid (numW K (ys.take (j + 1)) = numW K (ys.take j) * K + ys[j].toNat) := by
        show _ = _
        rw [take_snoc ys j hjl, numW_snoc]
      have hn2 : numW K (ys.take j) ≤ 16384 := by
        have h1 := numW_lt (ys.take j) (fun x hx => hy.out x (List.mem_of_mem_take hx))
        have h2 := pw_le hk1 hk4 (i := (ys.take j).length) (by simp; omega)
        omega
      generalize ys[j] = x at c1 hx hn
      generalize numW K (ys.take j) = N at hn hn2
      have hm1 : 0 ≤ (N : Int) * (K : Int) := Int.mul_nonneg (by omega) (by omega)
      have hm2 : (N : Int) * (K : Int) ≤ 65536 := by
        have : N * K ≤ 65536 := Nat.mul_le_mul hn2 hk4
        have h2 := Int.ofNat_le.2 this
        rw [Int.natCast_mul] at h2
        exact h2
      go_wp2
      go_round
      case rel => exact ⟨j + 1, by omega, by go_num, by rw [hn.out]; go_num⟩
      case measure => simp [intOf]; omega
    · obtain rfl : j = ys.length := by omega
      rw [List.take_length]
      have i2 := h.out.idx (numW K ys) hnl.out
      have c2 := h.out.cellD (numW K ys) hnl.out
      rw [hy0.out] at c2
      clear hy0 hnl
      generalize numW K ys = N at i2 c2
      go_wp2
      go_ret
      exact ⟨_, rfl, hb0, rfl⟩

end Go.Proofs.YtilpckngghffoaaGreatDoor

namespace Go.Proofs.YtilpckngghffoaaGreatDoor
open Go.RowKit
set_option maxRecDepth 100000

/-- The table of a function of windows. -/
def madeP (K n : Nat) (s : List Int → Int) (m : Nat) : List Int := (List.range m).map fun x => s (digs K n x)
theorem madeP_length (K n : Nat) (s : List Int → Int) (m : Nat) : (madeP K n s m).length = m := by simp [madeP]

theorem madeP_set (K n : Nat) (s : List Int → Int) (m P : Nat) (h : m < P) : (madeP K n s m ++ List.replicate (P - m) (0 : Int)).set m (s (digs K n m)) = madeP K n s (m + 1) ++ List.replicate (P - (m + 1)) 0 := by
  rw [List.set_append_right _ _ (by rw [madeP_length]; exact Nat.le_refl _), madeP_length, Nat.sub_self, show P - m = (P - (m + 1)) + 1 by omega, List.replicate_succ, List.set_cons_zero, madeP, madeP, List.range_succ, List.map_append, List.append_assoc]
  rfl

set_option maxHeartbeats 800000 in
theorem made_two0 (K R F : Nat) (c1 c2 : Value) (s : List Int → Int) (w : World) (hk1 : 1 ≤ K) (hk4 : K ≤ 4) (hR : R ≤ 3)
    (eg : ∀ args w, (callFunc F args).run Tryz.prog w = .ok (.enter F args) w)
    (hF : ∀ (v : Value) (ys : List Int) (w' : World), Below w.heap.size w w' → IntsAt w' v ys → Syms K ys → ys.length = 2 * R + 1 → Calls Tryz.prog F #[v, c1, c2] w' (Ret1 (fun x _ => x = .int .i64 (s ys)) w')) :
    Calls Tryz.prog 170 #[.int .i64 K, .int .i64 R, .func (.func F) #[] #[c1, c2]] w (Ret1 (fun x w' => ∃ a n c, x = .agg #[.int .i64 K, .int .i64 R, .slice a n c] ∧ OwnI w.heap.size w' (.slice a n c) (madeP K (2 * R + 1) s (pw K (2 * R + 1)))) w) := by
  have hpl := pw_le hk1 hk4 (i := 2 * R + 1) (by omega)
  replace hF := Lib.hid hF
  go_enter Tryz.func170, Tryz.ntmps170
  go_wp2_with fail
  refine (size_ok K R _ hk1 hk4 hR).mono ?_
  rintro e w' ⟨rfl, rfl⟩
  go_wp2_with fail
  have hb0 := belowAlloc w (.cells #[.int .i64 0, .int .i64 0, .slice none 0 0] 24)
  obtain ⟨tv, w1, hmk, ho1, hb1⟩ := run_makeI ((pw K (2 * R + 1) : Nat) : Int) (pw K (2 * R + 1)) (w.alloc (.cells #[.int .i64 0, .int .i64 0, .slice none 0 0] 24)) rfl (by omega)
  obtain ⟨ta, tn, tc, rfl⟩ := ho1.at.shape
  rw [hmk]
  simp only [Result.andThen]
  clear hmk
  generalize hN : 2 * R + 1 = N at *
  go_wp2_with fail
  obtain ⟨wv, w2, hmk2, ho2, hb2⟩ := run_makeI (2 * (R : Int) + 1) N (w1.alloc (.cells #[.int .i64 K, .int .i64 R, .slice ta tn tc] 24)) (by omega) (by omega)
  obtain ⟨wa, wn, wc, rfl⟩ := ho2.at.shape
  rw [hmk2]
  simp only [Result.andThen]
  clear hmk2
  obtain ⟨z0, z1, z2, -, -, -⟩ := cells3 hb2
  have lt := (ho1.at.len)
  rw [List.length_replicate] at lt
  have hN7 : N ≤ 7 := by omega
  replace hN := Lib.hid hN
  have ltb : ∀ k, (Value.slice ta tn tc).ownBlock = some k → k < w1.heap.size := fun k hk => (ho1.lt k hk).2
  have lwn := ho2.at.len
  rw [List.length_replicate] at lwn
  have ho1' := Lib.hid ((ho1.alloc (.cells #[.int .i64 K, .int .i64 R, .slice ta tn tc] 24)).below hb2)
  have zz := Lib.hid (And.intro z0 (And.intro z1 z2))
  have hbw := Lib.hid (hb1.trans ((Below.step (belowAlloc w1 (.cells #[.int .i64 K, .int .i64 R, .slice ta tn tc] 24)) hb2).mono hb1.size))
  replace ho2 := Lib.hid ho2
  replace ltb := Lib.hid ltb
  have hsz1 := hb1.size
  simp at hsz1
  have hM : pw K N = pw K N := rfl
  clear hM
  go_wp2
  go_loopw [32] (fun i wr => ∃ m : Nat, m ≤ pw K N ∧ i = .int .i64 m ∧ OwnI (w.heap.size + 1) wr (.slice ta tn tc) (madeP K N s m ++ List.replicate (pw K N - m) 0) ∧ (∃ p : List Int, p.length = N ∧ OwnI (w1.heap.size + 1) wr (.slice wa wn wc) p) ∧
      (wr.cell? ⟨w1.heap.size, 0, none⟩ = some (.int .i64 K) ∧ wr.cell? ⟨w1.heap.size, 1, none⟩ = some (.int .i64 R) ∧ wr.cell? ⟨w1.heap.size, 2, none⟩ = some (.slice ta tn tc)) ∧
      Below (w.heap.size + 1) (w.alloc (.cells #[.int .i64 0, .int .i64 0, .slice none 0 0] 24)) wr) (fun i _ => pw K N - (intOf i).toNat)
  case atStart => exact ⟨0, by omega, rfl, by simpa [madeP] using ho1'.out, ⟨List.replicate N 0, by simp, by simpa using ho2.out⟩, zz.out, by simpa using hbw.out⟩
  case round =>
    obtain ⟨m, hm, rfl, hT, ⟨p, hp, hP⟩, hz, hbO⟩ := hrel
    obtain ⟨wo, rfl⟩ : ∃ wo : World, wo = wr := ⟨_, rfl⟩
    replace hz := Lib.hid hz
    replace hT := Lib.hid hT
    by_cases hml : m < pw K N
    · have hsz2 : w1.heap.size < wo.heap.size := World.block_lt_of_cell? _ _ hz.out.1
      have hK0 : ((K : Int) == 0) = false := by rw [beq_eq_false_iff_ne]; omega
      have hK1 : ¬ (K : Int) = 0 := by omega
      have hK2 : (0 : Int) < K := by omega
      go_wp2
      go_loopw [12, 38] (fun x i wr => ∃ j : Nat, j ≤ N ∧ i = .int .i64 j ∧ x = .int .i64 (m / pw K j : Nat) ∧ OwnI (w1.heap.size + 1) wr (.slice wa wn wc) (p.take (N - j) ++ (digs K N m).drop (N - j)) ∧ Below (w1.heap.size + 1) wo wr) (fun _ i _ => N - (intOf i).toNat)
      case atStart => exact ⟨0, by omega, rfl, by simp [pw], by rw [Nat.sub_zero, List.drop_of_length_le (by rw [digs_length]; exact Nat.le_refl _), List.append_nil, List.take_of_length_le (by omega)]; exact hP, Below.refl _ _⟩
      case round =>
        obtain ⟨j, hj, rfl, rfl, hO, hbI⟩ := hrel
        obtain ⟨wi, rfl⟩ : ∃ wi : World, wi = wr := ⟨_, rfl⟩
        by_cases hjl : j < N
        · have hXl : (p.take (N - j) ++ (digs K N m).drop (N - j)).length = N := by simp [digs_length]; omega
          have i1 : ∀ w', (Instr.indexAt 22 (.slice wa wn wc) (.int .i64 ((N : Int) - 1 - (j : Int)))).run Tryz.prog w' = .ok (.pointer (some (valAt (.slice wa wn wc) (N - 1 - j)))) w' := by
            intro w'
            have := hO.at.idxI ((N : Int) - 1 - (j : Int)) (by omega) (by rw [hXl]; omega) w'
            rwa [show ((N : Int) - 1 - (j : Int)).toNat = N - 1 - j by omega] at this
          have c1 := hO.at.cellD (N - 1 - j) (by rw [hXl]; omega)
          have f1 := hO.frz (N - 1 - j) (by rw [hXl]; omega)
          have hS := hO.set (N - 1 - j) (by rw [hXl]; omega) ((m / pw K j % K : Nat) : Int)
          have hbS := hO.setBelow hbI (N - 1 - j) (by rw [hXl]; omega) (.int .i64 ((m / pw K j % K : Nat) : Int))
          rw [digs_fill K N m j hjl p hp] at hS
          replace hS := Lib.hid hS
          replace hbS := Lib.hid hbS
          have hqd : m / pw K j / K = m / pw K (j + 1) := by rw [Nat.div_div_eq_div_mul, ← pw_succ]
          replace hqd := Lib.hid hqd
          have hql : m / pw K j ≤ 16384 := Nat.le_trans (Nat.div_le_self _ _) (by omega)
          generalize (p.take (N - j) ++ (digs K N m).drop (N - j)).getD (N - 1 - j) 0 = y at c1
          clear hXl hO
          generalize m / pw K j = q at *
          rw [Int.natCast_emod] at hS hbS
          have hd0 : 0 ≤ (q : Int) / (K : Int) := Int.ediv_nonneg (by omega) (by omega)
          have hd1 : (q : Int) / (K : Int) ≤ 16384 := by
            have h1 : q / K ≤ q := Nat.div_le_self _ _
            have h2 : q / K ≤ 16384 := by omega
            exact_mod_cast h2
          have hdw : IntKind.i64.wrap ((q : Int) / (K : Int)) = (q : Int) / (K : Int) := wrapK (by omega) (by omega)
          go_wp2
          go_roundw
          case rel => exact ⟨j + 1, by omega, by go_num, by rw [← hqd.out]; simp, hS.out, hbS.out⟩
          case measure => simp [intOf]; omega
        · have hjN : j = N := by omega
          subst hjN
          rw [Nat.sub_self, List.take_zero, List.drop_zero, List.nil_append] at hO
          have hbW : Below w.heap.size w wi := ((belowAlloc w _).trans (hbO.mono (by omega))).trans (hbI.mono (by omega))
          have hz2 := hbI.cell (p := ⟨w1.heap.size, 2, none⟩) (by simp)
          have hTl : m < (madeP K j s m ++ List.replicate (pw K j - m) (0 : Int)).length := by simp [madeP_length]; omega
          have hTi := hT.out.belowB hbI (fun k hk => by have := ltb.out k hk; omega)
          have i2 := hTi.at.idx m hTl
          have c2 := hTi.at.cellD m hTl
          have f2 := hTi.frz m hTl
          have b2 := hTi.at.blk m hTl
          have z2i := hz2.trans hz.out.2.2
          have zbi : (⟨w1.heap.size, 2, none⟩ : Addr).block < wi.heap.size := World.block_lt_of_cell? _ _ z2i
          generalize (madeP K j s m ++ List.replicate (pw K j - m) (0 : Int)).getD m 0 = o at c2
          replace hTi := Lib.hid hTi
          replace hO := Lib.hid hO
          replace hbW := Lib.hid hbW
          replace hTl := Lib.hid hTl
          clear hz2
          have hvb : (valAt (.slice ta tn tc) m).block ≠ w1.heap.size := by
            have := ltb.out _ (hT.out.toV.blkB m (by simpa using hTl.out)).1
            omega
          have hdl : m + 1 ≤ pw K j := hml
          go_wp2
          go_region_held3 (fun w' => w'.cell? ⟨w1.heap.size, 2, none⟩ = some (.slice ta tn tc)) (go_keep)
            (first | (refine (hF.out _ (digs K j m) _ (by first | exact hbW.out.drew | exact hbW.out) (by first | exact hO.out.at.drew | exact hO.out.at) (digs_syms hk1 _ _) (by rw [digs_length])).mono ?_; rintro e w5 ⟨x5, rfl, hb5, rfl⟩; have y1 := (hb5.cell zbi).trans z2i; have y2 := (hb5.cell b2).trans c2; have y3 := (hb5.frozen b2).trans f2; have bb : Below wi.heap.size wi w5 := ((Below.refl _ _).drew).trans hb5))
          have hT5 := (hTi.out.drew.below hb5).set m hTl.out (s (digs K j m))
          rw [madeP_set K j s m _ hml] at hT5
          have hO5 := (hO.out.drew.below hb5).setOther (hTi.out.drew.below hb5) (by
            intro e
            have e1 := (hT.out.toV.blkB m (by simpa using hTl.out)).1
            have e2 := (hO.out.lt _ (e.trans e1)).1
            have e3 := ltb.out _ e1
            omega) m hTl.out (.int .i64 (s (digs K j m)))
          have hB5 := ((hbO.trans (hbI.mono (by omega))).trans (bb.mono (by omega))).setCell ((hTi.out.blkB m hTl.out)) (.int .i64 (s (digs K j m)))
          have x0 := (World.cell?_setCell_far w5 (valAt (.slice ta tn tc) m) ⟨w1.heap.size, 0, none⟩ (.int .i64 (s (digs K j m))) hvb).trans (((bb.cell (p := ⟨w1.heap.size, 0, none⟩) zbi)).trans ((hbI.cell (p := ⟨w1.heap.size, 0, none⟩) (by simp)).trans hz.out.1))
          have x1 := (World.cell?_setCell_far w5 (valAt (.slice ta tn tc) m) ⟨w1.heap.size, 1, none⟩ (.int .i64 (s (digs K j m))) hvb).trans (((bb.cell (p := ⟨w1.heap.size, 1, none⟩) zbi)).trans ((hbI.cell (p := ⟨w1.heap.size, 1, none⟩) (by simp)).trans hz.out.2.1))
          have x2 := (World.cell?_setCell_far w5 (valAt (.slice ta tn tc) m) ⟨w1.heap.size, 2, none⟩ (.int .i64 (s (digs K j m))) hvb).trans y1
          have xx := Lib.hid (And.intro x0 (And.intro x1 x2))
          clear x0 x1 x2
          replace hT5 := Lib.hid hT5
          replace hO5 := Lib.hid hO5
          replace hB5 := Lib.hid hB5
          go_wp2
          go_roundw
          case rel => exact ⟨m + 1, by omega, by go_num, hT5.out, ⟨digs K j m, digs_length .., hO5.out⟩, xx.out, hB5.out⟩
          case measure => simp [intOf]; omega
    · obtain rfl : m = pw K N := by omega
      rw [Nat.sub_self, List.replicate_zero, List.append_nil] at hT
      obtain ⟨z0, z1, z2⟩ := hz.out
      obtain ⟨y0, y1, y2, f0, f1, f2⟩ := cells3 (w := w) (show Below (w.alloc (.cells #[.int .i64 0, .int .i64 0, .slice none 0 0] 24)).heap.size _ wo by simpa using hbO)
      replace hbO := Lib.hid hbO
      go_wp2
      refine bodyPost_ret (v := .agg #[.int .i64 K, .int .i64 R, .slice ta tn tc]) (by simp [results, Tryz.results170, go_sem, y0, y1, y2]) rfl ⟨_, rfl, ?_, ta, tn, tc, rfl, ?_⟩
      · exact (((belowAlloc w _).trans (hbO.out.mono (by omega))).setCell (by simp) _).setCell (by simp) _ |>.setCell (by simp) _
      · rw [hN.out]; exact (((hT.out.setBelowBase (a := ⟨w.heap.size, 0, none⟩) (by simp) _).setBelowBase (a := ⟨w.heap.size, 1, none⟩) (by simp) _).setBelowBase (a := ⟨w.heap.size, 2, none⟩) (by simp) _).mono (Nat.le_succ _)

theorem made_two (K R F : Nat) (c1 c2 : Value) (s : List Int → Int) (w : World) (hk1 : 1 ≤ K) (hk4 : K ≤ 4) (hR : R ≤ 3) (Ri : Int) (hRi : Ri = R)
    (eg : ∀ args w, (callFunc F args).run Tryz.prog w = .ok (.enter F args) w)
    (hF : ∀ (v : Value) (ys : List Int) (w' : World), Below w.heap.size w w' → IntsAt w' v ys → Syms K ys → ys.length = 2 * R + 1 → Calls Tryz.prog F #[v, c1, c2] w' (Ret1 (fun x _ => x = .int .i64 (s ys)) w')) :
    Calls Tryz.prog 170 #[.int .i64 K, .int .i64 Ri, .func (.func F) #[] #[c1, c2]] w (Ret1 (fun x w' => ∃ a n c, x = .agg #[.int .i64 K, .int .i64 R, .slice a n c] ∧ OwnI w.heap.size w' (.slice a n c) (madeP K (2 * R + 1) s (pw K (2 * R + 1)))) w) := by
  subst hRi
  exact made_two0 K R F c1 c2 s w hk1 hk4 hR eg hF
end Go.Proofs.YtilpckngghffoaaGreatDoor

namespace Go.Proofs.YtilpckngghffoaaGreatDoor
open Go.RowKit
set_option maxRecDepth 100000

abbrev zR : Value := .agg #[.int .i64 0, .int .i64 0, .slice none 0 0]
def sForms : ByteArray := ⟨#[102, 111, 114, 109, 115]⟩
theorem forms_check (r : Nat → Addr) (at_ : Int) (k R : Int) (va : Option Addr) (vn vc : Nat) (xs : List Int) (w : World) (hg : Glob r w) (h : IntsAt w (.slice va vn vc) xs) :
    Calls Tryz.prog 143 #[.int .i64 at_, .agg #[.int .i64 k, .int .i64 R, .slice va vn vc]] w (Ret1 (fun x w' => ErrIs r w' (under sForms at_ (checkP k R xs)) x) w) := by
  have hb0 := belowAlloc w (.cells #[.int .i64 k, .int .i64 R, .slice va vn vc] 24)
  replace hg := Lib.hid (hg.below hb0)
  replace h := Lib.hid (h.below hb0)
  go_enter Tryz.func143, Tryz.ntmps143
  go_wp2_with fail
  refine (check_any r k R _ xs _ hg.out h.out).mono ?_
  rintro e w1 ⟨x, rfl, hb, he⟩
  go_wp2_with fail
  refine (under_any r _ _ _ _ _ he).mono ?_
  rintro e w2 ⟨x, rfl, hb', he⟩
  go_wp2
  go_ret
  exact ⟨_, rfl, Below.step hb0 (Below.step hb hb'), he⟩

end Go.Proofs.YtilpckngghffoaaGreatDoor
