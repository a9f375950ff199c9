/-
  Plain mathematics: what stays where again and again vertices are taken away to which, or from which, no arrow leads.
  Walk: edenref12.turned: the arrows the other way round, each as often.
  Walk: edenref12.far: how far it is from a vertex.
  Walk: edenref12.way: the first of the shortest ways, by going down.
  Walks: package additive.
  Walks: edenref18.Fault.
  Plain law of AddParts: a table is a sum just if each window is the sum of two.
  Plain mathematics of AddSums: a product may be turned; the factors of a sum at one symbol alone; factors taken modulo k.
  Plain mathematics: the reference's sums, window by window; what it tells by the factors; its products.
  Walk: edenref18.Sum.
  What the document's answers of layer 12 share: the error's box.
  Plain mathematics: what stands on a loop.
  Plain mathematics: the peeling of a graph, step by step; what it leaves are the live vertices.
  Walk: edenref12.Live.
  Walk: rule.Step at a rule and a word of its symbols.
  Walks: forms.symbol, forms.behind$1.
  Walk: forms.made, with a function that holds two things.
  Walks: forms.behind, forms.check, forms.wrong, forms.Compose.
  Pieces of a slice of ints: s[k:], s[k:l].
  Plain mathematics: the document's sides, mirrored rule and preimages with given ends are the program's.
  Plain mathematics: the sides of mirrored, renamed and composed rules.
-/
import Derived.Test.YtmhiambkfdkkbaaDoorMIc4
import Derived.BigQuiet
import Derived.Deep.RegionHeld3
namespace Go.Proofs.YtmhiambkfdkkbaaDoor

/-- The sum of F over the first n. -/
def sumN (F : Nat → Nat) : Nat → Nat
  | 0 => 0
  | n + 1 => sumN F n + F n
theorem sumN_congr {F F' : Nat → Nat} : ∀ {n}, (∀ v, v < n → F v = F' v) → sumN F n = sumN F' n
  | 0, _ => rfl
  | n + 1, h => by
    show sumN F n + F n = sumN F' n + F' n
    rw [sumN_congr (n := n) (fun v hv => h v (by omega)), h n (by omega)]
theorem sumN_pos {F : Nat → Nat} : ∀ {n}, 0 < sumN F n ↔ ∃ v, v < n ∧ 0 < F v
  | 0 => by simp [sumN]
  | n + 1 => by
    show 0 < sumN F n + F n ↔ _
    constructor
    · intro h
      by_cases e : 0 < sumN F n
      · obtain ⟨v, h1, h2⟩ := sumN_pos.1 e; exact ⟨v, by omega, h2⟩
      · exact ⟨n, by omega, by omega⟩
    · rintro ⟨v, h1, h2⟩
      by_cases e : v = n
      · subst e; omega
      · have := sumN_pos.2 ⟨v, show v < n by omega, h2⟩; omega
theorem sumN_upd {F F' : Nat → Nat} {v : Nat} (h : ∀ u, u ≠ v → F' u = F u) : ∀ {n}, v < n → sumN F' n + F v = sumN F n + F' v
  | 0, q => by omega
  | n + 1, q => by
    show sumN F' n + F' n + F v = sumN F n + F n + F' v
    by_cases e : v = n
    · subst e
      rw [sumN_congr (n := v) (fun u hu => h u (by omega))]; omega
    · have := sumN_upd h (n := n) (by omega)
      rw [h n (fun q => e q.symm)]; omega
theorem sumN_zero : ∀ n, sumN (fun _ => 0) n = 0
  | 0 => rfl
  | n + 1 => by show sumN _ n + 0 = 0; rw [sumN_zero n]
theorem sumN_add (F F' : Nat → Nat) : ∀ n, sumN (fun v => F v + F' v) n = sumN F n + sumN F' n
  | 0 => rfl
  | n + 1 => by show sumN _ n + (F n + F' n) = sumN F n + F n + (sumN F' n + F' n); rw [sumN_add F F' n]; omega
theorem sumN_one (x : Nat) : ∀ n, sumN (fun v => if v = x then 1 else 0) n = if x < n then 1 else 0
  | 0 => rfl
  | n + 1 => by
    show sumN _ n + (if n = x then 1 else 0) = _
    rw [sumN_one x n]
    by_cases e : n = x
    · subst e; simp
    · rw [if_neg e]
      by_cases q : x < n
      · rw [if_pos q, if_pos (by omega)]
      · rw [if_neg q, if_neg (by omega)]
/-- A list of numbers below n: its length, counted number by number. -/
theorem length_counts (n : Nat) : ∀ (l : List Nat), (∀ x ∈ l, x < n) → l.length = sumN (fun v => l.count v) n
  | [], _ => by simp [sumN_zero]
  | x :: l, h => by
    have ih := length_counts n l (fun y hy => h y (List.mem_cons_of_mem _ hy))
    have e : (fun v => (x :: l).count v) = fun v => l.count v + if v = x then 1 else 0 := by
      funext v
      rw [List.count_cons]
      by_cases q : x = v
      · simp [q]
      · rw [if_neg (by simpa using q), if_neg (fun r => q r.symm)]
    rw [e, sumN_add, sumN_one, if_pos (h x List.mem_cons_self), ← ih, List.length_cons]

/-- inn tells how many arrows lead to t, of those not gone through: the first c v of v's are. -/
def Deg (n : Nat) (A : Nat → List Nat) (c inn : Nat → Nat) : Prop := ∀ t, t < n → inn t = sumN (fun v => ((A v).drop (c v)).count t) n
theorem Deg.init {n : Nat} {A B : Nat → List Nat} (hB : ∀ t, t < n → ∀ x ∈ B t, x < n) (hc : ∀ v t, v < n → t < n → (B t).count v = (A v).count t) : Deg n A (fun _ => 0) (fun t => (B t).length) := by
  intro t ht
  show (B t).length = _
  rw [length_counts n _ (hB t ht)]
  exact sumN_congr fun v hv => by rw [hc v t hv ht, List.drop_zero]
theorem Deg.step {n : Nat} {A : Nat → List Nat} {c inn : Nat → Nat} {v j t : Nat} (h : Deg n A c inn) (hv : v < n) (hj : c v = j) (ht : (A v)[j]? = some t) (htn : t < n) :
    0 < inn t ∧ Deg n A (updN c v (j + 1)) (updN inn t (inn t - 1)) := by
  have hjl : j < (A v).length := get_of ht
  have hd : (A v).drop j = t :: (A v).drop (j + 1) := by
    rw [List.drop_eq_getElem_cons hjl]
    rw [List.getElem?_eq_getElem hjl] at ht; injection ht with ht; rw [ht]
  have key : ∀ x, sumN (fun u => ((A u).drop (updN c v (j + 1) u)).count x) n + (if x = t then 1 else 0) = sumN (fun u => ((A u).drop (c u)).count x) n := by
    intro x
    have := sumN_upd (F := fun u => ((A u).drop (c u)).count x) (F' := fun u => ((A u).drop (updN c v (j + 1) u)).count x) (v := v) (fun u hu => by simp only [updN_other _ _ _ hu]) hv
    simp only [updN_same, hj, hd, List.count_cons] at this
    by_cases e : x = t
    · subst e; rw [if_pos rfl]; simp at this; omega
    · rw [if_neg e]
      have e2 : (t == x) = false := by simpa using fun q => e q.symm
      rw [e2] at this; simp at this; omega
  have h1 := key t
  rw [if_pos rfl, ← h t htn] at h1
  refine ⟨by omega, fun x hx => ?_⟩
  have h2 := key x
  by_cases e : x = t
  · subst e; rw [updN_same]; omega
  · rw [updN_other _ _ _ e, h x hx]; rw [if_neg e] at h2; omega

/-- The peeling: what has gone stands in the queue; the first i of it have been gone through, and of the next the first j and k arrows. -/
structure Peel (n : Nat) (A B : Nat → List Nat) (inn out : Nat → Nat) (c d : Nat → Nat) (gone : Nat → Bool) (q : List Nat) (lives : Nat → Prop) : Prop where
  deg1 : Deg n A c inn
  deg2 : Deg n B d out
  nodup : q.Nodup
  goneq : ∀ x, gone x = true ↔ x ∈ q
  low : ∀ x ∈ q, x < n
  fresh : ∀ v, v ∉ q → c v = 0 ∧ d v = 0
  keep : ∀ t, t < n → lives t → gone t = false
/-- A live vertex has live neighbours on both sides. -/
structure LiveSet (n : Nat) (A B : Nat → List Nat) (lives : Nat → Prop) : Prop where
  behind : ∀ t, t < n → lives t → ∃ p, p < n ∧ lives p ∧ t ∈ A p
  ahead : ∀ t, t < n → lives t → ∃ p, p < n ∧ lives p ∧ t ∈ B p
section
variable {n : Nat} {A B : Nat → List Nat} {inn out c d : Nat → Nat} {gone : Nat → Bool} {q : List Nat} {lives : Nat → Prop}
theorem Peel.live_in (h : Peel n A B inn out c d gone q lives) (hL : LiveSet n A B lives) {t : Nat} (ht : t < n) (hl : lives t) : 0 < inn t ∧ 0 < out t := by
  have aux : ∀ p, p < n → lives p → c p = 0 ∧ d p = 0 := fun p hp hlp => h.fresh p (fun q => by have := (h.goneq p).2 q; rw [h.keep p hp hlp] at this; cases this)
  refine ⟨?_, ?_⟩
  · obtain ⟨p, hp, hlp, hm⟩ := hL.behind t ht hl
    rw [h.deg1 t ht]
    refine sumN_pos.2 ⟨p, hp, ?_⟩
    rw [(aux p hp hlp).1, List.drop_zero]
    exact List.count_pos_iff.2 hm
  · obtain ⟨p, hp, hlp, hm⟩ := hL.ahead t ht hl
    rw [h.deg2 t ht]
    refine sumN_pos.2 ⟨p, hp, ?_⟩
    rw [(aux p hp hlp).2, List.drop_zero]
    exact List.count_pos_iff.2 hm
/-- A vertex goes. -/
theorem Peel.goes (h : Peel n A B inn out c d gone q lives) (hL : LiveSet n A B lives) {t : Nat} (ht : t < n) (hg : gone t = false) (h0 : inn t = 0 ∨ out t = 0) : Peel n A B inn out c d (updN gone t true) (q ++ [t]) lives := by
  have htq : t ∉ q := fun r => by have := (h.goneq t).2 r; rw [hg] at this; cases this
  refine ⟨h.deg1, h.deg2, ?_, fun x => ?_, fun x hx => ?_, fun v hv => h.fresh v (fun r => hv (List.mem_append_left _ r)), fun x hx hl => ?_⟩
  · exact List.nodup_append.2 ⟨h.nodup, by simp, fun x hx y hy e => by cases List.mem_singleton.1 hy; subst e; exact htq hx⟩
  · by_cases e : x = t
    · subst e; rw [updN_same]; simp
    · rw [updN_other _ _ _ e, h.goneq]; simp [e]
  · rcases List.mem_append.1 hx with hx | hx
    · exact h.low x hx
    · cases List.mem_singleton.1 hx; exact ht
  · by_cases e : x = t
    · subst e
      have := h.live_in hL hx hl; omega
    · rw [updN_other _ _ _ e]; exact h.keep x hx hl
/-- An arrow of a vertex that has gone. -/
theorem Peel.arrow1 (h : Peel n A B inn out c d gone q lives) {v j t : Nat} (hv : v ∈ q) (hj : c v = j) (ht : (A v)[j]? = some t) (htn : t < n) :
    0 < inn t ∧ Peel n A B (updN inn t (inn t - 1)) out (updN c v (j + 1)) d gone q lives := by
  obtain ⟨h1, h2⟩ := h.deg1.step (h.low v hv) hj ht htn
  exact ⟨h1, h2, h.deg2, h.nodup, h.goneq, h.low, fun u hu => by
    have e : u ≠ v := fun e => hu (by rw [e]; exact hv)
    rw [updN_other _ _ _ e]; exact h.fresh u hu, h.keep⟩
theorem Peel.arrow2 (h : Peel n A B inn out c d gone q lives) {v j t : Nat} (hv : v ∈ q) (hj : d v = j) (ht : (B v)[j]? = some t) (htn : t < n) :
    0 < out t ∧ Peel n A B inn (updN out t (out t - 1)) c (updN d v (j + 1)) gone q lives := by
  obtain ⟨h1, h2⟩ := h.deg2.step (h.low v hv) hj ht htn
  exact ⟨h1, h.deg1, h2, h.nodup, h.goneq, h.low, fun u hu => by
    have e : u ≠ v := fun e => hu (by rw [e]; exact hv)
    rw [updN_other _ _ _ e]; exact h.fresh u hu, h.keep⟩
/-- At the end each vertex that is left has neighbours that are left, on both sides. -/
theorem Peel.left (h : Peel n A B inn out c d gone q lives) (hall : ∀ v ∈ q, c v = (A v).length ∧ d v = (B v).length) (hpos : ∀ t, t < n → gone t = false → 0 < inn t ∧ 0 < out t) {t : Nat} (ht : t < n) (hg : gone t = false) :
    (∃ p, p < n ∧ gone p = false ∧ t ∈ A p) ∧ ∃ p, p < n ∧ gone p = false ∧ t ∈ B p := by
  obtain ⟨h1, h2⟩ := hpos t ht hg
  rw [h.deg1 t ht] at h1
  rw [h.deg2 t ht] at h2
  obtain ⟨p, hp, hc⟩ := sumN_pos.1 h1
  obtain ⟨p2, hp2, hc2⟩ := sumN_pos.1 h2
  refine ⟨⟨p, hp, ?_, List.mem_of_mem_drop (List.count_pos_iff.1 hc)⟩, ⟨p2, hp2, ?_, List.mem_of_mem_drop (List.count_pos_iff.1 hc2)⟩⟩
  · cases hgp : gone p with
    | false => rfl
    | true => rw [(hall p ((h.goneq p).1 hgp)).1, List.drop_length] at hc; simp at hc
  · cases hgp : gone p2 with
    | false => rfl
    | true => rw [(hall p2 ((h.goneq p2).1 hgp)).2, List.drop_length] at hc2; simp at hc2
end
/-- From a set that one never has to leave, a loop can be reached. -/
theorem set_loop {n : Nat} {A : Nat → List Nat} {S : Nat → Prop} (hS : ∀ x, S x → x < n) (hs : ∀ x, S x → ∃ t ∈ A x, S t) {x : Nat} (hx : S x) : ∃ u, u < n ∧ (∃ t ∈ A u, Goes A t u) ∧ Goes A x u := by
  apply Classical.byContradiction
  intro hno
  have key : ∀ k, ∃ w y, Way A x y w ∧ w.length = k + 1 ∧ w.Nodup ∧ (∀ z ∈ w, S z) ∧ S y := by
    intro k
    induction k with
    | zero => exact ⟨[x], x, .one x, rfl, by simp, fun z hz => by cases List.mem_singleton.1 hz; exact hx, hx⟩
    | succ k ih =>
      obtain ⟨w, y, h1, h2, h3, h4, h5⟩ := ih
      obtain ⟨t, ht, hst⟩ := hs y h5
      have htw : t ∉ w := fun hm => by
        obtain ⟨u, hu, _⟩ := h1.mem t hm
        exact hno ⟨y, hS y h5, ⟨t, ht, hu.goes⟩, h1.goes⟩
      refine ⟨w ++ [t], t, h1.snoc ht, by simp [h2], List.nodup_append.2 ⟨h3, by simp, fun a ha b hb e => by cases List.mem_singleton.1 hb; subst e; exact htw ha⟩, fun z hz => ?_, hst⟩
      rcases List.mem_append.1 hz with hz | hz
      · exact h4 z hz
      · cases List.mem_singleton.1 hz; exact hst
  obtain ⟨w, y, h1, h2, h3, h4, _⟩ := key n
  have hl : ∀ (n : Nat) (l : List Nat), l.Nodup → (∀ x ∈ l, x < n) → l.length ≤ n := by
    intro n
    induction n with
    | zero => intro l _ h; cases l with
      | nil => simp
      | cons a l => exact absurd (h a List.mem_cons_self) (by omega)
    | succ n ih =>
      intro l hl h
      have h1 := ih (l.erase n) (hl.erase n) (fun x hx => by
        have := h x (List.mem_of_mem_erase hx)
        have : x ≠ n := fun e => by subst e; exact (List.Nodup.not_mem_erase hl) hx
        omega)
      have := List.length_erase (a := n) (l := l)
      split at this <;> omega
  have := hl n w h3 (fun z hz => hS z (h4 z hz))
  omega
end Go.Proofs.YtmhiambkfdkkbaaDoor

namespace Go.Proofs.YtmhiambkfdkkbaaDoor
open Go.RowKit
set_option maxRecDepth 100000

/-- How often what is told stands there. -/
def CntTo (G : List (List Int)) (k j : Nat) (F : Nat → List Int) : Prop :=
  ∀ t, t < G.length → ∀ v : Nat, (F t).count (v : Int) = if v < k then (G.getD v []).count (t : Int) else if v = k then ((G.getD k []).take j).count (t : Int) else 0
theorem CntTo.zero (G : List (List Int)) : CntTo G 0 0 (fun _ => []) := by
  intro t _ v
  rw [if_neg (by omega)]
  split <;> simp
theorem CntTo.next {G : List (List Int)} {k : Nat} {F : Nat → List Int} (h : CntTo G k (G.getD k []).length F) : CntTo G (k + 1) 0 F := by
  intro t ht v
  rw [h t ht v, List.take_length]
  by_cases e : v < k
  · rw [if_pos e, if_pos (by omega)]
  · rw [if_neg e]
    by_cases e2 : v = k
    · subst e2; rw [if_pos rfl, if_pos (by omega)]
    · rw [if_neg e2, if_neg (by omega)]
      split <;> simp
theorem CntTo.add {G : List (List Int)} {k j u : Nat} {F : Nat → List Int} (h : CntTo G k j F) (hj : (G.getD k [])[j]? = some (u : Int)) : CntTo G k (j + 1) (updN F u (F u ++ [(k : Int)])) := by
  have htk : (G.getD k []).take (j + 1) = (G.getD k []).take j ++ [(u : Int)] := by
    rw [List.take_add_one, hj]; rfl
  intro t ht v
  have h1 := h t ht v
  rw [htk, List.count_append]
  by_cases e : t = u
  · subst e
    rw [updN_same, List.count_append, h1]
    by_cases e1 : v < k
    · rw [if_pos e1, if_pos e1]
      have : ([(k : Int)] : List Int).count (v : Int) = 0 := by
        rw [List.count_eq_zero]; simp; omega
      omega
    · rw [if_neg e1, if_neg e1]
      by_cases e2 : v = k
      · subst e2; rw [if_pos rfl, if_pos rfl]; simp
      · rw [if_neg e2, if_neg e2]
        rw [Nat.zero_add, List.count_eq_zero]; simp; omega
  · rw [updN_other _ _ _ e, h1]
    have : ([(u : Int)] : List Int).count (t : Int) = 0 := by
      rw [List.count_eq_zero]; simp; omega
    rw [this, Nat.add_zero]
/-- Turned, with how often. -/
structure TurnedX (G H : List (List Int)) : Prop where
  t : TurnedOf G H
  cnt : ∀ t v, t < G.length → v < G.length → (adjOf H t).count v = (adjOf G v).count t
theorem count_toNat : ∀ (l : List Int) (x : Nat), (∀ y ∈ l, 0 ≤ y) → (l.map Int.toNat).count x = l.count (x : Int)
  | [], _, _ => rfl
  | a :: l, x, h => by
    rw [List.map_cons, List.count_cons, List.count_cons, count_toNat l x (fun y hy => h y (List.mem_cons_of_mem _ hy))]
    have ha := h a List.mem_cons_self
    by_cases e : a = (x : Int)
    · subst e; simp
    · have : ¬ a.toNat = x := by omega
      simp [e, this]
theorem TurnedX.of {G : List (List Int)} {F : Nat → List Int} (hok : GraphOk G) (h : BackTo G G.length 0 F) (hc : CntTo G G.length 0 F) : TurnedX G (rowsOf G.length F) := by
  have hT := h.turned
  refine ⟨hT, fun t v ht hv => ?_⟩
  unfold adjOf
  rw [rowsOf_get _ _ _ ht, count_toNat, count_toNat, hc t ht v, if_pos hv]
  · exact fun y hy => (hok v hv y hy).1
  · intro y hy
    obtain ⟨v, rfl, _⟩ := ((h t ht).2 y).1 hy
    omega

/-- Lists of which all was made from block B on. -/
def ListsFrom (B : Nat) (w : World) (v : Value) (G : List (List Int)) : Prop :=
  ∃ vs : List Value, OwnV 22 B w v vs ∧ vs.length = G.length ∧ ∀ i, i < G.length → OwnI B w (vAt vs i) (G.getD i [])
theorem ListsFrom.at {B : Nat} {w : World} {v : Value} {G : List (List Int)} (h : ListsFrom B w v G) : ListsAt w v G := by
  obtain ⟨vs, h1, h2, h3⟩ := h
  exact ⟨vs, h1.at, h2, fun i hi => (h3 i hi).at⟩
theorem ListsFrom.below {B : Nat} {w w' : World} {v : Value} {G : List (List Int)} (h : ListsFrom B w v G) (hb : Below w.heap.size w w') : ListsFrom B w' v G := by
  obtain ⟨vs, h1, h2, h3⟩ := h
  exact ⟨vs, h1.below hb, h2, fun i hi => (h3 i hi).below hb⟩
theorem ListsFrom.set {B : Nat} {w : World} {v : Value} {G : List (List Int)} (h : ListsFrom B w v G) {a : Addr} (ha : a.block < B) (u : Value) : ListsFrom B (w.setCell a u) v G := by
  obtain ⟨vs, h1, h2, h3⟩ := h
  exact ⟨vs, OwnV.setBelowBase h1 ha u, h2, fun i hi => OwnV.toI (OwnV.setBelowBase (h3 i hi).toV ha u)⟩
theorem WN.from {B : Nat} {w : World} {f : Names} {ov : Value} {vals : List Value} {n : Nat} {F : Nat → List Int} (h : WN f ov vals n F) (hr : Rows B w f) : ListsFrom B w ov (rowsOf n F) :=
  ⟨vals, hr.ownV h.outer, by rw [h.len, rowsOf_len], fun i hi => by
    rw [rowsOf_len] at hi
    rw [rowsOf_get n F i hi]
    exact hr.ownI (h.rows i hi)⟩

end Go.Proofs.YtmhiambkfdkkbaaDoor

namespace Go.Proofs.YtmhiambkfdkkbaaDoor
open Go.RowKit
set_option maxRecDepth 100000

theorem run_makeN (n : Nat) (w : World) (hn : n ≤ 10000) :
    ∃ v w', (Instr.makeSlice 22 (.int .i64 n) (.int .i64 n)).run Tryd.prog w = .ok v w' ∧ OwnI w.heap.size w' v (List.replicate n 0) ∧ Below w.heap.size w w' := by
  obtain ⟨v, w', h1, h2, h3⟩ := run_makeW oneInts (n : Int) n w rfl (by omega)
  exact ⟨v, w', h1, OwnV.toI (by rw [List.map_replicate]; exact h2), h3⟩
theorem tabI_congr {n : Nat} {f g : Nat → Int} (h : ∀ t, t < n → f t = g t) : tabI n f = tabI n g := by
  unfold tabI
  exact List.map_congr_left fun t ht => h t (List.mem_range.1 ht)
theorem tabI_zero (n : Nat) : tabI n (fun _ => 0) = List.replicate n 0 := by
  unfold tabI; apply List.ext_getElem <;> simp
/-- The first i are -1. -/
def negTo (i t : Nat) : Int := if t < i then -1 else 0
theorem negTo_next (i : Nat) : updN (negTo i) i (-1) = negTo (i + 1) := by
  funext t
  unfold negTo
  by_cases e : t = i
  · subst e; rw [updN_same, if_pos (by omega)]
  · rw [updN_other _ _ _ e]
    by_cases q : t < i
    · rw [if_pos q, if_pos (by omega)]
    · rw [if_neg q, if_neg (by omega)]
theorem negTo_zero (n : Nat) : tabI n (negTo 0) = List.replicate n 0 := by
  rw [← tabI_zero]; exact tabI_congr fun t _ => by unfold negTo; rw [if_neg (by omega)]
theorem negTo_all (n : Nat) : tabI n (negTo n) = tabI n (fun _ => -1) := tabI_congr fun t ht => by unfold negTo; rw [if_pos ht]

end Go.Proofs.YtmhiambkfdkkbaaDoor

namespace Go.Proofs.YtmhiambkfdkkbaaDoor
open Go.RowKit
set_option maxRecDepth 100000

theorem turned_way {G H : List (List Int)} (h : TurnedOf G H) (hok : GraphOk G) {x y : Nat} {w : List Nat} (hw : Way (adjOf G) x y w) (hx : x < G.length) : Way (adjOf H) y x w.reverse := by
  induction hw with
  | one => exact .one _
  | @cons x t y w ht hw ih =>
    have htn := hok.lt x hx t ht
    rw [List.reverse_cons]
    exact (ih htn).snoc ((turned_adj h hok htn).2 ⟨hx, ht⟩)
theorem way_turned {G H : List (List Int)} (h : TurnedOf G H) (hok : GraphOk G) {x y : Nat} {w : List Nat} (hw : Way (adjOf H) x y w) (hx : x < G.length) : Way (adjOf G) y x w.reverse := by
  induction hw with
  | one => exact .one _
  | @cons x t y w ht hw ih =>
    obtain ⟨htn, hxt⟩ := (turned_adj h hok hx).1 ht
    rw [List.reverse_cons]
    exact (ih htn).snoc hxt
theorem far_to {G H : List (List Int)} (h : TurnedOf G H) (hok : GraphOk G) {s : Nat} (hs : s < G.length) {D : Nat → Int} (hf : FarOf G.length (adjOf H) s D) : ToOf G.length (adjOf G) s D := by
  intro t ht
  rcases hf t ht with ⟨h1, h2⟩ | ⟨w, h1, h2, h3⟩
  · exact .inl ⟨h1, fun q => h2 (goes_turned h hok q ht)⟩
  · refine .inr ⟨w.reverse, way_turned h hok h1 hs, by simpa using h2, fun u hu => ?_⟩
    have := h3 _ (turned_way h hok hu ht)
    simpa using this

/-- The least of the first k neighbours that are nearer by one. -/
def BestTo (l : List Nat) (D : Nat → Int) (d : Int) (k : Nat) (b : Int) : Prop :=
  (b = -1 ∧ ∀ t ∈ l.take k, D t ≠ d) ∨ ∃ m : Nat, b = m ∧ m ∈ l.take k ∧ D m = d ∧ ∀ t ∈ l.take k, D t = d → m ≤ t
theorem BestTo.zero (l : List Nat) (D : Nat → Int) (d : Int) : BestTo l D d 0 (-1) := .inl ⟨rfl, fun t ht => by simp at ht⟩
theorem BestTo.low {l : List Nat} {D : Nat → Int} {d : Int} {k : Nat} {b : Int} (h : BestTo l D d k b) : -1 ≤ b := by
  rcases h with ⟨h, _⟩ | ⟨m, h, _⟩ <;> omega
theorem take_mem {l : List Nat} {k t : Nat} (ht : l[k]? = some t) (x : Nat) : x ∈ l.take (k + 1) ↔ x ∈ l.take k ∨ x = t := by
  rw [List.take_add_one, ht]; simp
theorem BestTo.skip {l : List Nat} {D : Nat → Int} {d : Int} {k : Nat} {b : Int} (h : BestTo l D d k b) {t : Nat} (ht : l[k]? = some t) (hd : D t ≠ d) : BestTo l D d (k + 1) b := by
  rcases h with ⟨h1, h2⟩ | ⟨m, h1, h2, h3, h4⟩
  · refine .inl ⟨h1, fun x hx => ?_⟩
    rcases (take_mem ht x).1 hx with hx | rfl
    · exact h2 x hx
    · exact hd
  · refine .inr ⟨m, h1, (take_mem ht m).2 (.inl h2), h3, fun x hx hxd => ?_⟩
    rcases (take_mem ht x).1 hx with hx | rfl
    · exact h4 x hx hxd
    · exact absurd hxd hd
theorem BestTo.take {l : List Nat} {D : Nat → Int} {d : Int} {k : Nat} {b : Int} (h : BestTo l D d k b) {t : Nat} (ht : l[k]? = some t) (hd : D t = d) (hb : b < 0 ∨ (t : Int) < b) : BestTo l D d (k + 1) t := by
  refine .inr ⟨t, rfl, (take_mem ht t).2 (.inr rfl), hd, fun x hx hxd => ?_⟩
  rcases (take_mem ht x).1 hx with hx | rfl
  · rcases h with ⟨h1, h2⟩ | ⟨m, h1, h2, h3, h4⟩
    · exact absurd hxd (h2 x hx)
    · have := h4 x hx hxd; omega
  · exact Nat.le_refl _
theorem BestTo.stay {l : List Nat} {D : Nat → Int} {d : Int} {k : Nat} {b : Int} (h : BestTo l D d k b) {t : Nat} (ht : l[k]? = some t) (hb : 0 ≤ b) (hbt : b ≤ t) : BestTo l D d (k + 1) b := by
  rcases h with ⟨h1, h2⟩ | ⟨m, h1, h2, h3, h4⟩
  · omega
  · refine .inr ⟨m, h1, (take_mem ht m).2 (.inl h2), h3, fun x hx hxd => ?_⟩
    rcases (take_mem ht x).1 hx with hx | rfl
    · exact h4 x hx hxd
    · omega

/-- Where the way stands. -/
structure Down (n : Nat) (adj : Nat → List Nat) (x y : Nat) (D : Nat → Int) (out : List Nat) (v : Nat) : Prop where
  low : v < n
  there : 0 ≤ D v
  len : (out.length : Int) + D v = D x + 1
  last : ∃ pre, out = pre ++ [v]
  ext : ∀ u, IsFirst adj v y u → ∀ pre, out = pre ++ [v] → IsFirst adj x y (pre ++ u)
theorem Down.start {n : Nat} {adj : Nat → List Nat} {x y : Nat} {D : Nat → Int} (hx : x < n) (h0 : 0 ≤ D x) : Down n adj x y D [x] x :=
  ⟨hx, h0, by simp; omega, ⟨[], rfl⟩, fun u hu pre hp => by
    cases pre with
    | nil => exact hu
    | cons a pre => simp at hp⟩
theorem Down.next {n : Nat} {adj : Nat → List Nat} {x y : Nat} {D : Nat → Int} {out : List Nat} {v m : Nat} (h : Down n adj x y D out v) (hT : ToOf n adj y D) (hlt : ∀ v, v < n → ∀ t ∈ adj v, t < n) (hm : m ∈ adj v) (hd : D m = D v - 1) (h1 : 1 ≤ D v)
    (hmin : ∀ t ∈ adj v, D t = D v - 1 → m ≤ t) : Down n adj x y D (out ++ [m]) m := by
  refine ⟨hlt v h.low m hm, by omega, by rw [List.length_append, List.length_singleton]; have := h.len; omega, ⟨out, rfl⟩, fun u hu pre hp => ?_⟩
  have hp2 : out = pre := List.append_inj_left' hp rfl
  subst hp2
  obtain ⟨pre, hpre⟩ := h.last
  have := h.ext (v :: u) (step_first hT hlt h.low hm hd (by omega) hmin hu) pre hpre
  rw [hpre, List.append_assoc]
  exact this
theorem IsFirst.one (adj : Nat → List Nat) (y : Nat) : IsFirst adj y y [y] := by
  refine ⟨.one y, fun u hu => hu.pos, fun u hu hl => ?_⟩
  obtain ⟨w, rfl⟩ := hu.ne
  cases w with
  | nil => exact lexLe_refl _
  | cons a w => simp at hl
theorem Down.stop {n : Nat} {adj : Nat → List Nat} {x y : Nat} {D : Nat → Int} {out : List Nat} (h : Down n adj x y D out y) : IsFirst adj x y out := by
  obtain ⟨pre, hpre⟩ := h.last
  rw [hpre]
  exact h.ext [y] (IsFirst.one adj y) pre hpre

theorem row_push {B : Nat} {w w1 : World} {f : Names} {i : Nat × Nat} {qv qv' : Value} {q : List Nat} (hr : Rows B w f) (hf : f i = some (rowI qv (castI q))) (t : Nat) (ho : OwnI B w1 qv' (castI q ++ [(t : Int)]))
    (hal : (roomOf qv' = roomOf qv ∧ w.grownBy w1 qv.ownBlock) ∨ (∃ k, qv'.ownBlock = some k ∧ w.heap.size ≤ k ∧ w.grownBy w1 none)) : Rows B w1 (upd f i (some (rowI qv' (castI (q ++ [t]))))) := by
  have hO := hr.ownI hf
  have hg : w.grownBy w1 qv.ownBlock := grown_via (hal.imp (·.2) (fun ⟨_, _, _, q⟩ => q))
  have hob : qv'.ownBlock = qv.ownBlock ∨ ∃ k, qv'.ownBlock = some k ∧ w.heap.size ≤ k := by
    rcases hal with ⟨q, _⟩ | ⟨k, h1, h2, _⟩
    · obtain ⟨a1, n1, c1, e1⟩ := hO.at.shape
      obtain ⟨a2, n2, c2, e2⟩ := ho.at.shape
      exact .inl (ownBlock_of_room e1 e2 q)
    · exact .inr ⟨k, h1, h2⟩
  have := hr.grown (r' := rowI qv' (castI q ++ [(t : Int)])) hf hg ho hob
  rwa [← castI_snoc] at this

end Go.Proofs.YtmhiambkfdkkbaaDoor

namespace Go.Proofs.YtmhiambkfdkkbaaDoor
open Go.RowKit
set_option maxRecDepth 100000

theorem mul3 {x s : Int} (hx : 0 ≤ x ∧ x < 4) (hs : 0 ≤ s ∧ s < 4) : 0 ≤ x * s ∧ x * s ≤ 9 := by
  obtain ⟨h1, h2⟩ := hx
  obtain ⟨h3, h4⟩ := hs
  have a : x = 0 ∨ x = 1 ∨ x = 2 ∨ x = 3 := by omega
  rcases a with rfl | rfl | rfl | rfl <;> omega

/-- The zero rule's value. -/
abbrev zRule : Value := .agg #[.int .i64 0, .int .i64 0, .slice none 0 0]

end Go.Proofs.YtmhiambkfdkkbaaDoor

namespace Go.Proofs.YtmhiambkfdkkbaaDoor
open Go.RowKit
set_option maxRecDepth 100000

end Go.Proofs.YtmhiambkfdkkbaaDoor

namespace Go.Proofs.YtmhiambkfdkkbaaDoor

theorem sumRow_getD (K : Nat) (x y : Int) (s n : Nat) (h : n < s) : (sumRow K x y s).getD n 0 = (y + x * n) % K := by
  simp [sumRow, List.getD, h]

theorem sumStep_getD {K : Nat} (hK : 1 ≤ K) (x : Int) : ∀ (T : List Int) (i : Nat), i < T.length * K → (sumStep K x T).getD i 0 = (T.getD (i / K) 0 + x * (i % K : Nat)) % K
  | [], i, h => by simp at h
  | y :: T, i, h => by
    have e : sumStep K x (y :: T) = sumRow K x y K ++ sumStep K x T := rfl
    rw [e]
    by_cases hi : i < K
    · rw [show (sumRow K x y K ++ sumStep K x T).getD i 0 = (sumRow K x y K).getD i 0 by
        simp only [List.getD]; rw [List.getElem?_append_left (by rw [sumRow_length]; exact hi)]]
      rw [sumRow_getD K x y K i hi, Nat.div_eq_of_lt hi, Nat.mod_eq_of_lt hi]
      rfl
    · have hi' : i - K < T.length * K := by rw [List.length_cons, Nat.succ_mul] at h; omega
      rw [show (sumRow K x y K ++ sumStep K x T).getD i 0 = (sumStep K x T).getD (i - K) 0 by
        simp only [List.getD]; rw [List.getElem?_append_right (by rw [sumRow_length]; omega), sumRow_length]]
      rw [sumStep_getD hK x T (i - K) hi']
      have h1 : i / K = (i - K) / K + 1 := by
        rw [show i = (i - K) + K by omega, Nat.add_div_right _ (by omega), Nat.add_sub_cancel]
      have h2 : i % K = (i - K) % K := Nat.mod_eq_sub_mod (by omega)
      rw [h1, h2]
      simp [List.getD]

theorem sumT_snoc (K : Nat) (f : List Int) (x : Int) : sumT K (f ++ [x]) = sumStep K x (sumT K f) := sumTable_snoc ..

/-- An entry of a sum's table, by the window's last symbol. -/
theorem sumT_getD {K : Nat} (hK : 1 ≤ K) (f : List Int) (x : Int) (i : Nat) (h : i < pw K (f.length + 1)) :
    (sumT K (f ++ [x])).getD i 0 = ((sumT K f).getD (i / K) 0 + x * (i % K : Nat)) % K := by
  rw [sumT_snoc]
  refine sumStep_getD hK x _ i ?_
  rw [sumT_length, ← pw_succ]; exact h

theorem snoc_ind {P : List Int → Prop} (h0 : P []) (h1 : ∀ f x, P f → P (f ++ [x])) (f : List Int) : P f := by
  have : P f.reverse.reverse := by
    induction f.reverse with
    | nil => exact h0
    | cons x g ih => rw [List.reverse_cons]; exact h1 _ _ ih
  simpa using this

theorem sumT_zero {K : Nat} (hK : 1 ≤ K) (f : List Int) : (sumT K f).getD 0 0 = 0 := by
  refine snoc_ind (P := fun f => (sumT K f).getD 0 0 = 0) rfl (fun f x ih => ?_) f
  rw [sumT_getD hK f x 0 (pw_pos _ hK), Nat.zero_div, ih]
  simp

theorem emod_addMul {a b : Int} {K : Nat} : (a % K + b) % K = (a + b) % K := by simp [Int.add_emod]

theorem sumT_range {K : Nat} (hK : 1 ≤ K) (f : List Int) (i : Nat) : 0 ≤ (sumT K f).getD i 0 ∧ (sumT K f).getD i 0 < K := by
  by_cases h : i < (sumT K f).length
  · simp only [List.getD, List.getElem?_eq_getElem h, Option.getD_some]
    exact sumT_syms hK f _ (by simp)
  · simp only [List.getD, List.getElem?_eq_none (Nat.le_of_not_lt h), Option.getD_none]
    omega

/-- The windows with a single 1 tell the factors. -/
theorem sumT_pw {K : Nat} (hK : 1 < K) (f : List Int) : ∀ t, t < f.length → (sumT K f).getD (pw K t) 0 = f.getD (f.length - 1 - t) 0 % K := by
  refine snoc_ind (P := fun f => ∀ t, t < f.length → (sumT K f).getD (pw K t) 0 = f.getD (f.length - 1 - t) 0 % K) (by intro t h; simp at h) (fun f x ih => ?_) f
  intro t ht
  rw [List.length_append, List.length_singleton] at ht
  rw [sumT_getD (by omega) f x _ (pw_lt hK ht)]
  cases t with
  | zero =>
    rw [pw_zero, Nat.div_eq_of_lt hK, Nat.mod_eq_of_lt hK, sumT_zero (by omega)]
    simp [List.getD]
  | succ t =>
    rw [pw_succ, Nat.mul_div_cancel _ (by omega), Nat.mul_mod_left, ih t (by omega)]
    have : (f ++ [x]).getD ((f ++ [x]).length - 1 - (t + 1)) 0 = f.getD (f.length - 1 - t) 0 := by
      simp only [List.getD, List.length_append, List.length_singleton]
      rw [show f.length + 1 - 1 - (t + 1) = f.length - 1 - t by omega, List.getElem?_append_left (by omega)]
    rw [this]
    simp

/-- Window i is one with its first symbol less by one, and the window with a single 1 there. -/
theorem sumT_add {K : Nat} (hK : 1 < K) (f : List Int) : ∀ t x, x % K ≠ 0 → x * pw K t < pw K f.length →
    (sumT K f).getD (x * pw K t) 0 = ((sumT K f).getD (x * pw K t - pw K t) 0 + (sumT K f).getD (pw K t) 0) % K := by
  refine snoc_ind (P := fun f => ∀ t x, x % K ≠ 0 → x * pw K t < pw K f.length →
    (sumT K f).getD (x * pw K t) 0 = ((sumT K f).getD (x * pw K t - pw K t) 0 + (sumT K f).getD (pw K t) 0) % K) ?_ (fun f y ih => ?_) f
  · intro t x hx h
    have : x ≠ 0 := by intro e; subst e; simp at hx
    have h1 := pw_pos t (show 1 ≤ K by omega)
    have : 1 * 1 ≤ x * pw K t := Nat.mul_le_mul (by omega) h1
    simp only [List.length_nil, pw_zero] at h
    omega
  · intro t x hx h
    have hx0 : x ≠ 0 := by intro e; subst e; simp at hx
    rw [List.length_append, List.length_singleton] at h
    have hp := pw_pos t (show 1 ≤ K by omega)
    have hle : pw K t ≤ x * pw K t := Nat.le_mul_of_pos_left _ (by omega)
    rw [sumT_getD (by omega) f y _ h, sumT_getD (by omega) f y _ (show x * pw K t - pw K t < _ by omega), sumT_getD (by omega) f y _ (show pw K t < _ by omega)]
    cases t with
    | zero =>
      rw [pw_zero, Nat.mul_one]
      have h1 : (x - 1) / K = x / K ∧ (x - 1) % K = x % K - 1 := by
        have hd := Nat.div_add_mod x K
        have hl := Nat.mod_lt x (show 0 < K by omega)
        have e : x - 1 = (x % K - 1) + K * (x / K) := by omega
        rw [e, Nat.add_mul_div_left _ _ (by omega), Nat.add_mul_mod_self_left, Nat.div_eq_of_lt (by omega), Nat.mod_eq_of_lt (by omega)]
        omega
      rw [h1.1, h1.2, Nat.div_eq_of_lt hK, Nat.mod_eq_of_lt hK, sumT_zero (by omega)]
      rw [← Int.add_emod]
      congr 1
      have : ((x % K - 1 : Nat) : Int) = ((x % K : Nat) : Int) - 1 := by omega
      rw [this, Int.mul_sub]
      simp
      omega
    | succ t =>
      have hh : x * pw K t < pw K f.length := by
        rw [pw_succ, pw_succ, ← Nat.mul_assoc] at h
        exact Nat.lt_of_mul_lt_mul_right h
      have e := ih t x hx hh
      rw [pw_succ, ← Nat.mul_assoc, ← Nat.sub_mul, Nat.mul_div_cancel _ (by omega), Nat.mul_div_cancel _ (by omega), Nat.mul_div_cancel _ (by omega), Nat.mul_mod_left, Nat.mul_mod_left, Nat.mul_mod_left, e]
      simp

/-- What the law asks of window i; and that it does not hold. -/
def Good (K : Nat) (T : List Int) (i : Nat) : Prop := (i = 0 ∧ T.getD 0 0 = 0) ∨ ∃ t x, x * pw K t = i ∧ x % K ≠ 0 ∧ T.getD i 0 = (T.getD (i - pw K t) 0 + T.getD (pw K t) 0) % K
def Bad (K : Nat) (T : List Int) (i : Nat) : Prop := (i = 0 ∧ T.getD 0 0 ≠ 0) ∨ ∃ t x, x * pw K t = i ∧ x % K ≠ 0 ∧ T.getD i 0 ≠ (T.getD (i - pw K t) 0 + T.getD (pw K t) 0) % K

theorem not_sum_of_bad {K R : Nat} {T : List Int} (h : RuleOk K R T) (i : Nat) (hi : i < T.length) (hb : Bad K T i) : isSum K R T = false := by
  have hk := h.k1
  rw [isSum, decide_eq_false_iff_not]
  intro e
  have hlen : T.length = pw K (facs K R T).length := by rw [facs_length, h.len]
  rcases hb with ⟨_, h0⟩ | ⟨t, x, hx, hxK, hne⟩
  · apply h0
    rw [← e]; exact sumT_zero hk _
  · by_cases hK : 1 < K
    · apply hne
      rw [← e, ← hx]
      exact sumT_add hK _ t x hxK (by rw [hx, ← hlen]; exact hi)
    · have : K = 1 := by omega
      subst this
      simp [Nat.mod_one] at hxK

theorem facs_getD {K R : Nat} {T : List Int} (hK : 1 < K) (t : Nat) (ht : t < 2 * R + 1) : (facs K R T).getD (2 * R + 1 - 1 - t) 0 = T.getD (pw K t) 0 := by
  unfold facs facI
  rw [if_pos hK]
  simp only [facL, List.getD]
  rw [List.getElem?_map, List.getElem?_range (by omega)]
  simp only [Option.map_some, Option.getD_some]
  rw [if_pos (by omega)]
  rw [show 2 * R + 1 - 1 - (2 * R + 1 - 1 - t) = t by omega]

theorem sum_of_good {K R : Nat} {T : List Int} (h : RuleOk K R T) (hg : ∀ i, i < T.length → Good K T i) : isSum K R T = true := by
  have hk := h.k1
  rw [isSum, decide_eq_true_iff]
  have hlen : (sumT K (facs K R T)).length = T.length := by rw [sumT_length, facs_length, h.len]
  have rng : ∀ i, 0 ≤ T.getD i 0 ∧ T.getD i 0 < K := by
    intro i
    by_cases hi : i < T.length
    · simp only [List.getD, List.getElem?_eq_getElem hi, Option.getD_some]
      exact h.syms _ (by simp)
    · simp only [List.getD, List.getElem?_eq_none (Nat.le_of_not_lt hi), Option.getD_none]
      omega
  have hpow : 1 < K → ∀ t, t < 2 * R + 1 → (sumT K (facs K R T)).getD (pw K t) 0 = T.getD (pw K t) 0 := by
    intro hK t ht
    rw [sumT_pw hK _ t (by rw [facs_length]; exact ht), facs_length, facs_getD hK t ht]
    exact Int.emod_eq_of_lt (rng _).1 (rng _).2
  have key : ∀ n i, i < n → i < T.length → (sumT K (facs K R T)).getD i 0 = T.getD i 0 := by
    intro n
    induction n with
    | zero => intro i hi; omega
    | succ n ih =>
      intro i hin hi
      rcases hg i hi with ⟨rfl, h0⟩ | ⟨t, x, hx, hxK, he⟩
      · rw [h0]; exact sumT_zero hk _
      · by_cases hK : 1 < K
        · have hx0 : x ≠ 0 := by intro e; subst e; simp at hxK
          have hp := pw_pos t hk
          have hle : pw K t ≤ x * pw K t := Nat.le_mul_of_pos_left _ (by omega)
          have ht : t < 2 * R + 1 := by
            by_cases c : t < 2 * R + 1
            · exact c
            · have := pw_mono (i := 2 * R + 1) (j := t) hk (by omega)
              have := h.len
              omega
          have e1 := sumT_add hK (facs K R T) t x hxK (by rw [hx, facs_length, ← h.len]; exact hi)
          rw [hx] at e1
          rw [e1, he, ih (i - pw K t) (by omega) (by omega), hpow hK t ht]
        · have : K = 1 := by omega
          subst this
          simp [Nat.mod_one] at hxK
  refine List.ext_getElem hlen fun i h1 h2 => ?_
  have := key (i + 1) i (by omega) h2
  simpa [List.getD, h1, h2] using this

/-- The factors of a sum are those that it was made of. -/
theorem facs_sumT {K R : Nat} {f : List Int} (hK : 1 < K) (hl : f.length = 2 * R + 1) (hs : Syms K f) : facs K R (sumT K f) = f := by
  refine List.ext_getElem (by rw [facs_length, hl]) fun i h1 h2 => ?_
  have hi : i < 2 * R + 1 := by omega
  have e1 := facs_getD (K := K) (R := R) (T := sumT K f) hK (2 * R + 1 - 1 - i) (by omega)
  rw [show 2 * R + 1 - 1 - (2 * R + 1 - 1 - i) = i by omega, sumT_pw hK f _ (by omega), hl] at e1
  rw [show 2 * R + 1 - 1 - (2 * R + 1 - 1 - i) = i by omega] at e1
  have hb := hs.getD (by omega) i
  rw [Int.emod_eq_of_lt hb.1 hb.2] at e1
  simpa [List.getD, h1, h2] using e1
theorem isSum_sumT {K R : Nat} {f : List Int} (hK : 1 < K) (hl : f.length = 2 * R + 1) (hs : Syms K f) : isSum K R (sumT K f) = true := by
  rw [isSum, facs_sumT hK hl hs]; simp

theorem mulAll_one {K : Nat} {a : List Int} (hs : Syms K a) : ∀ i, i ≤ a.length → mulAll K a [1] i = a.take i ++ List.replicate (a.length - i) 0
  | 0, _ => by simp [mulAll]
  | i + 1, h => by
    rw [mulAll, mulAll_one hs i (by omega)]
    have hi : i < a.length := by omega
    have hx := hs (a[i]) (by simp)
    have hl : (a.take i).length = i := by simp; omega
    show addAt K (a.take i ++ List.replicate (a.length - i) 0) (i + 0) (a.getD i 0 * 1) = _
    have e : a.getD i 0 = a[i] := by simp [List.getD, hi]
    have hrep : List.replicate (a.length - i) (0 : Int) = 0 :: List.replicate (a.length - (i + 1)) 0 := by
      rw [show a.length - i = (a.length - (i + 1)) + 1 by omega, List.replicate_succ]
    have hg : (a.take i ++ List.replicate (a.length - i) (0 : Int)).getD (i + 0) 0 = 0 := by
      rw [hrep]
      simp only [List.getD, Nat.add_zero]
      rw [List.getElem?_append_right (by omega), hl]
      simp
    rw [addAt, hg, e, Int.mul_one, Int.zero_add, Int.emod_eq_of_lt hx.1 hx.2, hrep, List.take_succ_eq_append_getElem hi]
    rw [List.set_append_right _ _ (by omega), hl]
    simp only [Nat.add_zero, Nat.sub_self, List.set_cons_zero, List.append_assoc, List.singleton_append]
theorem mulL_one {K : Nat} {a : List Int} (hs : Syms K a) : mulL K a [1] = a := by
  rw [mulL, mulAll_one hs _ (Nat.le_refl _)]; simp

theorem makeP_none {k R : Int} {f : List Int} (h : makeP k R f = none) : ∃ K Q : Nat, k = K ∧ R = Q ∧ 1 ≤ K ∧ K ≤ 4 ∧ Q ≤ 3 ∧ f.length = 2 * Q + 1 ∧ Syms K f := by
  unfold makeP at h
  by_cases h1 : k < 1 ∨ 4 < k ∨ R < 0 ∨ 3 < R
  · rw [if_pos h1] at h; cases h
  rw [if_neg h1] at h
  by_cases h2 : (f.length : Int) ≠ 2 * R + 1
  · rw [if_pos h2] at h; cases h
  rw [if_neg h2] at h
  refine ⟨k.toNat, R.toNat, by omega, by omega, by omega, by omega, by omega, by omega, ?_⟩
  rw [show ((k.toNat : Nat) : Int) = k by omega]
  exact numP_none h
theorem oddP_mk {Q : Nat} (h : Q ≤ 3) : oddP (2 * Q + 1) = true := by
  simp [oddP]; omega
theorem factP_of {K : Nat} {f : List Int} (h1 : 1 ≤ K) (h4 : K ≤ 4) (ho : oddP f.length = true) (hs : Syms K f) : factP K f = none := by
  rw [factP, if_neg (by omega), ho, if_neg (by decide), hs.num]
theorem mulP_one {K : Nat} {f : List Int} (h1 : 1 < K) (h4 : K ≤ 4) (ho : oddP f.length = true) (hs : Syms K f) : mulP K f [1] = none := by
  have h1' : Syms K [1] := by intro x hx; simp at hx; omega
  simp only [mulP, factP_of (by omega) h4 ho hs, h1'.num, List.length_singleton, Nat.add_sub_cancel, ho]
  decide
end Go.Proofs.YtmhiambkfdkkbaaDoor

namespace Go.Proofs.YtmhiambkfdkkbaaDoor

theorem Sm_add (f g : Nat → Int) (n : Nat) : Sm (fun i => f i + g i) n = Sm f n + Sm g n := by
  induction n with
  | zero => rfl
  | succ n ih => rw [Sm, Sm, Sm, ih]; omega
theorem Sm_swap (f : Nat → Nat → Int) (n m : Nat) : Sm (fun i => Sm (f i) m) n = Sm (fun j => Sm (fun i => f i j) n) m := by
  induction n with
  | zero => rw [Sm, Sm_zero]; intro _ _; rfl
  | succ n ih => rw [Sm, ih, ← Sm_add]; exact Sm_congr _ fun i _ => rfl
theorem Sm_mulL (c : Int) (f : Nat → Int) (n : Nat) : Sm (fun i => c * f i) n = c * Sm f n := by
  induction n with
  | zero => simp [Sm]
  | succ n ih => rw [Sm, Sm, ih, Int.mul_add]
theorem Sm_delta (f : Nat → Int) (p n : Nat) : Sm (fun i => f i * (if i = p then 1 else 0)) n = if p < n then f p else 0 := by
  induction n with
  | zero => simp [Sm]
  | succ n ih =>
    rw [Sm, ih]
    by_cases e : n = p
    · subst e; simp
    · rw [if_neg e]
      by_cases c : p < n
      · rw [if_pos c, if_pos (by omega)]; omega
      · rw [if_neg c, if_neg (by omega)]; omega

theorem mulL_at (K : Nat) (hK : 1 ≤ K) (a b : List Int) (hb : 1 ≤ b.length) (p : Nat) (hp : p < a.length + b.length - 1) :
    (mulL K a b).getD p 0 = Sm (fun i => Sm (fun j => a.getD i 0 * b.getD j 0 * (if i + j = p then 1 else 0)) b.length) a.length % K := by
  have h := mulAll_sum K a b (fun t => if t = p then 1 else 0) hb a.length (Nat.le_refl _)
  rw [Sm_delta (fun t => (mulAll K a b a.length).getD t 0) p, if_pos hp] at h
  have hr := (mulAll_syms hK a b a.length).getD (by omega) p
  rw [Int.emod_eq_of_lt hr.1 hr.2] at h
  rw [mulL, h]
  congr 1
  refine Sm_congr _ fun i _ => ?_
  rw [← Sm_mulL]
  refine Sm_congr _ fun j _ => ?_
  rw [Int.mul_assoc]

/-- A product may be turned. -/
theorem mulL_comm (K : Nat) (hK : 1 ≤ K) (a b : List Int) (ha : 1 ≤ a.length) (hb : 1 ≤ b.length) : mulL K a b = mulL K b a := by
  have l1 := mulL_length K a b
  have l2 := mulL_length K b a
  refine List.ext_getElem (by omega) fun p h1 h2 => ?_
  have e1 := mulL_at K hK a b hb p (by omega)
  have e2 := mulL_at K hK b a ha p (by omega)
  rw [Sm_swap] at e2
  have : (mulL K a b).getD p 0 = (mulL K b a).getD p 0 := by
    rw [e1, e2]
    congr 1
    refine Sm_congr _ fun i _ => Sm_congr _ fun j _ => ?_
    rw [Int.mul_comm (a.getD i 0), Nat.add_comm]
  simpa [List.getD, h1, h2] using this

theorem facs_sumT1 {K R : Nat} {f : List Int} (hK : 1 ≤ K) (hl : f.length = 2 * R + 1) (hs : Syms K f) : facs K R (sumT K f) = f := by
  by_cases h : 1 < K
  · exact facs_sumT h hl hs
  · obtain rfl : K = 1 := by omega
    have e : f = List.replicate (2 * R + 1) 0 := List.eq_replicate_iff.2 ⟨hl, fun x hx => by have := hs x hx; omega⟩
    simp only [facs, facI, Nat.lt_irrefl, if_false]
    exact e.symm
theorem isSum_sumT1 {K R : Nat} {f : List Int} (hK : 1 ≤ K) (hl : f.length = 2 * R + 1) (hs : Syms K f) : isSum K R (sumT K f) = true := by
  rw [isSum, facs_sumT1 hK hl hs]; simp

/-- Factors taken modulo k. -/
def modL (K : Nat) (f : List Int) (n : Nat) : List Int := (f.take n).map (· % (K : Int))
theorem modL_length (K : Nat) (f : List Int) (n : Nat) (h : n ≤ f.length) : (modL K f n).length = n := by simp [modL]; omega
theorem modL_syms {K : Nat} (hK : 1 ≤ K) (f : List Int) (n : Nat) : Syms K (modL K f n) := by
  intro x hx
  obtain ⟨y, _, rfl⟩ := List.mem_map.1 hx
  exact ⟨Int.emod_nonneg _ (by omega), Int.emod_lt_of_pos _ (by omega)⟩
theorem modL_succ (K : Nat) (f : List Int) (j : Nat) (h : j < f.length) : modL K f (j + 1) = modL K f j ++ [f[j] % (K : Int)] := by
  rw [modL, modL, take_snoc f j h, List.map_append]; rfl
/-- Being filled. -/
def modF (K : Nat) (f : List Int) (n j : Nat) : List Int := modL K f j ++ List.replicate (n - j) 0
theorem modF_length (K : Nat) (f : List Int) (n j : Nat) (hn : n ≤ f.length) (h : j ≤ n) : (modF K f n j).length = n := by
  rw [modF, List.length_append, modL_length K f j (by omega), List.length_replicate]; omega
theorem modF_set (K : Nat) (f : List Int) (n j : Nat) (hn : n ≤ f.length) (h : j < n) : (modF K f n j).set j (f[j]'(by omega) % (K : Int)) = modF K f n (j + 1) := by
  have hl := modL_length K f j (by omega)
  rw [modF, List.set_append_right _ _ (by omega), hl, Nat.sub_self, show n - j = (n - (j + 1)) + 1 by omega, List.replicate_succ, List.set_cons_zero, modF, modL_succ K f j (by omega), List.append_assoc]
  rfl
theorem tmod_twice {x : Int} {K : Nat} (hK : 1 ≤ K) : (x.tmod K + K).tmod K = x % K ∧ -4 * (K : Int) ≤ x.tmod K ∧ x.tmod K < K := by
  have h1 : -(K : Int) < x.tmod K := by have := Int.lt_tmod_of_pos x (show (0 : Int) < K by omega); omega
  have h2 : x.tmod K < K := Int.tmod_lt_of_pos x (by omega)
  refine ⟨?_, by omega, h2⟩
  rw [Int.tmod_eq_emod_of_nonneg (by omega)]
  have h3 := Int.mul_tdiv_add_tmod x K
  have h4 : x.tmod K = x - K * x.tdiv K := by omega
  rw [h4, show x - (K : Int) * x.tdiv K + K = x + K * (1 - x.tdiv K) by rw [Int.mul_sub]; omega, Int.add_mul_emod_self_left]
end Go.Proofs.YtmhiambkfdkkbaaDoor

namespace Go.Proofs.YtmhiambkfdkkbaaDoor

/-- The reference's symbol of window i. -/
def sumR (K : Nat) (f : List Int) (i : Nat) : Int := Sm (fun j => f.getD j 0 * (digs K f.length i).getD j 0) f.length % K
theorem sumT_range_eq {K : Nat} (hK : 1 ≤ K) (f : List Int) : sumT K f = (List.range (pw K f.length)).map (sumR K f) := by
  refine List.ext_getElem (by simp [sumT_length]) fun i h1 h2 => ?_
  have hi : i < pw K f.length := by rw [← sumT_length]; exact h1
  have h := sumT_at K f (digs K f.length i) (digs_length ..).symm (digs_syms hK _ _)
  rw [numW_digs hK _ _ hi] at h
  simp only [List.getElem_map, List.getElem_range]
  rw [sumR, ← h]
  simp [List.getD, h1]
theorem Sm_bound {K : Nat} (h4 : K ≤ 4) (u v : Nat → Int) (hu : ∀ j, 0 ≤ u j ∧ u j < K) (hv : ∀ j, 0 ≤ v j ∧ v j < K) (n : Nat) : 0 ≤ Sm (fun j => u j * v j) n ∧ Sm (fun j => u j * v j) n ≤ 9 * n := by
  induction n with
  | zero => simp [Sm]
  | succ n ih =>
    rw [Sm]
    have h1 := hu n
    have h2 := hv n
    have h3 : 0 ≤ u n * v n := Int.mul_nonneg h1.1 h2.1
    have h5 : u n * v n ≤ 3 * 3 := Int.mul_le_mul (by omega) (by omega) h2.1 (by omega)
    omega
theorem prod_bound {K : Nat} (h4 : K ≤ 4) {x y : Int} (hx : 0 ≤ x ∧ x < K) (hy : 0 ≤ y ∧ y < K) : 0 ≤ x * y ∧ x * y ≤ 9 := by
  have h5 : x * y ≤ 3 * 3 := Int.mul_le_mul (by omega) (by omega) hy.1 (by omega)
  exact ⟨Int.mul_nonneg hx.1 hy.1, by omega⟩

/-- What the reference tells of a sum: has every word a preimage? -/
def ontoR (k : Int) (f : List Int) : Bool := !((decide (k = 2 ∨ k = 4) && f.all fun x => x % 2 == 0) || (decide (k = 3) && f.all fun x => x % 3 == 0))
theorem cnt_zero (p : Int) (f : List Int) : mayOnto (cnt p f) = !(f.all fun x => x % p == 0) := by
  unfold mayOnto cnt
  induction f with
  | nil => rfl
  | cons x f ih =>
    rw [List.countP_cons, List.all_cons]
    by_cases h : x % p = 0
    · simp [h, ← ih]
    · have : (x % p == 0) = false := by simpa using h
      simp [h, this]
theorem ontoR_eq {k : Int} {f : List Int} : ontoR k f = wholeP mayOnto k f := by
  unfold ontoR wholeP primesP
  by_cases h : k = 2 ∨ k = 4
  · have h3 : ¬ k = 3 := by omega
    rw [if_pos h]
    simp [h, h3, cnt_zero]
  · rw [if_neg h]
    by_cases h3 : k = 3
    · rw [if_pos h3]
      simp [h3, cnt_zero]
    · rw [if_neg h3]
      simp [h, h3]

def allD (d : Nat) (f : List Int) : Bool := f.all fun x => x % (d : Int) == 0
theorem allD_snoc (d : Nat) (f : List Int) (x : Int) : allD d (f ++ [x]) = (allD d f && (x % (d : Int) == 0)) := by simp [allD]
theorem allD_four {f : List Int} (h : allD 4 f = true) : allD 2 f = true := by
  simp only [allD, List.all_eq_true, beq_iff_eq] at *
  intro x hx
  have := h x hx
  omega
theorem ontoR_false {K d : Nat} {f : List Int} (h4 : K ≤ 4) (h2 : 2 ≤ d) (hd : d ≤ K) (hk : K % d = 0) (ha : allD d f = true) : ontoR K f = false := by
  have hc : (K = 2 ∧ d = 2) ∨ (K = 3 ∧ d = 3) ∨ (K = 4 ∧ d = 2) ∨ (K = 4 ∧ d = 4) := by
    have hKc : K = 2 ∨ K = 3 ∨ K = 4 := by omega
    have hdc : d = 2 ∨ d = 3 ∨ d = 4 := by omega
    rcases hKc with rfl | rfl | rfl <;> rcases hdc with rfl | rfl | rfl <;> simp_all
  rcases hc with ⟨rfl, rfl⟩ | ⟨rfl, rfl⟩ | ⟨rfl, rfl⟩ | ⟨rfl, rfl⟩
  · simp only [allD] at ha; simp [ontoR]; simpa using ha
  · simp only [allD] at ha; simp [ontoR]; simpa using ha
  · simp only [allD] at ha; simp [ontoR]; simpa using ha
  · have ha := allD_four ha; simp only [allD] at ha; simp [ontoR]; simpa using ha
theorem ontoR_true {K : Nat} {f : List Int} (h1 : 1 ≤ K) (h4 : K ≤ 4) (h : ∀ d, 2 ≤ d → d ≤ K → ¬ (K % d = 0 ∧ allD d f = true)) : ontoR K f = true := by
  have hc : K = 1 ∨ K = 2 ∨ K = 3 ∨ K = 4 := by omega
  rcases hc with rfl | rfl | rfl | rfl
  · simp [ontoR]
  · have := h 2 (by omega) (by omega)
    simp [allD] at this
    simpa [ontoR] using this
  · have := h 3 (by omega) (by omega)
    simp [allD] at this
    simpa [ontoR] using this
  · have := h 2 (by omega) (by omega)
    simp [allD] at this
    simpa [ontoR] using this
theorem oneR_false {K p : Nat} {f : List Int} (h4 : K ≤ 4) (h1 : 1 ≤ K) (hp : p = 2 ∨ p = 3) (hk : K % p = 0) (hn : cnt p f ≠ 1) : wholeP mayOne K f = false := by
  have hc : (p = 2 ∧ (K = 2 ∨ K = 4)) ∨ (p = 3 ∧ K = 3) := by
    have : K = 1 ∨ K = 2 ∨ K = 3 ∨ K = 4 := by omega
    rcases this with rfl | rfl | rfl | rfl <;> rcases hp with rfl | rfl <;> simp_all
  have hm : mayOne (cnt p f) = false := by simp [mayOne]; omega
  rcases hc with ⟨rfl, rfl | rfl⟩ | ⟨rfl, rfl⟩ <;> simpa [wholeP, primesP] using hm
theorem oneR_true {K : Nat} {f : List Int} (h4 : K ≤ 4) (h1 : 1 ≤ K) (h : ∀ p, p = 2 ∨ p = 3 → K % p = 0 → cnt p f = 1) : wholeP mayOne K f = true := by
  have : K = 1 ∨ K = 2 ∨ K = 3 ∨ K = 4 := by omega
  rcases this with rfl | rfl | rfl | rfl
  · simp [wholeP, primesP]
  · have := h 2 (.inl rfl) rfl; simp [wholeP, primesP, mayOne] at *; omega
  · have := h 3 (.inr rfl) rfl; simp [wholeP, primesP, mayOne] at *; omega
  · have := h 2 (.inl rfl) rfl; simp [wholeP, primesP, mayOne] at *; omega
end Go.Proofs.YtmhiambkfdkkbaaDoor

namespace Go.Proofs.YtmhiambkfdkkbaaDoor
open Go.RowKit
set_option maxRecDepth 100000

/-- append(s, y) onto a list of one's own, in a region that draws. -/
theorem step_app1 {ops : Array Oper} {o : Oper} {a : Act} {w : World} {K : Act → World → Prop} {Q : Exit → Act → World → Prop} {Ep : Prop} (hgd : o.guard = none) (s x : Operand)
    (ho : o.op = .call { callee := .builtin .append, args := #[s, x], argTypes := #[22, 22] })
    (B : Nat) (v : Value) (xs : List Int) (y : Int) (b : Nat) (hs : a.eval s = v) (hx : a.eval x = .slice (some ⟨b, 0, none⟩) 1 1) (hown : OwnI B w v xs) (hc : w.cell? ⟨b, 0, none⟩ = some (.int .i64 y))
    (hlen : xs.length < 4398046511104) (hB : B ≤ w.heap.size)
    (h : ∀ v' w', OwnI B w' v' (xs ++ [y]) → Below B w w' → K (a.put o.dst v') w') :
    if Region.wanted o (yielded ops a.tmps) = true then Oper.wp Tryd.prog o a w K Q else Ep := by
  have hw : Region.wanted o (yielded ops a.tmps) = true := by simp [Region.wanted, hgd]
  rw [if_pos hw]
  obtain ⟨v', w', hr, h2, h3⟩ := run_app oneInts w B o.type v _ hown.toV ⟨b, 0, none⟩ 1 [.int .i64 y] (by simp) (fun j u hj => by
    obtain ⟨hj1, hj2⟩ := List.getElem?_eq_some_iff.1 hj
    obtain rfl : j = 0 := by simpa using hj1
    simp at hj2; subst hj2
    exact hc) (by simp [Value.oneCell']) (by simp; omega) hB
  rw [show ([.int .i64 y] : List Value).length = 1 from rfl] at hr
  unfold Oper.wp
  simp [execOp, ho, resolve, invoke, builtin, hs, hx, hr, Result.andThen]
  have ho' : OwnI B w' v' (xs ++ [y]) := OwnV.toI (by simpa using h2)
  rcases h3 with ⟨_, hg⟩ | ⟨_, hg⟩
  · exact h v' w' ho' ((Below.refl _ _).grown hg hB (fun k hk => (hown.lt k hk).1))
  · exact h v' w' ho' ((Below.refl _ _).grown hg hB (by intro k hk; cases hk))

theorem Box3.belowB {B : Nat} {w w' : World} {b : Nat} {x0 x1 x2 : Value} (h : Box3 w b x0 x1 x2) (hb : Below B w w') (hlt : b < B) : Box3 w' b x0 x1 x2 := by
  obtain ⟨⟨h0, h1, h2⟩, f0, f1, f2⟩ := h
  exact ⟨⟨(hb.cell (p := ⟨b, 0, none⟩) hlt).trans h0, (hb.cell (p := ⟨b, 1, none⟩) hlt).trans h1, (hb.cell (p := ⟨b, 2, none⟩) hlt).trans h2⟩, (hb.frozen (p := ⟨b, 0, none⟩) hlt).trans f0, (hb.frozen (p := ⟨b, 1, none⟩) hlt).trans f1, (hb.frozen (p := ⟨b, 2, none⟩) hlt).trans f2⟩
theorem Box3.far {w : World} {b b' : Nat} {x0 x1 x2 : Value} (h : Box3 w b x0 x1 x2) (hne : b' ≠ b) (i : Nat) (u : Value) : Box3 (w.setCell ⟨b', i, none⟩ u) b x0 x1 x2 := by
  obtain ⟨⟨h0, h1, h2⟩, f0, f1, f2⟩ := h
  refine ⟨⟨?_, ?_, ?_⟩, ?_, ?_, ?_⟩
  · rw [World.cell?_setCell_far _ _ _ _ hne]; exact h0
  · rw [World.cell?_setCell_far _ _ _ _ hne]; exact h1
  · rw [World.cell?_setCell_far _ _ _ _ hne]; exact h2
  · simpa using f0
  · simpa using f1
  · simpa using f2
theorem Box3.set2 {w : World} {b : Nat} {x0 x1 x2 : Value} (h : Box3 w b x0 x1 x2) (u : Value) : Box3 (w.setCell ⟨b, 2, none⟩ u) b x0 x1 u := by
  obtain ⟨⟨h0, h1, h2⟩, f0, f1, f2⟩ := h
  refine ⟨⟨?_, ?_, World.cell?_setCell_same _ _ _ h2⟩, ?_, ?_, ?_⟩
  · rw [World.cell?_setCell_other _ _ _ _ (by simp)]; exact h0
  · rw [World.cell?_setCell_other _ _ _ _ (by simp)]; exact h1
  · simpa using f0
  · simpa using f1
  · simpa using f2

end Go.Proofs.YtmhiambkfdkkbaaDoor

namespace Go.Proofs.YtmhiambkfdkkbaaDoor
open Go.RowKit
set_option maxRecDepth 100000

theorem checkG_num {G : List (List Int)} {n : Int} {l : List (ByteArray × Int)} (h : checkG G = some (n, l)) : (n != 0) = true := by
  unfold checkG at h
  split at h
  · injection h with h; injection h with h; subst h; rfl
  split at h
  · injection h with h; injection h with h; subst h; rfl
  split at h
  · injection h with h; injection h with h; subst h; rfl
  · cases h
theorem OwnI.set3 {B b : Nat} {w : World} {v : Value} {xs : List Int} (h : OwnI B w v xs) (hb : b < B) (x y z : Value) : OwnI B (((w.setCell ⟨b, 0, none⟩ x).setCell ⟨b, 1, none⟩ y).setCell ⟨b, 2, none⟩ z) v xs :=
  OwnV.toI (((h.toV.setBelowBase (a := ⟨b, 0, none⟩) hb x).setBelowBase (a := ⟨b, 1, none⟩) hb y).setBelowBase (a := ⟨b, 2, none⟩) hb z)
theorem FirstPost.set3 {w w3 w4 : World} {adj : Nat → List Nat} {a b : Nat} {v : Value} (h : FirstPost w3 adj a b v w4) {c : Nat} (hb : c < w3.heap.size) (hs : w.heap.size ≤ w3.heap.size) (x y z : Value) : FirstPost w adj a b v (((w4.setCell ⟨c, 0, none⟩ x).setCell ⟨c, 1, none⟩ y).setCell ⟨c, 2, none⟩ z) := by
  rcases h with ⟨u, h1, h2⟩ | h
  · exact .inl ⟨u, h1, (h2.set3 hb x y z).mono hs⟩
  · exact .inr h
/-- What an answer with an error leaves. -/
def RefPost (w : World) (t : PErr) (P : Value → World → Prop) (x y : Value) (w' : World) : Prop :=
  EOwn w.heap.size w' t y ∧ (t = none → P x w') ∧ (t ≠ none → x = .slice none 0 0)
end Go.Proofs.YtmhiambkfdkkbaaDoor

namespace Go.Proofs.YtmhiambkfdkkbaaDoor
theorem Goes.loop {adj : Nat → List Nat} {x y : Nat} (h : Goes adj x y) (ha : x ∈ adj y) : OnLoop adj x := by
  obtain ⟨w, hw⟩ := h.way
  cases hw with
  | one => exact ⟨x, ha, .refl x⟩
  | @cons _ t _ w ht hw => exact ⟨t, ht, .step hw.goes ha⟩
end Go.Proofs.YtmhiambkfdkkbaaDoor

namespace Go.Proofs.YtmhiambkfdkkbaaDoor

theorem Peel.swap {n : Nat} {A B : Nat → List Nat} {inn out c d : Nat → Nat} {gone : Nat → Bool} {q : List Nat} {lives : Nat → Prop} (h : Peel n A B inn out c d gone q lives) : Peel n B A out inn d c gone q lives :=
  ⟨h.deg2, h.deg1, h.nodup, h.goneq, h.low, fun v hv => (h.fresh v hv).symm, h.keep⟩
theorem LiveSet.swap {n : Nat} {A B : Nat → List Nat} {lives : Nat → Prop} (h : LiveSet n A B lives) : LiveSet n B A lives := ⟨h.ahead, h.behind⟩
/-- Between two rounds. -/
structure PS (n : Nat) (A B : Nat → List Nat) (inn out c d : Nat → Nat) (gone : Nat → Bool) (q : List Nat) (lives : Nat → Prop) (i : Nat) : Prop where
  peel : Peel n A B inn out c d gone q lives
  pos : ∀ t, t < n → gone t = false → 0 < inn t ∧ 0 < out t
  done : ∀ j x, j < i → q[j]? = some x → c x = (A x).length ∧ d x = (B x).length
  rest : ∀ j x, i ≤ j → q[j]? = some x → c x = 0 ∧ d x = 0
/-- Within a round. -/
structure Mid (n : Nat) (A B : Nat → List Nat) (inn out c d : Nat → Nat) (gone : Nat → Bool) (q : List Nat) (lives : Nat → Prop) (i v : Nat) : Prop where
  peel : Peel n A B inn out c d gone q lives
  pos : ∀ t, t < n → gone t = false → 0 < inn t ∧ 0 < out t
  cur : q[i]? = some v
  done : ∀ j x, j < i → q[j]? = some x → c x = (A x).length ∧ d x = (B x).length
  rest : ∀ j x, i < j → q[j]? = some x → c x = 0 ∧ d x = 0
section
variable {n : Nat} {A B : Nat → List Nat} {inn out c d : Nat → Nat} {gone : Nat → Bool} {q : List Nat} {lives : Nat → Prop} {i v : Nat}
theorem Mid.swap (h : Mid n A B inn out c d gone q lives i v) : Mid n B A out inn d c gone q lives i v :=
  ⟨h.peel.swap, fun t ht hg => (h.pos t ht hg).symm, h.cur, fun j x hj hx => (h.done j x hj hx).symm, fun j x hj hx => (h.rest j x hj hx).symm⟩
theorem PS.enter (h : PS n A B inn out c d gone q lives i) (hv : q[i]? = some v) : Mid n A B inn out c d gone q lives i v ∧ c v = 0 ∧ d v = 0 ∧ v < n :=
  ⟨⟨h.peel, h.pos, hv, h.done, fun j x hj hx => h.rest j x (by omega) hx⟩, (h.rest i v (Nat.le_refl _) hv).1, (h.rest i v (Nat.le_refl _) hv).2, h.peel.low v (List.mem_of_getElem? hv)⟩
theorem Mid.leave (h : Mid n A B inn out c d gone q lives i v) (hc : c v = (A v).length) (hd : d v = (B v).length) : PS n A B inn out c d gone q lives (i + 1) := by
  refine ⟨h.peel, h.pos, fun j x hj hx => ?_, fun j x hj hx => h.rest j x (by omega) hx⟩
  by_cases e : j = i
  · subst e
    rw [h.cur] at hx; cases hx
    exact ⟨hc, hd⟩
  · exact h.done j x (by omega) hx
/-- An arrow of v is gone through. -/
theorem Mid.step (h : Mid n A B inn out c d gone q lives i v) (hL : LiveSet n A B lives) {k t : Nat} (hk : c v = k) (ht : (A v)[k]? = some t) (htn : t < n) :
    0 < inn t ∧ (inn t = 1 → gone t = false → Mid n A B (updN inn t (inn t - 1)) out (updN c v (k + 1)) d (updN gone t true) (q ++ [t]) lives i v) ∧
    ((inn t = 1 → gone t = true) → Mid n A B (updN inn t (inn t - 1)) out (updN c v (k + 1)) d gone q lives i v) := by
  have hvq := List.mem_of_getElem? h.cur
  obtain ⟨h0, hp⟩ := h.peel.arrow1 hvq hk ht htn
  have hne : ∀ j x, j ≠ i → q[j]? = some x → x ≠ v := fun j x hj hx e => hj (get_inj h.peel.nodup (by rw [hx, e]) h.cur)
  have hdone : ∀ j x, j < i → q[j]? = some x → updN c v (k + 1) x = (A x).length ∧ d x = (B x).length := fun j x hj hx => by
    rw [updN_other _ _ _ (hne j x (by omega) hx)]; exact h.done j x hj hx
  have hrest : ∀ j x, i < j → q[j]? = some x → updN c v (k + 1) x = 0 ∧ d x = 0 := fun j x hj hx => by
    rw [updN_other _ _ _ (hne j x (by omega) hx)]; exact h.rest j x hj hx
  refine ⟨h0, fun h1 hg => ?_, fun h1 => ?_⟩
  · have htq : t ∉ q := fun hm => by have := (h.peel.goneq t).2 hm; rw [hg] at this; cases this
    have htv : t ≠ v := fun e => htq (by rw [e]; exact hvq)
    have hil := get_of h.cur
    have hga : ∀ j x, (q ++ [t])[j]? = some x → q[j]? = some x ∨ j = q.length ∧ x = t := fun j x hx => by
      by_cases e : j < q.length
      · rw [List.getElem?_append_left e] at hx; exact .inl hx
      · rw [List.getElem?_append_right (by omega)] at hx
        by_cases e2 : j = q.length
        · rw [e2] at hx; simp at hx; exact .inr ⟨e2, hx.symm⟩
        · rw [List.getElem?_eq_none (by simp; omega)] at hx; cases hx
    refine ⟨hp.goes hL htn hg (.inl (by rw [updN_same]; omega)), fun x hx hgx => ?_, by rw [List.getElem?_append_left hil]; exact h.cur, fun j x hj hx => ?_, fun j x hj hx => ?_⟩
    · by_cases e : x = t
      · subst e; rw [updN_same] at hgx; cases hgx
      · rw [updN_other _ _ _ e] at hgx ⊢; exact h.pos x hx hgx
    · rcases hga j x hx with hx | ⟨hj2, _⟩
      · exact hdone j x hj hx
      · omega
    · rcases hga j x hx with hx | ⟨_, rfl⟩
      · exact hrest j x hj hx
      · rw [updN_other _ _ _ htv]; exact h.peel.fresh x htq
  · refine ⟨hp, fun x hx hgx => ?_, h.cur, hdone, hrest⟩
    by_cases e : x = t
    · subst e
      rw [updN_same]
      have := (h.pos x hx hgx).2
      have : inn x ≠ 1 := fun e => by have := h1 e; rw [hgx] at this; cases this
      omega
    · rw [updN_other _ _ _ e]; exact h.pos x hx hgx
end
/-- The beginning: the first k have been looked at. -/
structure PStart (n : Nat) (A B : Nat → List Nat) (gone : Nat → Bool) (q : List Nat) (lives : Nat → Prop) (k : Nat) : Prop where
  peel : Peel n A B (fun t => (B t).length) (fun t => (A t).length) (fun _ => 0) (fun _ => 0) gone q lives
  pos : ∀ t, t < k → gone t = false → 0 < (B t).length ∧ 0 < (A t).length
  below : ∀ x ∈ q, x < k
section
variable {n : Nat} {A B : Nat → List Nat} {gone : Nat → Bool} {q : List Nat} {lives : Nat → Prop} {k : Nat}
theorem PStart.zero (hA : ∀ t, t < n → ∀ x ∈ A t, x < n) (hB : ∀ t, t < n → ∀ x ∈ B t, x < n) (hc : ∀ t v, t < n → v < n → (B t).count v = (A v).count t) : PStart n A B (fun _ => false) [] lives 0 :=
  ⟨⟨Deg.init hB (fun v t hv ht => hc t v ht hv), Deg.init hA (fun v t hv ht => (hc v t hv ht).symm), by simp, fun x => by simp, fun x hx => by simp at hx, fun _ _ => ⟨rfl, rfl⟩, fun _ _ _ => rfl⟩, fun t ht => by omega, fun x hx => by simp at hx⟩
theorem PStart.take (h : PStart n A B gone q lives k) (hL : LiveSet n A B lives) (hk : k < n) (h0 : (A k).length = 0 ∨ (B k).length = 0) : PStart n A B (updN gone k true) (q ++ [k]) lives (k + 1) := by
  have hg : gone k = false := by
    cases hgk : gone k with
    | false => rfl
    | true => have := h.below k ((h.peel.goneq k).1 hgk); omega
  refine ⟨h.peel.goes hL hk hg h0.symm, fun t ht hgt => ?_, fun x hx => ?_⟩
  · by_cases e : t = k
    · subst e; rw [updN_same] at hgt; cases hgt
    · rw [updN_other _ _ _ e] at hgt; exact h.pos t (by omega) hgt
  · rcases List.mem_append.1 hx with hx | hx
    · have := h.below x hx; omega
    · cases List.mem_singleton.1 hx; omega
theorem PStart.skip (h : PStart n A B gone q lives k) (hA : (A k).length ≠ 0) (hB : (B k).length ≠ 0) : PStart n A B gone q lives (k + 1) := by
  refine ⟨h.peel, fun t ht hgt => ?_, fun x hx => by have := h.below x hx; omega⟩
  by_cases e : t = k
  · subst e; omega
  · exact h.pos t (by omega) hgt
theorem PStart.all (h : PStart n A B gone q lives n) : PS n A B (fun t => (B t).length) (fun t => (A t).length) (fun _ => 0) (fun _ => 0) gone q lives 0 :=
  ⟨h.peel, h.pos, fun j x hj => by omega, fun _ _ _ _ => ⟨rfl, rfl⟩⟩
end
/-- Live vertices have live neighbours. -/
theorem live_set {G H : List (List Int)} (hT : TurnedOf G H) (hok : GraphOk G) : LiveSet G.length (adjOf G) (adjOf H) (IsLive G.length (adjOf G)) := by
  refine ⟨fun t ht hl => ?_, fun t ht hl => ?_⟩
  · obtain ⟨⟨u, hu, hlu, hgu⟩, w, hw, hlw, hgw⟩ := hl
    cases hgu with
    | refl =>
      obtain ⟨s, hs, hgs⟩ := hlu
      cases hgs with
      | refl => exact ⟨t, ht, ⟨⟨t, hu, ⟨t, hs, .refl t⟩, .refl t⟩, w, hw, hlw, hgw⟩, hs⟩
      | @step p _ hgp htp =>
        have hsn := hok.lt t ht s hs
        have hpn := goes_lt hok hgp hsn
        have hL : OnLoop (adjOf G) t := ⟨s, hs, .step hgp htp⟩
        exact ⟨p, hpn, ⟨⟨t, ht, hL, .trans (.one hs) hgp⟩, t, ht, hL, .one htp⟩, htp⟩
    | @step p _ hgp htp =>
      have hpn := goes_lt hok hgp hu
      exact ⟨p, hpn, ⟨⟨u, hu, hlu, hgp⟩, w, hw, hlw, .trans (.one htp) hgw⟩, htp⟩
  · obtain ⟨⟨u, hu, hlu, hgu⟩, w, hw, hlw, hgw⟩ := hl
    have key : ∀ s, s ∈ adjOf G t → (∃ w, w < G.length ∧ OnLoop (adjOf G) w ∧ Goes (adjOf G) s w) → ∃ p, p < G.length ∧ IsLive G.length (adjOf G) p ∧ t ∈ adjOf H p := fun s hs hw => by
      have hsn := hok.lt t ht s hs
      exact ⟨s, hsn, ⟨⟨u, hu, hlu, .step hgu hs⟩, hw⟩, (turned_adj hT hok hsn).2 ⟨ht, hs⟩⟩
    obtain ⟨wy, hwy⟩ := hgw.way
    cases hwy with
    | one =>
      obtain ⟨s, hs, hgs⟩ := hlw
      exact key s hs ⟨t, hw, ⟨s, hs, hgs⟩, hgs⟩
    | @cons _ s _ _ hs hwy => exact key s hs ⟨w, hw, hlw, hwy.goes⟩
/-- What is left at the end are the live vertices. -/
theorem PS.end_ {G H : List (List Int)} (hT : TurnedOf G H) (hok : GraphOk G) {inn out c d : Nat → Nat} {gone : Nat → Bool} {q : List Nat} (h : PS G.length (adjOf G) (adjOf H) inn out c d gone q (IsLive G.length (adjOf G)) q.length) :
    LiveList G.length (adjOf G) ((List.range G.length).filter fun t => !gone t) := by
  have hall : ∀ v ∈ q, c v = (adjOf G v).length ∧ d v = (adjOf H v).length := fun v hv => by
    obtain ⟨j, hj⟩ := List.mem_iff_getElem?.1 hv
    exact h.done j v (get_of hj) hj
  refine ⟨List.Pairwise.filter _ List.pairwise_lt_range, fun v => ?_⟩
  rw [List.mem_filter, List.mem_range]
  constructor
  · rintro ⟨hv, hg⟩
    have hg : gone v = false := by simpa using hg
    refine ⟨hv, ?_, ?_⟩
    · obtain ⟨u, hu, ⟨t, ht, hgt⟩, hgo⟩ := set_loop (n := G.length) (A := adjOf H) (S := fun x => x < G.length ∧ gone x = false) (fun x hx => hx.1) (fun x hx => by
        obtain ⟨⟨p, hp, hgp, hm⟩, _⟩ := h.peel.left hall h.pos hx.1 hx.2
        exact ⟨p, (turned_adj hT hok hx.1).2 ⟨hp, hm⟩, hp, hgp⟩) ⟨hv, hg⟩
      obtain ⟨htn, hut⟩ := (turned_adj hT hok hu).1 ht
      exact ⟨u, hu, (turned_goes hT hok hgt htn).loop hut, turned_goes hT hok hgo hv⟩
    · obtain ⟨u, hu, hlu, hgo⟩ := set_loop (n := G.length) (A := adjOf G) (S := fun x => x < G.length ∧ gone x = false) (fun x hx => hx.1) (fun x hx => by
        obtain ⟨_, ⟨p, hp, hgp, hm⟩⟩ := h.peel.left hall h.pos hx.1 hx.2
        exact ⟨p, ((turned_adj hT hok hp).1 hm).2, hp, hgp⟩) ⟨hv, hg⟩
      exact ⟨u, hu, hlu, hgo⟩
  · rintro ⟨hv, hl⟩
    exact ⟨hv, by rw [h.peel.keep v hv hl]; rfl⟩
end Go.Proofs.YtmhiambkfdkkbaaDoor

namespace Go.Proofs.YtmhiambkfdkkbaaDoor
open Go.RowKit
set_option maxRecDepth 100000

/-- The memory of the peeling. -/
structure LvN (f : Names) (ov iv gv qv : Value) (n : Nat) (out inn : Nat → Nat) (gone : Nat → Bool) (q : List Nat) : Prop where
  outs : f (1, 0) = some (rowI ov (tab n out))
  inns : f (2, 0) = some (rowI iv (tab n inn))
  gones : f (3, 0) = some (rowV 4 gv (tabB n gone))
  queue : f (4, 0) = some (rowI qv (castI q))
section
variable {B : Nat} {w : World} {f : Names} {ov iv gv qv : Value} {n : Nat} {out inn : Nat → Nat} {gone : Nat → Bool} {q : List Nat}
theorem LvN.setOut (h : LvN f ov iv gv qv n out inn gone q) (hr : Rows B w f) (t : Nat) (ht : t < n) (a : Nat) : ∃ f', Rows B (w.setCell (valAt ov t) (.int .i64 (a : Int))) f' ∧ LvN f' ov iv gv qv n (updN out t a) inn gone q := by
  have hs := hr.setI h.outs t (by rw [tab_len]; exact ht) (a : Int)
  rw [tab_upd] at hs
  exact ⟨_, hs, ⟨upd_same _ _ _, by rw [upd_ne _ _ (by simp)]; exact h.inns, by rw [upd_ne _ _ (by simp)]; exact h.gones, by rw [upd_ne _ _ (by simp)]; exact h.queue⟩⟩
theorem LvN.setInn (h : LvN f ov iv gv qv n out inn gone q) (hr : Rows B w f) (t : Nat) (ht : t < n) (a : Nat) : ∃ f', Rows B (w.setCell (valAt iv t) (.int .i64 (a : Int))) f' ∧ LvN f' ov iv gv qv n out (updN inn t a) gone q := by
  have hs := hr.setI h.inns t (by rw [tab_len]; exact ht) (a : Int)
  rw [tab_upd] at hs
  exact ⟨_, hs, ⟨by rw [upd_ne _ _ (by simp)]; exact h.outs, upd_same _ _ _, by rw [upd_ne _ _ (by simp)]; exact h.gones, by rw [upd_ne _ _ (by simp)]; exact h.queue⟩⟩
theorem LvN.mark (h : LvN f ov iv gv qv n out inn gone q) (hr : Rows B w f) (t : Nat) (ht : t < n) : ∃ f', Rows B (w.setCell (valAt gv t) (.bool true)) f' ∧ LvN f' ov iv gv qv n out inn (updN gone t true) q := by
  have hs := hr.setV h.gones t (by rw [tabB_len]; exact ht) (.bool true)
  rw [tabB_upd] at hs
  exact ⟨_, hs, ⟨by rw [upd_ne _ _ (by simp)]; exact h.outs, by rw [upd_ne _ _ (by simp)]; exact h.inns, upd_same _ _ _, by rw [upd_ne _ _ (by simp)]; exact h.queue⟩⟩
theorem LvN.push (h : LvN f ov iv gv qv n out inn gone q) (hr : Rows B w f) {w1 : World} {qv' : Value} (t : Nat) (ho : OwnI B w1 qv' (castI q ++ [(t : Int)]))
    (hal : (roomOf qv' = roomOf qv ∧ w.grownBy w1 qv.ownBlock) ∨ (∃ k, qv'.ownBlock = some k ∧ w.heap.size ≤ k ∧ w.grownBy w1 none)) : ∃ f', Rows B w1 f' ∧ LvN f' ov iv gv qv' n out inn gone (q ++ [t]) :=
  ⟨_, row_push hr h.queue t ho hal, ⟨by rw [upd_ne _ _ (by simp)]; exact h.outs, by rw [upd_ne _ _ (by simp)]; exact h.inns, by rw [upd_ne _ _ (by simp)]; exact h.gones, upd_same _ _ _⟩⟩
/-- A number's cell. -/
theorem tab_cell (hr : Rows B w f) {i : Nat × Nat} {v : Value} {F : Nat → Nat} (hf : f i = some (rowI v (tab n F))) (t : Nat) (ht : t < n) :
    (∀ w', (Instr.indexAt 22 v (.int .i64 (t : Int))).run Tryd.prog w' = .ok (.pointer (some (valAt v t))) w') ∧ w.cell? (valAt v t) = some (.int .i64 (F t : Int)) ∧ w.frozen? (valAt v t) = false ∧ B ≤ (valAt v t).block := by
  have hO := hr.ownI hf
  refine ⟨fun w' => hO.at.idx t (by rw [tab_len]; exact ht) w', ?_, hO.frz t (by rw [tab_len]; exact ht), (hO.toV.blkB t (by rw [List.length_map, tab_len]; exact ht)).2⟩
  rw [hO.at.cellD t (by rw [tab_len]; exact ht), tab_get _ _ _ ht]
/-- A mark's cell. -/
theorem mark_cell (hr : Rows B w f) {i : Nat × Nat} {v : Value} {F : Nat → Bool} (hf : f i = some (rowV 4 v (tabB n F))) (t : Nat) (ht : t < n) :
    (∀ w', (Instr.indexAt 117 v (.int .i64 (t : Int))).run Tryd.prog w' = .ok (.pointer (some (valAt v t))) w') ∧ w.cell? (valAt v t) = some (.bool (F t)) ∧ w.frozen? (valAt v t) = false ∧ B ≤ (valAt v t).block := by
  have hO := hr.ownV hf
  refine ⟨fun w' => hO.at.idx oneBoolG t (by rw [tabB_len]; exact ht) w', ?_, hO.frz t (by rw [tabB_len]; exact ht), (hO.blkB t (by rw [tabB_len]; exact ht)).2⟩
  rw [hO.at.cellV t (by rw [tabB_len]; exact ht), tabB_get _ _ _ ht]
end
/-- The first k are F's. -/
def fillTo (F : Nat → Nat) (k t : Nat) : Nat := if t < k then F t else 0
theorem fillTo_next (F : Nat → Nat) (k : Nat) : updN (fillTo F k) k (F k) = fillTo F (k + 1) := by
  funext t
  unfold fillTo
  by_cases e : t = k
  · subst e; rw [updN_same, if_pos (by omega)]
  · rw [updN_other _ _ _ e]
    by_cases q : t < k
    · rw [if_pos q, if_pos (by omega)]
    · rw [if_neg q, if_neg (by omega)]
theorem tab_congr {n : Nat} {f g : Nat → Nat} (h : ∀ t, t < n → f t = g t) : tab n f = tab n g := by
  unfold tab
  exact List.map_congr_left fun t ht => by rw [h t (List.mem_range.1 ht)]
theorem fillTo_all (F : Nat → Nat) (n : Nat) : tab n (fillTo F n) = tab n F := tab_congr fun t ht => by unfold fillTo; rw [if_pos ht]
theorem fillTo_zero (F : Nat → Nat) (n : Nat) : tab n (fillTo F 0) = List.replicate n 0 := by
  unfold tab
  apply List.ext_getElem
  · simp
  · intro i h1 h2; simp [fillTo]
theorem tabB_none (n : Nat) : tabB n (fun _ => false) = List.replicate n (.bool false) := by
  unfold tabB; apply List.ext_getElem <;> simp
theorem filter_next (p : Nat → Bool) (k : Nat) : (List.range (k + 1)).filter p = (List.range k).filter p ++ if p k = true then [k] else [] := by
  rw [List.range_succ, List.filter_append]
  by_cases h : p k = true
  · rw [if_pos h, List.filter_cons_of_pos h]; rfl
  · rw [if_neg h, List.filter_cons_of_neg h]; rfl
theorem castI_snoc' (l : List Nat) (k : Nat) : castI l ++ [(k : Int)] = castI (l ++ [k]) := (castI_snoc l k).symm
/-- Box3 below another block. -/
theorem Box3.keep {B : Nat} {w w' : World} {b : Nat} {x0 x1 x2 : Value} (h : Box3 w b x0 x1 x2) (hb : Below B w w') (hlt : b < B) : Box3 w' b x0 x1 x2 := h.belowB hb hlt

end Go.Proofs.YtmhiambkfdkkbaaDoor

namespace Go.Proofs.YtmhiambkfdkkbaaDoor
open Go.RowKit
set_option maxRecDepth 100000

set_option maxHeartbeats 800000 in
theorem step_ok (K R : Nat) (va : Option Addr) (vn vc : Nat) (T : List Int) (u : Value) (ys : List Int) (w : World) (h : IntsAt w (.slice va vn vc) T) (hr : RuleOk K R T) (hu : IntsAt w u ys) (hy : Syms K ys) (hyl : ys.length ≤ 4096) :
    Calls Tryd.prog 16 #[.agg #[.int .i64 K, .int .i64 R, .slice va vn vc], u] w (Ret2 (fun x y w' => OwnI w.heap.size w' x (imgP K R T ys) ∧ y = .nilIface) w) := by
  have hb0 := belowAlloc w (.cells #[.int .i64 K, .int .i64 R, .slice va vn vc] 24)
  have hR := hr.r3
  have hk1 := hr.k1
  have hk4 := hr.k4
  have hlen := hr.len_le
  have hlp := hr.len_pos
  have hlT := Lib.hid hr.len
  have l1 := hu.len
  have lT := h.len
  have hodd := Lib.hid hy.odd
  replace h := Lib.hid (h.below hb0)
  replace hu := Lib.hid (hu.below hb0)
  replace hr := Lib.hid hr
  replace hy := Lib.hid hy
  obtain ⟨ua, un, uc, rfl⟩ := hu.out.shape
  have hL0 : ((T.length : Int) == 0) = false := by rw [beq_eq_false_iff_ne]; omega
  have hL1 : ¬ (T.length : Int) = 0 := by omega
  have hL2 : (0 : Int) < T.length := by omega
  go_enter Tryd.func16, Tryd.ntmps16
  go_wp2_with fail
  refine (check_ok K R _ T _ h.out hr.out).mono ?_
  rintro e w1 ⟨x, rfl, hb, rfl⟩
  obtain ⟨z0, z1, z2, -, -, -⟩ := cells3 hb
  go_wp2_with fail
  refine (rule_odd K _ ys _ (hu.out.below hb)).mono ?_
  rintro e w2 ⟨x, rfl, hb', rfl⟩
  rw [hodd.out]
  have zz := Lib.hid (And.intro z0 (And.intro z1 z2))
  clear z0 z1 z2
  have hb2 := Below.step hb hb'
  obtain ⟨z0, z1, z2⟩ := keep3 hb' zz.out
  have zz2 := Lib.hid (And.intro z0 (And.intro z1 z2))
  clear z0 z1 z2
  have hsz : w.heap.size < w2.heap.size := World.block_lt_of_cell? _ _ zz2.out.1
  have hT2 := Lib.hid (h.out.below hb2)
  have hu2 := Lib.hid (hu.out.below hb2)
  go_wp2
  go_loopw [8, 9, 31] (fun o n i wr => ∃ j : Nat, j ≤ ys.length ∧ i = .int .i64 j ∧ n = .int .i64 (numW K (ys.take j) % T.length : Nat) ∧ OwnI w2.heap.size wr o (imgP K R T (ys.take j)) ∧ Below w2.heap.size w2 wr) (fun _ _ i _ => ys.length - (intOf i).toNat)
  case atStart => exact ⟨0, by omega, rfl, by simp [numW], by simpa [imgP] using OwnI.nil _ _, Below.refl _ _⟩
  case round =>
    obtain ⟨j, hj, rfl, rfl, hO, hbO⟩ := hrel
    obtain ⟨wo, rfl⟩ : ∃ wo : World, wo = wr := ⟨_, rfl⟩
    by_cases hjl : j < ys.length
    · have hyi := hu2.out.below hbO
      have i1 := hyi.idx j hjl
      have c1 := hyi.cell j hjl
      have hx := hy.out ys[j] (by simp)
      obtain ⟨z0, z1, z2⟩ := keep3 hbO zz2.out
      have hst : Hid (numW K (ys.take (j + 1)) % T.length = (numW K (ys.take j) % T.length * K + ys[j].toNat) % T.length) := by
        show _ = _
        rw [take_snoc ys j hjl]; exact numW_step ..
      have hsy : Syms K (ys.take j ++ [ys[j]]) := by
        intro y hy'; exact hy.out y (by rw [← take_snoc ys j hjl] at hy'; exact List.mem_of_mem_take hy')
      have him := imgP_snoc (T := T) (R := R) hlT.out hsy
      rw [← take_snoc ys j hjl, hst.out] at him
      have htl : (ys.take j).length = j := by simp; omega
      rw [htl] at him
      have hol : (imgP K R T (ys.take j)).length ≤ 5000 := by rw [imgP_length]; omega
      have hNl : numW K (ys.take j) % T.length < T.length := Nat.mod_lt _ (by omega)
      generalize ys[j] = x at c1 hx hst him
      replace him := Lib.hid him
      generalize numW K (ys.take j) % T.length = N at hst him hNl
      generalize imgP K R T (ys.take j) = O at hO hol him
      have hm1 : 0 ≤ (N : Int) * (K : Int) := Int.mul_nonneg (by omega) (by omega)
      have hm2 : (N : Int) * (K : Int) ≤ 65536 := by
        have : N * K ≤ 65536 := Nat.mul_le_mul (show N ≤ 16384 by omega) hk4
        have h2 := Int.ofNat_le.2 this
        rw [Int.natCast_mul] at h2
        exact h2
      obtain ⟨X, rfl⟩ := Int.eq_ofNat_of_zero_le hx.1
      rw [Int.toNat_natCast] at him hst
      have hcast : Hid ((((N * K + X) % T.length : Nat) : Int) = ((N : Int) * (K : Int) + (X : Int)) % (T.length : Int)) := by show _ = _; simp
      have hMl : (N * K + X) % T.length < T.length := Nat.mod_lt _ (by omega)
      have hTw := hT2.out.below hbO
      have i2 : ∀ w', (Instr.indexAt 22 (.slice va vn vc) (.int .i64 (((N : Int) * (K : Int) + (X : Int)) % (T.length : Int)))).run Tryd.prog w' = .ok (.pointer (some (valAt (.slice va vn vc) ((N * K + X) % T.length)))) w' := by
        intro w'
        rw [← hcast.out]
        exact hTw.idx _ hMl w'
      have c2 := hTw.cellD _ hMl
      replace hO := Lib.hid hO
      clear hyi hTw
      generalize T.getD ((N * K + X) % T.length) 0 = y at c2 him
      by_cases hge : 2 * R ≤ j
      · replace him := Lib.hid (him.out.trans (if_pos hge))
        go_wp2_with (at_builtin; refine wpl_append1 rfl _ _ rfl w2.heap.size _ O y hO.out rfl rfl (by omega) hbO.size ?_)
        intro nv w4 hO4 hb4 _ _
        have hbT := hbO.trans hb4
        replace hO4 := Lib.hid hO4
        go_wp2
        go_roundw
        case rel => exact ⟨j + 1, by omega, by go_num, by rw [hst.out, hcast.out], by rw [him.out]; exact hO4.out, hbT⟩
        case measure => simp [intOf]; omega
      · replace him := Lib.hid (him.out.trans (if_neg hge))
        go_wp2
        go_roundw
        case rel => exact ⟨j + 1, by omega, by go_num, by rw [hst.out, hcast.out], by rw [him.out]; exact hO.out, hbO⟩
        case measure => simp [intOf]; omega
    · obtain rfl : j = ys.length := by omega
      rw [List.take_length] at hO
      go_wp2
      go_ret2
      exact ⟨_, _, rfl, Below.step hb0 (Below.step hb2 hbO), hO.mono (by omega), rfl⟩
end Go.Proofs.YtmhiambkfdkkbaaDoor

namespace Go.Proofs.YtmhiambkfdkkbaaDoor
open Go.RowKit
set_option maxRecDepth 100000

theorem symbol_any (K R : Nat) (va : Option Addr) (vn vc : Nat) (T : List Int) (u : Value) (ys : List Int) (w : World) (h : IntsAt w (.slice va vn vc) T) (hr : RuleOk K R T) (hu : IntsAt w u ys) (hy : Syms K ys) (hyl : ys.length = 2 * R + 1) :
    Calls Tryd.prog 63 #[.agg #[.int .i64 K, .int .i64 R, .slice va vn vc], u] w (Ret1 (fun x _ => x = .int .i64 (T.getD (numW K ys) 0)) w) := by
  have hb0 := belowAlloc w (.cells #[.int .i64 K, .int .i64 R, .slice va vn vc] 24)
  have hR := hr.r3
  have hk1 := hr.k1
  have hk4 := hr.k4
  have l1 := hu.len
  have hb7 : ys.length ≤ 7 := by omega
  have hnl : numW K ys < T.length := by rw [hr.len, ← hyl]; exact numW_lt ys hy
  generalize hy0 : T.getD (numW K ys) 0 = y0
  replace hy0 := Lib.hid hy0
  replace hnl := Lib.hid hnl
  replace hyl := Lib.hid hyl
  replace h := Lib.hid (h.below hb0)
  replace hu := Lib.hid (hu.below hb0)
  replace hy := Lib.hid hy
  replace hr := Lib.hid hr
  obtain ⟨ua, un, uc, rfl⟩ := hu.out.shape
  go_enter Tryd.func63, Tryd.ntmps63
  go_wp2
  go_loop [5, 10] (fun n i => ∃ j : Nat, j ≤ ys.length ∧ i = .int .i64 j ∧ n = .int .i64 (numW K (ys.take j))) (fun _ i => ys.length - (intOf i).toNat)
  case atStart => exact ⟨0, by omega, rfl, rfl⟩
  case round =>
    obtain ⟨j, hj, rfl, rfl⟩ := hrel
    by_cases hjl : j < ys.length
    · have i1 := hu.out.idx j hjl
      have c1 := hu.out.cell j hjl
      have hx := hy.out ys[j] (by simp)
      have hn : Hid (numW K (ys.take (j + 1)) = numW K (ys.take j) * K + ys[j].toNat) := by
        show _ = _
        rw [take_snoc ys j hjl, numW_snoc]
      have hn2 : numW K (ys.take j) ≤ 16384 := by
        have h1 := numW_lt (ys.take j) (fun x hx => hy.out x (List.mem_of_mem_take hx))
        have h2 := pw_le hk1 hk4 (i := (ys.take j).length) (by simp; omega)
        omega
      generalize ys[j] = x at c1 hx hn
      generalize numW K (ys.take j) = N at hn hn2
      have hm1 : 0 ≤ (N : Int) * (K : Int) := Int.mul_nonneg (by omega) (by omega)
      have hm2 : (N : Int) * (K : Int) ≤ 65536 := by
        have : N * K ≤ 65536 := Nat.mul_le_mul hn2 hk4
        have h2 := Int.ofNat_le.2 this
        rw [Int.natCast_mul] at h2
        exact h2
      go_wp2
      go_round
      case rel => exact ⟨j + 1, by omega, by go_num, by rw [hn.out]; go_num⟩
      case measure => simp [intOf]; omega
    · obtain rfl : j = ys.length := by omega
      rw [List.take_length]
      have i2 := h.out.idx (numW K ys) hnl.out
      have c2 := h.out.cellD (numW K ys) hnl.out
      rw [hy0.out] at c2
      clear hy0 hnl
      generalize numW K ys = N at i2 c2
      go_wp2
      go_ret
      exact ⟨_, rfl, hb0, rfl⟩

theorem behind1_any (K R1 R2 : Nat) (va : Option Addr) (vn vc : Nat) (T1 : List Int) (ua : Option Addr) (un uc : Nat) (T2 : List Int) (p q : Nat) (v : Value) (ys : List Int) (w : World)
    (h1 : IntsAt w (.slice va vn vc) T1) (hr1 : RuleOk K R1 T1) (h2 : IntsAt w (.slice ua un uc) T2) (hr2 : RuleOk K R2 T2) (hv : IntsAt w v ys) (hy : Syms K ys) (hyl : ys.length = 2 * (R1 + R2) + 1)
    (x0 : w.cell? ⟨p, 0, none⟩ = some (.int .i64 K)) (x1 : w.cell? ⟨p, 1, none⟩ = some (.int .i64 R2)) (x2 : w.cell? ⟨p, 2, none⟩ = some (.slice ua un uc))
    (y0 : w.cell? ⟨q, 0, none⟩ = some (.int .i64 K)) (y1 : w.cell? ⟨q, 1, none⟩ = some (.int .i64 R1)) (y2 : w.cell? ⟨q, 2, none⟩ = some (.slice va vn vc)) :
    Calls Tryd.prog 88 #[v, .pointer (some ⟨p, 0, none⟩), .pointer (some ⟨q, 0, none⟩)] w (Ret1 (fun x _ => x = .int .i64 (T1.getD (numW K (imgP K R2 T2 ys)) 0)) w) := by
  have hR1 := hr1.r3
  have hR2 := hr2.r3
  have hk1 := hr1.k1
  have hsy : Syms K (imgP K R2 T2 ys) := imgP_syms hk1 hr2.syms
  have hil : (imgP K R2 T2 ys).length = 2 * R1 + 1 := by rw [imgP_length]; omega
  have hle : ys.length ≤ 4096 := by omega
  replace h1 := Lib.hid h1
  replace h2 := Lib.hid h2
  replace hv := Lib.hid hv
  replace hy := Lib.hid hy
  replace hyl := Lib.hid hyl
  replace hr1 := Lib.hid hr1
  replace hr2 := Lib.hid hr2
  replace hsy := Lib.hid hsy
  replace hil := Lib.hid hil
  generalize hY : T1.getD (numW K (imgP K R2 T2 ys)) 0 = Y
  replace hY := Lib.hid hY
  have yy := Lib.hid (And.intro y0 (And.intro y1 y2))
  clear y0 y1 y2
  go_enter Tryd.func88, Tryd.ntmps88
  go_wp2_with fail
  refine (step_ok K R2 ua un uc T2 v ys _ h2.out hr2.out hv.out hy.out hle).mono ?_
  rintro e w1 ⟨x, y, rfl, hb, ho, rfl⟩
  obtain ⟨y0, y1, y2⟩ := keep3 hb yy.out
  replace ho := Lib.hid ho
  go_wp2_with fail
  refine (symbol_any K R1 va vn vc T1 x _ _ (h1.out.below hb) hr1.out ho.out.at hsy.out hil.out).mono ?_
  rintro e w2 ⟨x, rfl, hb', rfl⟩
  rw [hY.out]
  go_wp2
  go_ret
  exact ⟨_, rfl, Below.step hb hb', rfl⟩
end Go.Proofs.YtmhiambkfdkkbaaDoor

namespace Go.Proofs.YtmhiambkfdkkbaaDoor
open Go.RowKit
set_option maxRecDepth 100000

/-- The table of a function of windows. -/
def madeP (K n : Nat) (s : List Int → Int) (m : Nat) : List Int := (List.range m).map fun x => s (digs K n x)
theorem madeP_length (K n : Nat) (s : List Int → Int) (m : Nat) : (madeP K n s m).length = m := by simp [madeP]

theorem madeP_set (K n : Nat) (s : List Int → Int) (m P : Nat) (h : m < P) : (madeP K n s m ++ List.replicate (P - m) (0 : Int)).set m (s (digs K n m)) = madeP K n s (m + 1) ++ List.replicate (P - (m + 1)) 0 := by
  rw [List.set_append_right _ _ (by rw [madeP_length]; exact Nat.le_refl _), madeP_length, Nat.sub_self, show P - m = (P - (m + 1)) + 1 by omega, List.replicate_succ, List.set_cons_zero, madeP, madeP, List.range_succ, List.map_append, List.append_assoc]
  rfl

set_option maxHeartbeats 800000 in
theorem made_two0 (K R F : Nat) (c1 c2 : Value) (s : List Int → Int) (w : World) (hk1 : 1 ≤ K) (hk4 : K ≤ 4) (hR : R ≤ 3)
    (eg : ∀ args w, (callFunc F args).run Tryd.prog w = .ok (.enter F args) w)
    (hF : ∀ (v : Value) (ys : List Int) (w' : World), Below w.heap.size w w' → IntsAt w' v ys → Syms K ys → ys.length = 2 * R + 1 → Calls Tryd.prog F #[v, c1, c2] w' (Ret1 (fun x _ => x = .int .i64 (s ys)) w')) :
    Calls Tryd.prog 60 #[.int .i64 K, .int .i64 R, .func (.func F) #[] #[c1, c2]] w (Ret1 (fun x w' => ∃ a n c, x = .agg #[.int .i64 K, .int .i64 R, .slice a n c] ∧ OwnI w.heap.size w' (.slice a n c) (madeP K (2 * R + 1) s (pw K (2 * R + 1)))) w) := by
  have hpl := pw_le hk1 hk4 (i := 2 * R + 1) (by omega)
  replace hF := Lib.hid hF
  go_enter Tryd.func60, Tryd.ntmps60
  go_wp2_with fail
  refine (size_ok K R _ hk1 hk4 hR).mono ?_
  rintro e w' ⟨rfl, rfl⟩
  go_wp2_with fail
  have hb0 := belowAlloc w (.cells #[.int .i64 0, .int .i64 0, .slice none 0 0] 24)
  obtain ⟨tv, w1, hmk, ho1, hb1⟩ := run_makeI ((pw K (2 * R + 1) : Nat) : Int) (pw K (2 * R + 1)) (w.alloc (.cells #[.int .i64 0, .int .i64 0, .slice none 0 0] 24)) rfl (by omega)
  obtain ⟨ta, tn, tc, rfl⟩ := ho1.at.shape
  rw [hmk]
  simp only [Result.andThen]
  clear hmk
  generalize hN : 2 * R + 1 = N at *
  go_wp2_with fail
  obtain ⟨wv, w2, hmk2, ho2, hb2⟩ := run_makeI (2 * (R : Int) + 1) N (w1.alloc (.cells #[.int .i64 K, .int .i64 R, .slice ta tn tc] 24)) (by omega) (by omega)
  obtain ⟨wa, wn, wc, rfl⟩ := ho2.at.shape
  rw [hmk2]
  simp only [Result.andThen]
  clear hmk2
  obtain ⟨z0, z1, z2, -, -, -⟩ := cells3 hb2
  have lt := (ho1.at.len)
  rw [List.length_replicate] at lt
  have hN7 : N ≤ 7 := by omega
  replace hN := Lib.hid hN
  have ltb : ∀ k, (Value.slice ta tn tc).ownBlock = some k → k < w1.heap.size := fun k hk => (ho1.lt k hk).2
  have lwn := ho2.at.len
  rw [List.length_replicate] at lwn
  have ho1' := Lib.hid ((ho1.alloc (.cells #[.int .i64 K, .int .i64 R, .slice ta tn tc] 24)).below hb2)
  have zz := Lib.hid (And.intro z0 (And.intro z1 z2))
  have hbw := Lib.hid (hb1.trans ((Below.step (belowAlloc w1 (.cells #[.int .i64 K, .int .i64 R, .slice ta tn tc] 24)) hb2).mono hb1.size))
  replace ho2 := Lib.hid ho2
  replace ltb := Lib.hid ltb
  have hsz1 := hb1.size
  simp at hsz1
  have hM : pw K N = pw K N := rfl
  clear hM
  go_wp2
  go_loopw [32] (fun i wr => ∃ m : Nat, m ≤ pw K N ∧ i = .int .i64 m ∧ OwnI (w.heap.size + 1) wr (.slice ta tn tc) (madeP K N s m ++ List.replicate (pw K N - m) 0) ∧ (∃ p : List Int, p.length = N ∧ OwnI (w1.heap.size + 1) wr (.slice wa wn wc) p) ∧
      (wr.cell? ⟨w1.heap.size, 0, none⟩ = some (.int .i64 K) ∧ wr.cell? ⟨w1.heap.size, 1, none⟩ = some (.int .i64 R) ∧ wr.cell? ⟨w1.heap.size, 2, none⟩ = some (.slice ta tn tc)) ∧
      Below (w.heap.size + 1) (w.alloc (.cells #[.int .i64 0, .int .i64 0, .slice none 0 0] 24)) wr) (fun i _ => pw K N - (intOf i).toNat)
  case atStart => exact ⟨0, by omega, rfl, by simpa [madeP] using ho1'.out, ⟨List.replicate N 0, by simp, by simpa using ho2.out⟩, zz.out, by simpa using hbw.out⟩
  case round =>
    obtain ⟨m, hm, rfl, hT, ⟨p, hp, hP⟩, hz, hbO⟩ := hrel
    obtain ⟨wo, rfl⟩ : ∃ wo : World, wo = wr := ⟨_, rfl⟩
    replace hz := Lib.hid hz
    replace hT := Lib.hid hT
    by_cases hml : m < pw K N
    · have hsz2 : w1.heap.size < wo.heap.size := World.block_lt_of_cell? _ _ hz.out.1
      have hK0 : ((K : Int) == 0) = false := by rw [beq_eq_false_iff_ne]; omega
      have hK1 : ¬ (K : Int) = 0 := by omega
      have hK2 : (0 : Int) < K := by omega
      go_wp2
      go_loopw [12, 38] (fun x i wr => ∃ j : Nat, j ≤ N ∧ i = .int .i64 j ∧ x = .int .i64 (m / pw K j : Nat) ∧ OwnI (w1.heap.size + 1) wr (.slice wa wn wc) (p.take (N - j) ++ (digs K N m).drop (N - j)) ∧ Below (w1.heap.size + 1) wo wr) (fun _ i _ => N - (intOf i).toNat)
      case atStart => exact ⟨0, by omega, rfl, by simp [pw], by rw [Nat.sub_zero, List.drop_of_length_le (by rw [digs_length]; exact Nat.le_refl _), List.append_nil, List.take_of_length_le (by omega)]; exact hP, Below.refl _ _⟩
      case round =>
        obtain ⟨j, hj, rfl, rfl, hO, hbI⟩ := hrel
        obtain ⟨wi, rfl⟩ : ∃ wi : World, wi = wr := ⟨_, rfl⟩
        by_cases hjl : j < N
        · have hXl : (p.take (N - j) ++ (digs K N m).drop (N - j)).length = N := by simp [digs_length]; omega
          have i1 : ∀ w', (Instr.indexAt 22 (.slice wa wn wc) (.int .i64 ((N : Int) - 1 - (j : Int)))).run Tryd.prog w' = .ok (.pointer (some (valAt (.slice wa wn wc) (N - 1 - j)))) w' := by
            intro w'
            have := hO.at.idxI ((N : Int) - 1 - (j : Int)) (by omega) (by rw [hXl]; omega) w'
            rwa [show ((N : Int) - 1 - (j : Int)).toNat = N - 1 - j by omega] at this
          have c1 := hO.at.cellD (N - 1 - j) (by rw [hXl]; omega)
          have f1 := hO.frz (N - 1 - j) (by rw [hXl]; omega)
          have hS := hO.set (N - 1 - j) (by rw [hXl]; omega) ((m / pw K j % K : Nat) : Int)
          have hbS := hO.setBelow hbI (N - 1 - j) (by rw [hXl]; omega) (.int .i64 ((m / pw K j % K : Nat) : Int))
          rw [digs_fill K N m j hjl p hp] at hS
          replace hS := Lib.hid hS
          replace hbS := Lib.hid hbS
          have hqd : m / pw K j / K = m / pw K (j + 1) := by rw [Nat.div_div_eq_div_mul, ← pw_succ]
          replace hqd := Lib.hid hqd
          have hql : m / pw K j ≤ 16384 := Nat.le_trans (Nat.div_le_self _ _) (by omega)
          generalize (p.take (N - j) ++ (digs K N m).drop (N - j)).getD (N - 1 - j) 0 = y at c1
          clear hXl hO
          generalize m / pw K j = q at *
          rw [Int.natCast_emod] at hS hbS
          have hd0 : 0 ≤ (q : Int) / (K : Int) := Int.ediv_nonneg (by omega) (by omega)
          have hd1 : (q : Int) / (K : Int) ≤ 16384 := by
            have h1 : q / K ≤ q := Nat.div_le_self _ _
            have h2 : q / K ≤ 16384 := by omega
            exact_mod_cast h2
          have hdw : IntKind.i64.wrap ((q : Int) / (K : Int)) = (q : Int) / (K : Int) := wrapK (by omega) (by omega)
          go_wp2
          go_roundw
          case rel => exact ⟨j + 1, by omega, by go_num, by rw [← hqd.out]; simp, hS.out, hbS.out⟩
          case measure => simp [intOf]; omega
        · have hjN : j = N := by omega
          subst hjN
          rw [Nat.sub_self, List.take_zero, List.drop_zero, List.nil_append] at hO
          have hbW : Below w.heap.size w wi := ((belowAlloc w _).trans (hbO.mono (by omega))).trans (hbI.mono (by omega))
          have hz2 := hbI.cell (p := ⟨w1.heap.size, 2, none⟩) (by simp)
          have hTl : m < (madeP K j s m ++ List.replicate (pw K j - m) (0 : Int)).length := by simp [madeP_length]; omega
          have hTi := hT.out.belowB hbI (fun k hk => by have := ltb.out k hk; omega)
          have i2 := hTi.at.idx m hTl
          have c2 := hTi.at.cellD m hTl
          have f2 := hTi.frz m hTl
          have b2 := hTi.at.blk m hTl
          have z2i := hz2.trans hz.out.2.2
          have zbi : (⟨w1.heap.size, 2, none⟩ : Addr).block < wi.heap.size := World.block_lt_of_cell? _ _ z2i
          generalize (madeP K j s m ++ List.replicate (pw K j - m) (0 : Int)).getD m 0 = o at c2
          replace hTi := Lib.hid hTi
          replace hO := Lib.hid hO
          replace hbW := Lib.hid hbW
          replace hTl := Lib.hid hTl
          clear hz2
          have hvb : (valAt (.slice ta tn tc) m).block ≠ w1.heap.size := by
            have := ltb.out _ (hT.out.toV.blkB m (by simpa using hTl.out)).1
            omega
          have hdl : m + 1 ≤ pw K j := hml
          go_wp2
          go_region_held3 (fun w' => w'.cell? ⟨w1.heap.size, 2, none⟩ = some (.slice ta tn tc)) (go_keep)
            (first | (refine (hF.out _ (digs K j m) _ (by first | exact hbW.out.drew | exact hbW.out) (by first | exact hO.out.at.drew | exact hO.out.at) (digs_syms hk1 _ _) (by rw [digs_length])).mono ?_; rintro e w5 ⟨x5, rfl, hb5, rfl⟩; have y1 := (hb5.cell zbi).trans z2i; have y2 := (hb5.cell b2).trans c2; have y3 := (hb5.frozen b2).trans f2; have bb : Below wi.heap.size wi w5 := ((Below.refl _ _).drew).trans hb5))
          have hT5 := (hTi.out.drew.below hb5).set m hTl.out (s (digs K j m))
          rw [madeP_set K j s m _ hml] at hT5
          have hO5 := (hO.out.drew.below hb5).setOther (hTi.out.drew.below hb5) (by
            intro e
            have e1 := (hT.out.toV.blkB m (by simpa using hTl.out)).1
            have e2 := (hO.out.lt _ (e.trans e1)).1
            have e3 := ltb.out _ e1
            omega) m hTl.out (.int .i64 (s (digs K j m)))
          have hB5 := ((hbO.trans (hbI.mono (by omega))).trans (bb.mono (by omega))).setCell ((hTi.out.blkB m hTl.out)) (.int .i64 (s (digs K j m)))
          have x0 := (World.cell?_setCell_far w5 (valAt (.slice ta tn tc) m) ⟨w1.heap.size, 0, none⟩ (.int .i64 (s (digs K j m))) hvb).trans (((bb.cell (p := ⟨w1.heap.size, 0, none⟩) zbi)).trans ((hbI.cell (p := ⟨w1.heap.size, 0, none⟩) (by simp)).trans hz.out.1))
          have x1 := (World.cell?_setCell_far w5 (valAt (.slice ta tn tc) m) ⟨w1.heap.size, 1, none⟩ (.int .i64 (s (digs K j m))) hvb).trans (((bb.cell (p := ⟨w1.heap.size, 1, none⟩) zbi)).trans ((hbI.cell (p := ⟨w1.heap.size, 1, none⟩) (by simp)).trans hz.out.2.1))
          have x2 := (World.cell?_setCell_far w5 (valAt (.slice ta tn tc) m) ⟨w1.heap.size, 2, none⟩ (.int .i64 (s (digs K j m))) hvb).trans y1
          have xx := Lib.hid (And.intro x0 (And.intro x1 x2))
          clear x0 x1 x2
          replace hT5 := Lib.hid hT5
          replace hO5 := Lib.hid hO5
          replace hB5 := Lib.hid hB5
          go_wp2
          go_roundw
          case rel => exact ⟨m + 1, by omega, by go_num, hT5.out, ⟨digs K j m, digs_length .., hO5.out⟩, xx.out, hB5.out⟩
          case measure => simp [intOf]; omega
    · obtain rfl : m = pw K N := by omega
      rw [Nat.sub_self, List.replicate_zero, List.append_nil] at hT
      obtain ⟨z0, z1, z2⟩ := hz.out
      obtain ⟨y0, y1, y2, f0, f1, f2⟩ := cells3 (w := w) (show Below (w.alloc (.cells #[.int .i64 0, .int .i64 0, .slice none 0 0] 24)).heap.size _ wo by simpa using hbO)
      replace hbO := Lib.hid hbO
      go_wp2
      refine bodyPost_ret (v := .agg #[.int .i64 K, .int .i64 R, .slice ta tn tc]) (by simp [results, Tryd.results60, go_sem, y0, y1, y2]) rfl ⟨_, rfl, ?_, ta, tn, tc, rfl, ?_⟩
      · exact (((belowAlloc w _).trans (hbO.out.mono (by omega))).setCell (by simp) _).setCell (by simp) _ |>.setCell (by simp) _
      · rw [hN.out]; exact (((hT.out.setBelowBase (a := ⟨w.heap.size, 0, none⟩) (by simp) _).setBelowBase (a := ⟨w.heap.size, 1, none⟩) (by simp) _).setBelowBase (a := ⟨w.heap.size, 2, none⟩) (by simp) _).mono (Nat.le_succ _)

theorem made_two (K R F : Nat) (c1 c2 : Value) (s : List Int → Int) (w : World) (hk1 : 1 ≤ K) (hk4 : K ≤ 4) (hR : R ≤ 3) (Ri : Int) (hRi : Ri = R)
    (eg : ∀ args w, (callFunc F args).run Tryd.prog w = .ok (.enter F args) w)
    (hF : ∀ (v : Value) (ys : List Int) (w' : World), Below w.heap.size w w' → IntsAt w' v ys → Syms K ys → ys.length = 2 * R + 1 → Calls Tryd.prog F #[v, c1, c2] w' (Ret1 (fun x _ => x = .int .i64 (s ys)) w')) :
    Calls Tryd.prog 60 #[.int .i64 K, .int .i64 Ri, .func (.func F) #[] #[c1, c2]] w (Ret1 (fun x w' => ∃ a n c, x = .agg #[.int .i64 K, .int .i64 R, .slice a n c] ∧ OwnI w.heap.size w' (.slice a n c) (madeP K (2 * R + 1) s (pw K (2 * R + 1)))) w) := by
  subst hRi
  exact made_two0 K R F c1 c2 s w hk1 hk4 hR eg hF
end Go.Proofs.YtmhiambkfdkkbaaDoor

namespace Go.Proofs.YtmhiambkfdkkbaaDoor
open Go.RowKit
set_option maxRecDepth 100000

abbrev zR : Value := .agg #[.int .i64 0, .int .i64 0, .slice none 0 0]
def sForms : ByteArray := ⟨#[102, 111, 114, 109, 115]⟩
theorem madeP_behind (K R1 : Nat) (T1 : List Int) (R2 : Nat) (T2 : List Int) :
    madeP K (2 * (R1 + R2) + 1) (fun ys => T1.getD (numW K (imgP K R2 T2 ys)) 0) (pw K (2 * (R1 + R2) + 1)) = behindT K R1 T1 R2 T2 := rfl

theorem eg_behind1 (args : Array Value) (w : World) : (callFunc 88 args).run Tryd.prog w = .ok (.enter 88 args) w := by kernel_rfl

set_option maxHeartbeats 800000 in
theorem behind_any (K R1 R2 : Nat) (va : Option Addr) (vn vc : Nat) (T1 : List Int) (ua : Option Addr) (un uc : Nat) (T2 : List Int) (w : World)
    (h1 : IntsAt w (.slice va vn vc) T1) (hr1 : RuleOk K R1 T1) (h2 : IntsAt w (.slice ua un uc) T2) (hr2 : RuleOk K R2 T2) (hR : R1 + R2 ≤ 3) :
    Calls Tryd.prog 58 #[.agg #[.int .i64 K, .int .i64 R1, .slice va vn vc], .agg #[.int .i64 K, .int .i64 R2, .slice ua un uc]] w
      (Ret1 (fun x w' => ∃ a n c, x = .agg #[.int .i64 K, .int .i64 ((R1 + R2 : Nat) : Int), .slice a n c] ∧ OwnI w.heap.size w' (.slice a n c) (behindT K R1 T1 R2 T2)) w) := by
  have hk1 := hr1.k1
  have hk4 := hr1.k4
  have b0 := belowAlloc w (.cells #[.int .i64 K, .int .i64 R1, .slice va vn vc] 24)
  have b1 := Below.step (Below.step b0 (belowAlloc _ (.cells #[.int .i64 K, .int .i64 R2, .slice ua un uc] 24))) (belowAlloc _ (.cells #[.int .i64 0, .int .i64 0, .slice none 0 0] 24))
  replace h1 := Lib.hid (h1.below b1)
  replace h2 := Lib.hid (h2.below b1)
  replace hr1 := Lib.hid hr1
  replace hr2 := Lib.hid hr2
  go_enter Tryd.func58, Tryd.ntmps58
  go_wp2_with fail
  refine (made_two K (R1 + R2) 88 _ _ (fun ys => T1.getD (numW K (imgP K R2 T2 ys)) 0) _ hk1 hk4 hR _ (by omega) eg_behind1 ?_).mono ?_
  · intro v ys w' hb hv hy hyl
    obtain ⟨x0, x1, x2⟩ := keep3 (n := w.heap.size + 1) (a := .int .i64 K) (b := .int .i64 R2) (c := .slice ua un uc) hb ⟨by simp [go_sem], by simp [go_sem], by simp [go_sem]⟩
    obtain ⟨y0, y1, y2⟩ := keep3 (n := w.heap.size) (a := .int .i64 K) (b := .int .i64 R1) (c := .slice va vn vc) hb ⟨by simp [go_sem], by simp [go_sem], by simp [go_sem]⟩
    exact behind1_any K R1 R2 va vn vc T1 ua un uc T2 _ _ v ys w' (h1.out.below hb) hr1.out (h2.out.below hb) hr2.out hv hy hyl x0 x1 x2 y0 y1 y2
  · rintro e w1 ⟨x, rfl, hb, a, n, c, rfl, ho⟩
    rw [madeP_behind] at ho
    replace ho := Lib.hid ho
    obtain ⟨y0, y1, y2, f0, f1, f2⟩ := cells3 hb
    rw [show ((w.alloc (.cells #[.int .i64 K, .int .i64 R1, .slice va vn vc] 24)).alloc (.cells #[.int .i64 K, .int .i64 R2, .slice ua un uc] 24)).heap.size = w.heap.size + 1 + 1 by simp] at y0 y1 y2 f0 f1 f2
    go_wp2
    refine bodyPost_ret (v := .agg #[.int .i64 K, .int .i64 ((R1 + R2 : Nat) : Int), .slice a n c]) (by simp [results, Tryd.results58, go_sem, y0, y1, y2]) rfl ⟨_, rfl, ?_, a, n, c, rfl, ?_⟩
    · exact (((Below.step b1 hb).setCell (by simp; omega) _).setCell (by simp; omega) _).setCell (by simp; omega) _
    · exact (((ho.out.setBelowBase (a := ⟨w.heap.size + 1 + 1, 0, none⟩) (by simp) _).setBelowBase (a := ⟨w.heap.size + 1 + 1, 1, none⟩) (by simp) _).setBelowBase (a := ⟨w.heap.size + 1 + 1, 2, none⟩) (by simp) _).mono (by simp; omega)

theorem forms_wrong (r : Nat → Addr) (at_ n : Int) (w : World) (hg : Glob r w) (h1 : 1 ≤ n) (h2 : n ≤ 11) :
    Calls Tryd.prog 57 #[.int .i64 at_, .int .i64 n] w (Ret1 (fun v w' => ErrIs r w' (fresh sForms at_ n) v) w) := by
  go_enter Tryd.func57, Tryd.ntmps57
  go_wp2_with fail
  refine (new_any r _ at_ n w hg h1 h2).mono ?_
  rintro e w' ⟨v, rfl, hb, he⟩
  go_wp2
  go_ret
  exact ⟨_, rfl, hb, he⟩

theorem forms_check (r : Nat → Addr) (at_ : Int) (k R : Int) (va : Option Addr) (vn vc : Nat) (xs : List Int) (w : World) (hg : Glob r w) (h : IntsAt w (.slice va vn vc) xs) :
    Calls Tryd.prog 56 #[.int .i64 at_, .agg #[.int .i64 k, .int .i64 R, .slice va vn vc]] w (Ret1 (fun x w' => ErrIs r w' (under sForms at_ (checkP k R xs)) x) w) := by
  have hb0 := belowAlloc w (.cells #[.int .i64 k, .int .i64 R, .slice va vn vc] 24)
  replace hg := Lib.hid (hg.below hb0)
  replace h := Lib.hid (h.below hb0)
  go_enter Tryd.func56, Tryd.ntmps56
  go_wp2_with fail
  refine (check_any r k R _ xs _ hg.out h.out).mono ?_
  rintro e w1 ⟨x, rfl, hb, he⟩
  go_wp2_with fail
  refine (under_any r _ _ _ _ _ he).mono ?_
  rintro e w2 ⟨x, rfl, hb', he⟩
  go_wp2
  go_ret
  exact ⟨_, rfl, Below.step hb0 (Below.step hb hb'), he⟩

/-- forms.Compose's fault. -/
def composeP (k R : Int) (T : List Int) (k' R' : Int) (T' : List Int) : PErr :=
  match checkP k R T with
  | some t => under sForms 0 (some t)
  | none => match checkP k' R' T' with
    | some t => under sForms 1 (some t)
    | none => if k ≠ k' then fresh sForms 1 3 else if 3 < R + R' then fresh sForms 0 4 else none


/-- Two rules boxed, and a result's variable: their cells stay. -/
theorem cells9 {w w1 : World} {x0 x1 x2 x3 x4 x5 x6 x7 x8 : Value} {T1 T2 T3 : TypeId} (hb : Below (((w.alloc (.cells #[x0, x1, x2] T1)).alloc (.cells #[x3, x4, x5] T2)).alloc (.cells #[x6, x7, x8] T3)).heap.size (((w.alloc (.cells #[x0, x1, x2] T1)).alloc (.cells #[x3, x4, x5] T2)).alloc (.cells #[x6, x7, x8] T3)) w1) :
    (w1.cell? ⟨w.heap.size, 0, none⟩ = some x0 ∧ w1.cell? ⟨w.heap.size, 1, none⟩ = some x1 ∧ w1.cell? ⟨w.heap.size, 2, none⟩ = some x2) ∧
    (w1.cell? ⟨w.heap.size + 1, 0, none⟩ = some x3 ∧ w1.cell? ⟨w.heap.size + 1, 1, none⟩ = some x4 ∧ w1.cell? ⟨w.heap.size + 1, 2, none⟩ = some x5) ∧
    (w1.cell? ⟨w.heap.size + 1 + 1, 0, none⟩ = some x6 ∧ w1.cell? ⟨w.heap.size + 1 + 1, 1, none⟩ = some x7 ∧ w1.cell? ⟨w.heap.size + 1 + 1, 2, none⟩ = some x8) ∧
    (w1.frozen? ⟨w.heap.size + 1 + 1, 0, none⟩ = false ∧ w1.frozen? ⟨w.heap.size + 1 + 1, 1, none⟩ = false ∧ w1.frozen? ⟨w.heap.size + 1 + 1, 2, none⟩ = false) := by
  refine ⟨keep3 (n := w.heap.size) hb ⟨by simp [go_sem], by simp [go_sem], by simp [go_sem]⟩, keep3 (n := w.heap.size + 1) hb ⟨by simp [go_sem], by simp [go_sem], by simp [go_sem]⟩, ?_⟩
  have := cells3 hb
  rw [show ((w.alloc (.cells #[x0, x1, x2] T1)).alloc (.cells #[x3, x4, x5] T2)).heap.size = w.heap.size + 1 + 1 by simp] at this
  exact ⟨⟨this.1, this.2.1, this.2.2.1⟩, this.2.2.2⟩

set_option maxHeartbeats 800000 in
theorem compose_bad1 (r : Nat → Addr) (k R : Int) (va : Option Addr) (vn vc : Nat) (T : List Int) (k' R' : Int) (ua : Option Addr) (un uc : Nat) (t : Int × List (ByteArray × Int)) (w : World) (hg : Glob r w)
    (h : IntsAt w (.slice va vn vc) T) (hc : checkP k R T = some t) :
    Calls Tryd.prog 22 #[.agg #[.int .i64 k, .int .i64 R, .slice va vn vc], .agg #[.int .i64 k', .int .i64 R', .slice ua un uc]] w (Ret2 (fun x y w' => x = zR ∧ ErrIs r w' (under sForms 0 (some t)) y) w) := by
  replace hc := Lib.hid hc
  have b1 := Below.step (Below.step (belowAlloc w (.cells #[.int .i64 k, .int .i64 R, .slice va vn vc] 24)) (belowAlloc _ (.cells #[.int .i64 k', .int .i64 R', .slice ua un uc] 24))) (belowAlloc _ (.cells #[.int .i64 0, .int .i64 0, .slice none 0 0] 24))
  replace hg := Lib.hid (hg.below b1)
  replace h := Lib.hid (h.below b1)
  go_enter Tryd.func22, Tryd.ntmps22
  go_wp2_with fail
  refine (forms_check r _ k R va vn vc T _ hg.out h.out).mono ?_
  rintro e w1 ⟨x, rfl, hb, he⟩
  rw [hc.out] at he
  obtain ⟨T1, a1, rfl⟩ := ErrIs.some_shape he
  replace he := Lib.hid he
  obtain ⟨-, -, ⟨y0, y1, y2⟩, f0, f1, f2⟩ := cells9 hb
  go_wp2
  rw [setCell_self3 y0 y1 y2]
  exact bodyPost_ret (v := .tuple #[zR, .iface T1 (.pointer (some a1))]) (by simp [results, Tryd.results22, go_sem, y0, y1, y2]) rfl ⟨_, _, rfl, Below.step b1 hb, rfl, he.out⟩

set_option maxHeartbeats 800000 in
theorem compose_bad2 (r : Nat → Addr) (k R : Int) (va : Option Addr) (vn vc : Nat) (T : List Int) (k' R' : Int) (ua : Option Addr) (un uc : Nat) (T' : List Int) (t : Int × List (ByteArray × Int)) (w : World) (hg : Glob r w)
    (h : IntsAt w (.slice va vn vc) T) (h' : IntsAt w (.slice ua un uc) T') (hc : checkP k R T = none) (hc' : checkP k' R' T' = some t) :
    Calls Tryd.prog 22 #[.agg #[.int .i64 k, .int .i64 R, .slice va vn vc], .agg #[.int .i64 k', .int .i64 R', .slice ua un uc]] w (Ret2 (fun x y w' => x = zR ∧ ErrIs r w' (under sForms 1 (some t)) y) w) := by
  replace hc := Lib.hid hc
  replace hc' := Lib.hid hc'
  have b1 := Below.step (Below.step (belowAlloc w (.cells #[.int .i64 k, .int .i64 R, .slice va vn vc] 24)) (belowAlloc _ (.cells #[.int .i64 k', .int .i64 R', .slice ua un uc] 24))) (belowAlloc _ (.cells #[.int .i64 0, .int .i64 0, .slice none 0 0] 24))
  replace hg := Lib.hid (hg.below b1)
  replace h := Lib.hid (h.below b1)
  replace h' := Lib.hid (h'.below b1)
  go_enter Tryd.func22, Tryd.ntmps22
  go_wp2_with fail
  refine (forms_check r _ k R va vn vc T _ hg.out h.out).mono ?_
  rintro e w1 ⟨x, rfl, hb, he⟩
  rw [hc.out] at he
  obtain rfl := ErrIs.none_eq he
  clear he
  obtain ⟨⟨x0, x1, x2⟩, ⟨z0, z1, z2⟩, ⟨y0, y1, y2⟩, f0, f1, f2⟩ := cells9 hb
  go_wp2_with fail
  refine (forms_check r _ k' R' ua un uc T' _ (hg.out.below hb) (h'.out.below hb)).mono ?_
  rintro e w2 ⟨x, rfl, hb', he⟩
  rw [hc'.out] at he
  clear x0 x1 x2 z0 z1 z2 y0 y1 y2 f0 f1 f2
  obtain ⟨-, -, ⟨y0, y1, y2⟩, f0, f1, f2⟩ := cells9 (Below.step hb hb')
  obtain ⟨T1, a1, rfl⟩ := ErrIs.some_shape he
  replace he := Lib.hid he
  go_wp2
  rw [setCell_self3 y0 y1 y2]
  exact bodyPost_ret (v := .tuple #[zR, .iface T1 (.pointer (some a1))]) (by simp [results, Tryd.results22, go_sem, y0, y1, y2]) rfl ⟨_, _, rfl, Below.step b1 (Below.step hb hb'), rfl, he.out⟩

set_option maxHeartbeats 800000 in
theorem compose_bad3 (r : Nat → Addr) (k R : Int) (va : Option Addr) (vn vc : Nat) (T : List Int) (k' R' : Int) (ua : Option Addr) (un uc : Nat) (T' : List Int) (w : World) (hg : Glob r w)
    (h : IntsAt w (.slice va vn vc) T) (h' : IntsAt w (.slice ua un uc) T') (hc : checkP k R T = none) (hc' : checkP k' R' T' = none) (hk : k ≠ k') :
    Calls Tryd.prog 22 #[.agg #[.int .i64 k, .int .i64 R, .slice va vn vc], .agg #[.int .i64 k', .int .i64 R', .slice ua un uc]] w (Ret2 (fun x y w' => x = zR ∧ ErrIs r w' (fresh sForms 1 3) y) w) := by
  replace hc := Lib.hid hc
  replace hc' := Lib.hid hc'
  have hkb : (k != k') = true := by rw [bne_iff_ne]; exact hk
  clear hk
  have b1 := Below.step (Below.step (belowAlloc w (.cells #[.int .i64 k, .int .i64 R, .slice va vn vc] 24)) (belowAlloc _ (.cells #[.int .i64 k', .int .i64 R', .slice ua un uc] 24))) (belowAlloc _ (.cells #[.int .i64 0, .int .i64 0, .slice none 0 0] 24))
  replace hg := Lib.hid (hg.below b1)
  replace h := Lib.hid (h.below b1)
  replace h' := Lib.hid (h'.below b1)
  go_enter Tryd.func22, Tryd.ntmps22
  go_wp2_with fail
  refine (forms_check r _ k R va vn vc T _ hg.out h.out).mono ?_
  rintro e w1 ⟨x, rfl, hb, he⟩
  rw [hc.out] at he
  obtain rfl := ErrIs.none_eq he
  clear he
  obtain ⟨⟨x0, x1, x2⟩, ⟨z0, z1, z2⟩, ⟨y0, y1, y2⟩, f0, f1, f2⟩ := cells9 hb
  go_wp2_with fail
  refine (forms_check r _ k' R' ua un uc T' _ (hg.out.below hb) (h'.out.below hb)).mono ?_
  rintro e w2 ⟨x, rfl, hb', he⟩
  rw [hc'.out] at he
  obtain rfl := ErrIs.none_eq he
  clear x0 x1 x2 z0 z1 z2 y0 y1 y2 f0 f1 f2 he
  obtain ⟨⟨x0, x1, x2⟩, ⟨z0, z1, z2⟩, ⟨y0, y1, y2⟩, f0, f1, f2⟩ := cells9 (Below.step hb hb')
  go_wp2_with fail
  refine (forms_wrong r _ _ _ ((hg.out.below hb).below hb') (by decide) (by decide)).mono ?_
  rintro e w3 ⟨x, rfl, hb3, he⟩
  clear x0 x1 x2 z0 z1 z2 y0 y1 y2 f0 f1 f2
  obtain ⟨-, -, ⟨y0, y1, y2⟩, f0, f1, f2⟩ := cells9 (Below.step (Below.step hb hb') hb3)
  obtain ⟨T1, a1, rfl⟩ := ErrIs.some_shape he
  replace he := Lib.hid he
  go_wp2
  rw [setCell_self3 y0 y1 y2]
  exact bodyPost_ret (v := .tuple #[zR, .iface T1 (.pointer (some a1))]) (by simp [results, Tryd.results22, go_sem, y0, y1, y2]) rfl ⟨_, _, rfl, Below.step b1 (Below.step (Below.step hb hb') hb3), rfl, he.out⟩

set_option maxHeartbeats 800000 in
theorem compose_bad4 (r : Nat → Addr) (K Q Q' : Nat) (va : Option Addr) (vn vc : Nat) (T : List Int) (ua : Option Addr) (un uc : Nat) (T' : List Int) (w : World) (hg : Glob r w)
    (h : IntsAt w (.slice va vn vc) T) (h' : IntsAt w (.slice ua un uc) T') (hc : RuleOk K Q T) (hc' : RuleOk K Q' T') (hR : 3 < Q + Q') :
    Calls Tryd.prog 22 #[.agg #[.int .i64 K, .int .i64 Q, .slice va vn vc], .agg #[.int .i64 K, .int .i64 Q', .slice ua un uc]] w (Ret2 (fun x y w' => x = zR ∧ ErrIs r w' (fresh sForms 0 4) y) w) := by
  have hq := hc.r3
  have hq' := hc'.r3
  have hRi : (3 : Int) < (Q : Int) + (Q' : Int) := by omega
  replace hc := hc.check
  replace hc' := hc'.check
  obtain ⟨k, hk⟩ : ∃ k : Int, k = K := ⟨_, rfl⟩
  obtain ⟨R, hr⟩ : ∃ k : Int, k = Q := ⟨_, rfl⟩
  obtain ⟨R', hr'⟩ : ∃ k : Int, k = Q' := ⟨_, rfl⟩
  have hr0 : 0 ≤ R := by omega
  have hr3 : R ≤ 3 := by omega
  have hr0' : 0 ≤ R' := by omega
  have hr3' : R' ≤ 3 := by omega
  rw [← hk, ← hr] at hc
  rw [← hk, ← hr'] at hc'
  rw [← hr, ← hr'] at hRi
  rw [← hk, ← hr, ← hr']
  clear hk hr hr'
  replace hc := Lib.hid hc
  replace hc' := Lib.hid hc'
  have hkb : (k != k) = false := by simp
  have b1 := Below.step (Below.step (belowAlloc w (.cells #[.int .i64 k, .int .i64 R, .slice va vn vc] 24)) (belowAlloc _ (.cells #[.int .i64 k, .int .i64 R', .slice ua un uc] 24))) (belowAlloc _ (.cells #[.int .i64 0, .int .i64 0, .slice none 0 0] 24))
  replace hg := Lib.hid (hg.below b1)
  replace h := Lib.hid (h.below b1)
  replace h' := Lib.hid (h'.below b1)
  go_enter Tryd.func22, Tryd.ntmps22
  go_wp2_with fail
  refine (forms_check r _ k R va vn vc T _ hg.out h.out).mono ?_
  rintro e w1 ⟨x, rfl, hb, he⟩
  rw [hc.out] at he
  obtain rfl := ErrIs.none_eq he
  clear he
  obtain ⟨⟨x0, x1, x2⟩, ⟨z0, z1, z2⟩, ⟨y0, y1, y2⟩, f0, f1, f2⟩ := cells9 hb
  go_wp2_with fail
  refine (forms_check r _ k R' ua un uc T' _ (hg.out.below hb) (h'.out.below hb)).mono ?_
  rintro e w2 ⟨x, rfl, hb', he⟩
  rw [hc'.out] at he
  obtain rfl := ErrIs.none_eq he
  clear x0 x1 x2 z0 z1 z2 y0 y1 y2 f0 f1 f2 he
  obtain ⟨⟨x0, x1, x2⟩, ⟨z0, z1, z2⟩, ⟨y0, y1, y2⟩, f0, f1, f2⟩ := cells9 (Below.step hb hb')
  go_wp2_with fail
  refine (forms_wrong r _ _ _ ((hg.out.below hb).below hb') (by decide) (by decide)).mono ?_
  rintro e w3 ⟨x, rfl, hb3, he⟩
  clear x0 x1 x2 z0 z1 z2 y0 y1 y2 f0 f1 f2
  obtain ⟨-, -, ⟨y0, y1, y2⟩, f0, f1, f2⟩ := cells9 (Below.step (Below.step hb hb') hb3)
  obtain ⟨T1, a1, rfl⟩ := ErrIs.some_shape he
  replace he := Lib.hid he
  go_wp2
  rw [setCell_self3 y0 y1 y2]
  exact bodyPost_ret (v := .tuple #[zR, .iface T1 (.pointer (some a1))]) (by simp [results, Tryd.results22, go_sem, y0, y1, y2]) rfl ⟨_, _, rfl, Below.step b1 (Below.step (Below.step hb hb') hb3), rfl, he.out⟩

set_option maxHeartbeats 800000 in
theorem compose_ok (r : Nat → Addr) (K Q Q' : Nat) (va : Option Addr) (vn vc : Nat) (T : List Int) (ua : Option Addr) (un uc : Nat) (T' : List Int) (w : World) (hg : Glob r w)
    (h : IntsAt w (.slice va vn vc) T) (h' : IntsAt w (.slice ua un uc) T') (hc : RuleOk K Q T) (hc' : RuleOk K Q' T') (hR : Q + Q' ≤ 3) :
    Calls Tryd.prog 22 #[.agg #[.int .i64 K, .int .i64 Q, .slice va vn vc], .agg #[.int .i64 K, .int .i64 Q', .slice ua un uc]] w (Ret2 (fun x y w' => y = .nilIface ∧ ∃ a n c, x = .agg #[.int .i64 K, .int .i64 ((Q + Q' : Nat) : Int), .slice a n c] ∧ OwnI w.heap.size w' (.slice a n c) (behindT K Q T Q' T')) w) := by
  have b1 := Below.step (Below.step (belowAlloc w (.cells #[.int .i64 K, .int .i64 Q, .slice va vn vc] 24)) (belowAlloc _ (.cells #[.int .i64 K, .int .i64 Q', .slice ua un uc] 24))) (belowAlloc _ (.cells #[.int .i64 0, .int .i64 0, .slice none 0 0] 24))
  have hRi : (Q : Int) + (Q' : Int) ≤ 3 := by omega
  have hkb : ((K : Int) != (K : Int)) = false := by simp
  have d1 := Lib.hid hc.check
  have d2 := Lib.hid hc'.check
  replace hc := Lib.hid hc
  replace hc' := Lib.hid hc'
  replace hg := Lib.hid (hg.below b1)
  replace h := Lib.hid (h.below b1)
  replace h' := Lib.hid (h'.below b1)
  go_enter Tryd.func22, Tryd.ntmps22
  go_wp2_with fail
  refine (forms_check r _ K Q va vn vc T _ hg.out h.out).mono ?_
  rintro e w1 ⟨x, rfl, hb, he⟩
  rw [d1.out] at he
  obtain rfl := ErrIs.none_eq he
  clear he
  obtain ⟨⟨x0, x1, x2⟩, ⟨z0, z1, z2⟩, ⟨y0, y1, y2⟩, f0, f1, f2⟩ := cells9 hb
  go_wp2_with fail
  refine (forms_check r _ K Q' ua un uc T' _ (hg.out.below hb) (h'.out.below hb)).mono ?_
  rintro e w2 ⟨x, rfl, hb', he⟩
  rw [d2.out] at he
  obtain rfl := ErrIs.none_eq he
  clear x0 x1 x2 z0 z1 z2 y0 y1 y2 f0 f1 f2 he
  have hb2 := Below.step hb hb'
  obtain ⟨⟨x0, x1, x2⟩, ⟨z0, z1, z2⟩, ⟨y0, y1, y2⟩, f0, f1, f2⟩ := cells9 hb2
  go_wp2_with fail
  refine (behind_any K Q Q' va vn vc T ua un uc T' _ (h.out.below hb2) hc.out (h'.out.below hb2) hc'.out hR).mono ?_
  rintro e w3 ⟨x, rfl, hb3, a, n, c, rfl, ho⟩
  clear x0 x1 x2 z0 z1 z2 y0 y1 y2 f0 f1 f2
  obtain ⟨-, -, ⟨y0, y1, y2⟩, f0, f1, f2⟩ := cells9 (Below.step hb2 hb3)
  have hsz := hb2.size
  simp at hsz
  replace ho := Lib.hid ho
  go_wp2
  refine bodyPost_ret (v := .tuple #[.agg #[.int .i64 K, .int .i64 ((Q + Q' : Nat) : Int), .slice a n c], .nilIface]) (by simp [results, Tryd.results22, go_sem, y0, y1, y2]) rfl ⟨_, _, rfl, ?_, rfl, a, n, c, rfl, ?_⟩
  · exact (((Below.step b1 (Below.step hb2 hb3)).setCell (by simp; omega) _).setCell (by simp; omega) _).setCell (by simp; omega) _
  · exact (((ho.out.setBelowBase (a := ⟨w.heap.size + 1 + 1, 0, none⟩) (by simp; omega) _).setBelowBase (a := ⟨w.heap.size + 1 + 1, 1, none⟩) (by simp; omega) _).setBelowBase (a := ⟨w.heap.size + 1 + 1, 2, none⟩) (by simp; omega) _).mono (by omega)

/-- forms.Compose at all rules. -/
theorem compose_any (r : Nat → Addr) (k R : Int) (va : Option Addr) (vn vc : Nat) (T : List Int) (k' R' : Int) (ua : Option Addr) (un uc : Nat) (T' : List Int) (w : World) (hg : Glob r w)
    (h : IntsAt w (.slice va vn vc) T) (h' : IntsAt w (.slice ua un uc) T') :
    Calls Tryd.prog 22 #[.agg #[.int .i64 k, .int .i64 R, .slice va vn vc], .agg #[.int .i64 k', .int .i64 R', .slice ua un uc]] w (Ret2 (fun x y w' => ErrIs r w' (composeP k R T k' R' T') y ∧ (composeP k R T k' R' T' ≠ none → x = zR) ∧
      (composeP k R T k' R' T' = none → ∃ a n c, x = .agg #[.int .i64 k, .int .i64 (R + R'), .slice a n c] ∧ OwnI w.heap.size w' (.slice a n c) (behindT k.toNat R.toNat T R'.toNat T'))) w) := by
  cases hc : checkP k R T with
  | some t =>
    have e : composeP k R T k' R' T' = under sForms 0 (some t) := by simp [composeP, hc]
    refine (compose_bad1 r k R va vn vc T k' R' ua un uc t w hg h hc).mono ?_
    rintro _ w' ⟨x, y, he, hb, hx, hy⟩
    exact ⟨x, y, he, hb, by rw [e]; exact hy, fun _ => hx, (fun q => by rw [e] at q; cases q)⟩
  | none =>
    cases hc' : checkP k' R' T' with
    | some t =>
      have e : composeP k R T k' R' T' = under sForms 1 (some t) := by simp [composeP, hc, hc']
      refine (compose_bad2 r k R va vn vc T k' R' ua un uc T' t w hg h h' hc hc').mono ?_
      rintro _ w' ⟨x, y, he, hb, hx, hy⟩
      exact ⟨x, y, he, hb, by rw [e]; exact hy, fun _ => hx, (fun q => by rw [e] at q; cases q)⟩
    | none =>
      by_cases hk : k = k'
      case neg =>
        have e : composeP k R T k' R' T' = fresh sForms 1 3 := by simp [composeP, hc, hc', hk]
        refine (compose_bad3 r k R va vn vc T k' R' ua un uc T' w hg h h' hc hc' hk).mono ?_
        rintro _ w' ⟨x, y, he, hb, hx, hy⟩
        exact ⟨x, y, he, hb, by rw [e]; exact hy, fun _ => hx, (fun q => by rw [e] at q; cases q)⟩
      subst hk
      obtain ⟨K, Q, rfl, rfl, hok⟩ := checkP_none hc
      obtain ⟨K', Q', hK, rfl, hok'⟩ := checkP_none hc'
      obtain rfl : K = K' := by omega
      by_cases hR : Q + Q' ≤ 3
      · have e : composeP K Q T K Q' T' = none := by
          simp only [composeP, hc, hc']
          rw [if_neg (by simp), if_neg (by omega)]
        refine (compose_ok r K Q Q' va vn vc T ua un uc T' w hg h h' hok hok' hR).mono ?_
        rintro _ w' ⟨x, y, he, hb, hy, a, n, c, hx, ho⟩
        exact ⟨x, y, he, hb, by rw [e]; exact hy, fun q => absurd e q, fun _ => ⟨a, n, c, by rw [hx]; simp, by simpa using ho⟩⟩
      · have e : composeP K Q T K Q' T' = fresh sForms 0 4 := by
          simp only [composeP, hc, hc']
          rw [if_neg (by simp), if_pos (by omega)]
        refine (compose_bad4 r K Q Q' va vn vc T ua un uc T' w hg h h' hok hok' (by omega)).mono ?_
        rintro _ w' ⟨x, y, he, hb, hx, hy⟩
        exact ⟨x, y, he, hb, by rw [e]; exact hy, fun _ => hx, (fun q => by rw [e] at q; cases q)⟩
end Go.Proofs.YtmhiambkfdkkbaaDoor

namespace Go.Proofs.YtmhiambkfdkkbaaDoor
open Go.RowKit

theorem IntsAt.piece {w : World} {a : Option Addr} {cap : Nat} {xs : List Int} (h : IntsAt w (.slice a xs.length cap) xs) (k l : Nat) (hk : k ≤ l) (hl : l ≤ xs.length) :
    IntsAt w (sliced a k l cap 1) ((xs.take l).drop k) := by
  obtain ⟨a', cap', e, h1, h2, h3, h4⟩ := h
  injection e with e1 _ e3
  subst e1 e3
  have hlen : ((xs.take l).drop k).length = l - k := by simp; omega
  refine ⟨if cap = k then a else a.map (·.add (k * 1)), cap - k, by rw [hlen]; rfl, by rw [hlen]; omega, by omega, ?_, fun i hi => ?_⟩
  · intro hn
    by_cases hc : cap = k
    · omega
    · rw [if_neg hc] at hn
      have := h3 (Option.map_eq_none_iff.1 hn)
      omega
  · rw [hlen] at hi
    have hc : ¬ cap = k := by omega
    show w.cell? (valAt (.slice (if cap = k then a else a.map (·.add (k * 1))) _ _) i) = _
    rw [if_neg hc]
    cases a with
    | none => have := h3 rfl; omega
    | some p =>
      have h5 := h4 (k + i) (by omega)
      simp only [valAt] at h5
      show w.cell? ((p.add (k * 1)).add i) = _
      rw [Nat.mul_one, show (p.add k).add i = p.add (k + i) by unfold Addr.add; by_cases hk0 : k = 0 <;> by_cases hi0 : i = 0 <;> simp [hk0, hi0, Nat.add_assoc], h5]
      simp

/-- s[k:]. -/
theorem IntsAt.post {w : World} {v : Value} {xs : List Int} (h : IntsAt w v xs) (k : Nat) (hk : k ≤ xs.length) :
    ∃ u, (∀ w', (Instr.slice 22 v (some (.int .i64 k)) none none).run Tryd.prog w' = .ok u w') ∧ IntsAt w u (xs.drop k) := by
  have h' := h
  obtain ⟨a, cap, rfl, _⟩ := h'
  refine ⟨sliced a k xs.length cap 1, fun w' => ?_, ?_⟩
  · rw [run_slice_l w' 22 a xs.length cap uIntsE .i64 k (by omega) (by omega), eInts, sInt]
    rfl
  · have := h.piece k xs.length hk (Nat.le_refl _)
    rwa [List.take_length] at this

/-- s[k:l]. -/
theorem IntsAt.mid {w : World} {v : Value} {xs : List Int} (h : IntsAt w v xs) (k l : Nat) (hk : k ≤ l) (hl : l ≤ xs.length) :
    ∃ u, (∀ w', (Instr.slice 22 v (some (.int .i64 k)) (some (.int .i64 l)) none).run Tryd.prog w' = .ok u w') ∧ IntsAt w u ((xs.take l).drop k) := by
  have h' := h
  obtain ⟨a, cap, rfl, h1, _⟩ := h'
  refine ⟨sliced a k l cap 1, fun w' => ?_, h.piece k l hk hl⟩
  rw [run_slice_lh w' 22 a xs.length cap uIntsE .i64 .i64 k l (by omega) (by omega) (by omega), eInts, sInt]
  rfl

/-- s[:l]. -/
theorem IntsAt.front {w : World} {v : Value} {xs : List Int} (h : IntsAt w v xs) (l : Nat) (hl : l ≤ xs.length) :
    ∃ u, (∀ w', (Instr.slice 22 v none (some (.int .i64 l)) none).run Tryd.prog w' = .ok u w') ∧ IntsAt w u (xs.take l) := by
  have h' := h
  obtain ⟨a, cap, rfl, h1, _⟩ := h'
  refine ⟨sliced a 0 l cap 1, fun w' => ?_, ?_⟩
  · rw [run_slice_h w' 22 a xs.length cap uIntsE .i64 l (by omega) (by omega), eInts, sInt]
    rfl
  · have := h.piece 0 l (Nat.zero_le _) hl
    simpa using this
end Go.Proofs.YtmhiambkfdkkbaaDoor

namespace Go.Proofs.YtmhiambkfdkkbaaDoor

theorem numW_cons (K : Nat) (s : Int) (u : List Int) : numW K (s :: u) = s.toNat * pw K u.length + numW K u := by
  have := numW_append K [s] u
  simpa [numW] using this

theorem digs_numW {K : Nat} (hK : 1 ≤ K) (w : List Int) (h : Syms K w) : digs K w.length (numW K w) = w := by
  induction hn : w.length generalizing w with
  | zero => obtain rfl := List.eq_nil_of_length_eq_zero hn; rfl
  | succ n ih =>
    have hne : w ≠ [] := by intro e; subst e; simp at hn
    obtain ⟨b, x, rfl⟩ : ∃ b x, w = b ++ [x] := ⟨w.dropLast, w.getLast hne, (List.dropLast_concat_getLast hne).symm⟩
    have hb : b.length = n := by simpa using hn
    have hx := h x (by simp)
    have hxn : x.toNat < K := by omega
    have := ih b (fun y hy => h y (by simp [hy])) hb
    rw [digs, numW_snoc]
    rw [show (numW K b * K + x.toNat) / K = numW K b by rw [Nat.mul_comm, Nat.mul_add_div (by omega), Nat.div_eq_of_lt hxn, Nat.add_zero], this,
      show (numW K b * K + x.toNat) % K = x.toNat by rw [Nat.mul_comm, Nat.mul_add_mod, Nat.mod_eq_of_lt hxn]]
    congr 2
    omega

/-- The mirrored table. -/
def mirT (K n : Nat) (T : List Int) : List Int := (List.range T.length).map fun i => T.getD (numW K (digs K n i).reverse) 0
theorem mirT_length (K n : Nat) (T : List Int) : (mirT K n T).length = T.length := by simp [mirT]
theorem mirT_syms {K : Nat} (hK : 1 ≤ K) (n : Nat) {T : List Int} (h : Syms K T) : Syms K (mirT K n T) := by
  intro y hy
  obtain ⟨i, _, rfl⟩ := List.mem_map.1 hy
  exact h.getD (by omega) _
theorem mirT_at {K n : Nat} (hK : 1 ≤ K) {T : List Int} (hT : T.length = pw K n) (w : List Int) (hw : Syms K w) (hl : w.length = n) : (mirT K n T).getD (numW K w) 0 = T.getD (numW K w.reverse) 0 := by
  have hlt := numW_lt w hw
  rw [hl, ← hT] at hlt
  have : (mirT K n T).getD (numW K w) 0 = T.getD (numW K (digs K n (numW K w)).reverse) 0 := by simp [mirT, List.getD, hlt]
  rw [this, ← hl, digs_numW hK w hw]
theorem mirT_ok {K R : Nat} {T : List Int} (h : RuleOk K R T) : RuleOk K R (mirT K (2 * R + 1) T) :=
  ⟨h.k1, h.k4, h.r3, by rw [mirT_length]; exact h.len, mirT_syms h.k1 _ h.syms⟩

/-- edenref19.right's answer. -/
def rightR (K : Nat) (T : List Int) : Bool := decide (∀ i, i < T.length → ∀ j, j < T.length → i < j → j / K = i / K → T.getD i 0 ≠ T.getD j 0)
theorem rightR_false {K : Nat} {T : List Int} (i j : Nat) (hj : j < T.length) (h : i < j) (hq : j / K = i / K) (e : T.getD i 0 = T.getD j 0) : rightR K T = false := by
  rw [rightR, decide_eq_false_iff_not]
  intro hh
  exact hh i (by omega) j hj h hq e
theorem rightR_true {K : Nat} {T : List Int} (h : ∀ i, i < T.length → ∀ j, j < T.length → i < j → j / K = i / K → T.getD i 0 ≠ T.getD j 0) : rightR K T = true := by
  rw [rightR, decide_eq_true_iff]; exact h

theorem bits2 : ∀ a b : Fin 2, ((0 ||| 2 ^ a.val) ||| 2 ^ b.val == 2 ^ 2 - 1) = decide (a ≠ b) := by decide
theorem bits3 : ∀ a b c : Fin 3, (((0 ||| 2 ^ a.val) ||| 2 ^ b.val) ||| 2 ^ c.val == 2 ^ 3 - 1) = decide (a ≠ b ∧ a ≠ c ∧ b ≠ c) := by decide
theorem bits4 : ∀ a b c d : Fin 4, ((((0 ||| 2 ^ a.val) ||| 2 ^ b.val) ||| 2 ^ c.val) ||| 2 ^ d.val == 2 ^ 4 - 1) = decide (a ≠ b ∧ a ≠ c ∧ a ≠ d ∧ b ≠ c ∧ b ≠ d ∧ c ≠ d) := by decide +kernel

theorem fullP_iff {K : Nat} (h1 : 1 ≤ K) (h4 : K ≤ 4) {T : List Int} (hT : Syms K T) (W i : Nat) :
    fullP K T W i = true ↔ ∀ s t, s < t → t < K → T.getD (i + s * W) 0 ≠ T.getD (i + t * W) 0 := by
  have hx : ∀ s, ∃ a : Fin K, T.getD (i + s * W) 0 = (a.val : Int) := fun s => by
    have := hT.getD (by omega) (i + s * W)
    exact ⟨⟨(T.getD (i + s * W) 0).toNat, by omega⟩, by simp only []; omega⟩
  have hk : K = 1 ∨ K = 2 ∨ K = 3 ∨ K = 4 := by omega
  unfold fullP
  rcases hk with rfl | rfl | rfl | rfl
  · obtain ⟨a, ha⟩ := hx 0
    simp only [seenP, ha, Int.toNat_natCast]
    have : a.val = 0 := by omega
    rw [this]
    exact ⟨fun _ s t h h' => by omega, fun _ => rfl⟩
  · obtain ⟨a, ha⟩ := hx 0
    obtain ⟨b, hb⟩ := hx 1
    simp only [seenP, ha, hb, Int.toNat_natCast, bits2, decide_eq_true_iff]
    constructor
    · intro h s t hst ht
      obtain rfl : s = 0 := by omega
      obtain rfl : t = 1 := by omega
      rw [ha, hb]
      intro e; exact h (Fin.ext (by omega))
    · intro h e
      have := h 0 1 (by omega) (by omega)
      rw [ha, hb, e] at this; exact this rfl
  · obtain ⟨a, ha⟩ := hx 0
    obtain ⟨b, hb⟩ := hx 1
    obtain ⟨c, hc⟩ := hx 2
    simp only [seenP, ha, hb, hc, Int.toNat_natCast, bits3, decide_eq_true_iff]
    constructor
    · rintro ⟨n1, n2, n3⟩ s t hst ht
      have : (s = 0 ∧ t = 1) ∨ (s = 0 ∧ t = 2) ∨ (s = 1 ∧ t = 2) := by omega
      rcases this with ⟨rfl, rfl⟩ | ⟨rfl, rfl⟩ | ⟨rfl, rfl⟩
      · rw [ha, hb]; intro e; exact n1 (Fin.ext (by omega))
      · rw [ha, hc]; intro e; exact n2 (Fin.ext (by omega))
      · rw [hb, hc]; intro e; exact n3 (Fin.ext (by omega))
    · intro h
      refine ⟨fun e => ?_, fun e => ?_, fun e => ?_⟩
      · have := h 0 1 (by omega) (by omega); rw [ha, hb, e] at this; exact this rfl
      · have := h 0 2 (by omega) (by omega); rw [ha, hc, e] at this; exact this rfl
      · have := h 1 2 (by omega) (by omega); rw [hb, hc, e] at this; exact this rfl
  · obtain ⟨a, ha⟩ := hx 0
    obtain ⟨b, hb⟩ := hx 1
    obtain ⟨c, hc⟩ := hx 2
    obtain ⟨d, hd⟩ := hx 3
    simp only [seenP, ha, hb, hc, hd, Int.toNat_natCast, bits4, decide_eq_true_iff]
    constructor
    · rintro ⟨n1, n2, n3, n4, n5, n6⟩ s t hst ht
      have : (s = 0 ∧ t = 1) ∨ (s = 0 ∧ t = 2) ∨ (s = 0 ∧ t = 3) ∨ (s = 1 ∧ t = 2) ∨ (s = 1 ∧ t = 3) ∨ (s = 2 ∧ t = 3) := by omega
      rcases this with ⟨rfl, rfl⟩ | ⟨rfl, rfl⟩ | ⟨rfl, rfl⟩ | ⟨rfl, rfl⟩ | ⟨rfl, rfl⟩ | ⟨rfl, rfl⟩
      · rw [ha, hb]; intro e; exact n1 (Fin.ext (by omega))
      · rw [ha, hc]; intro e; exact n2 (Fin.ext (by omega))
      · rw [ha, hd]; intro e; exact n3 (Fin.ext (by omega))
      · rw [hb, hc]; intro e; exact n4 (Fin.ext (by omega))
      · rw [hb, hd]; intro e; exact n5 (Fin.ext (by omega))
      · rw [hc, hd]; intro e; exact n6 (Fin.ext (by omega))
    · intro h
      refine ⟨fun e => ?_, fun e => ?_, fun e => ?_, fun e => ?_, fun e => ?_, fun e => ?_⟩
      · have := h 0 1 (by omega) (by omega); rw [ha, hb, e] at this; exact this rfl
      · have := h 0 2 (by omega) (by omega); rw [ha, hc, e] at this; exact this rfl
      · have := h 0 3 (by omega) (by omega); rw [ha, hd, e] at this; exact this rfl
      · have := h 1 2 (by omega) (by omega); rw [hb, hc, e] at this; exact this rfl
      · have := h 1 3 (by omega) (by omega); rw [hb, hd, e] at this; exact this rfl
      · have := h 2 3 (by omega) (by omega); rw [hc, hd, e] at this; exact this rfl

theorem unlikeP_iff {K : Nat} {T : List Int} {W : Nat} : unlikeP K T W = true ↔ ∀ i, i < T.length → i / W % K = 0 → fullP K T W i = true :=
  ⟨fun h i => unlikeP_full h i, unlikeP_true⟩

theorem mul_add_lt {K q s m : Nat} (hs : s < K) (hq : q < m) : q * K + s < m * K := by
  have := Nat.mul_le_mul_right K (show q + 1 ≤ m from hq)
  rw [Nat.succ_mul] at this
  omega
theorem div_mk {K q s : Nat} (hs : s < K) : (q * K + s) / K = q := by
  rw [Nat.mul_comm, Nat.mul_add_div (by omega), Nat.div_eq_of_lt hs, Nat.add_zero]
theorem mod_mk {K q s : Nat} (hs : s < K) : (q * K + s) % K = s := by
  rw [Nat.mul_comm, Nat.mul_add_mod, Nat.mod_eq_of_lt hs]

/-- The last place permutes: the program's test is the document's. -/
theorem unlike_right {K R : Nat} {T : List Int} (h : RuleOk K R T) : unlikeP K T 1 = rightR K T := by
  have h1 := h.k1
  have hl := h.half.2
  rw [Bool.eq_iff_iff, unlikeP_iff, rightR, decide_eq_true_iff]
  constructor
  · intro hu i hi j hj hij hq
    have e1 := Nat.div_add_mod' i K
    have e2 := Nat.div_add_mod' j K
    have m1 := Nat.mod_lt i (show K > 0 by omega)
    have m2 := Nat.mod_lt j (show K > 0 by omega)
    rw [hq] at e2
    have := (fullP_iff h1 h.k4 h.syms 1 (i / K * K)).1 (hu _ (by omega) (by rw [Nat.div_one, Nat.mul_mod_left])) (i % K) (j % K) (by omega) m2
    rwa [Nat.mul_one, Nat.mul_one, e1, e2] at this
  · intro hr i hi hm
    rw [Nat.div_one] at hm
    obtain ⟨q, rfl⟩ : ∃ q, i = q * K := ⟨i / K, by have := Nat.div_add_mod' i K; omega⟩
    have hq : q < pw K (2 * R) := Nat.lt_of_mul_lt_mul_right (a := K) (by rw [← hl]; exact hi)
    refine (fullP_iff h1 h.k4 h.syms 1 _).2 fun s t hst ht => ?_
    have l2 := mul_add_lt ht hq
    rw [← hl] at l2
    have := hr (q * K + s) (by omega) (q * K + t) l2 (by omega) (by rw [div_mk ht, div_mk (by omega)])
    rwa [Nat.mul_one, Nat.mul_one]

theorem digs_snoc {K : Nat} (n x : Nat) : digs K (n + 1) x = digs K n (x / K) ++ [((x % K : Nat) : Int)] := rfl

/-- The first place permutes just if the mirrored rule's last does. -/
theorem unlike_left {K R : Nat} {T : List Int} (h : RuleOk K R T) : unlikeP K T (T.length / K) = rightR K (mirT K (2 * R + 1) T) := by
  have h1 := h.k1
  obtain ⟨hW, hl⟩ := h.half
  have hMl := mirT_length K (2 * R + 1) T
  have hp := pw_pos (K := K) (2 * R) h1
  rw [hW, Bool.eq_iff_iff, unlikeP_iff, rightR, decide_eq_true_iff, hMl]
  have key : ∀ q s, q < pw K (2 * R) → s < K → (mirT K (2 * R + 1) T).getD (q * K + s) 0 = T.getD (numW K (digs K (2 * R) q).reverse + s * pw K (2 * R)) 0 := by
    intro q s hq hs
    have hsy : Syms K (digs K (2 * R) q ++ [(s : Int)]) := by
      intro y hy
      rcases List.mem_append.1 hy with hy | hy
      · exact digs_syms h1 _ _ y hy
      · rw [List.mem_singleton] at hy; subst hy; omega
    have := mirT_at h1 h.len (digs K (2 * R) q ++ [(s : Int)]) hsy (by simp [digs_length])
    rw [numW_snoc, numW_digs h1 _ _ hq, Int.toNat_natCast, List.reverse_append, List.reverse_singleton, List.singleton_append, numW_cons, Int.toNat_natCast, List.length_reverse, digs_length, Nat.add_comm (s * _)] at this
    exact this
  have rsy : ∀ q, Syms K (digs K (2 * R) q).reverse := fun q y hy => digs_syms h1 _ _ y (List.mem_reverse.1 hy)
  have rlt : ∀ q, numW K (digs K (2 * R) q).reverse < pw K (2 * R) := fun q => by
    have := numW_lt _ (rsy q)
    rwa [List.length_reverse, digs_length] at this
  constructor
  · intro hu i hi j hj hij hq
    have e1 := Nat.div_add_mod' i K
    have e2 := Nat.div_add_mod' j K
    have m1 := Nat.mod_lt i (show K > 0 by omega)
    have m2 := Nat.mod_lt j (show K > 0 by omega)
    rw [hq] at e2
    have hqi : i / K < pw K (2 * R) := by rw [Nat.div_lt_iff_lt_mul (by omega), ← hl]; exact hi
    have a1 := key (i / K) (i % K) hqi m1
    have a2 := key (i / K) (j % K) hqi m2
    rw [e1] at a1
    rw [e2] at a2
    rw [a1, a2]
    have lt := rlt (i / K)
    refine (fullP_iff h1 h.k4 h.syms (pw K (2 * R)) _).1 (hu _ ?_ ?_) (i % K) (j % K) (by omega) m2
    · rw [hl]; have := Nat.mul_le_mul_left (pw K (2 * R)) h1; omega
    · rw [Nat.div_eq_of_lt lt, Nat.zero_mod]
  · intro hr i hi hm
    have hiW : i < pw K (2 * R) := by
      have hdl : i / pw K (2 * R) < K := by rw [Nat.div_lt_iff_lt_mul (by omega), Nat.mul_comm, ← hl]; exact hi
      rw [Nat.mod_eq_of_lt hdl] at hm
      have := Nat.div_add_mod i (pw K (2 * R))
      have := Nat.mod_lt i (show pw K (2 * R) > 0 by omega)
      rw [hm] at *
      omega
    refine (fullP_iff h1 h.k4 h.syms (pw K (2 * R)) i).2 fun s t hst ht => ?_
    have hq := rlt i
    have a1 := key _ s hq (by omega)
    have a2 := key _ t hq ht
    have back : numW K (digs K (2 * R) (numW K (digs K (2 * R) i).reverse)).reverse = i := by
      have := digs_numW h1 _ (rsy i)
      rw [List.length_reverse, digs_length] at this
      rw [this, List.reverse_reverse, numW_digs h1 _ _ hiW]
    rw [back] at a1 a2
    rw [← a1, ← a2]
    have l2 := mul_add_lt ht hq
    rw [← hl] at l2
    exact hr _ (by omega) _ l2 (by omega) (by rw [div_mk ht, div_mk (by omega)])

/-- The symbols to the right, and the node behind them: the last 2 R symbols. -/
theorem num_shift {K : Nat} {u : List Int} {s : Int} (h : Syms K (u ++ [s])) : numW K ((u ++ [s]).drop 1) = numW K (u ++ [s]) % pw K u.length := by
  have hl : ((u ++ [s]).drop 1).length = u.length := by simp
  have := numW_mod (K := K) (u := (u ++ [s]).take 1) (v := (u ++ [s]).drop 1) (fun y hy => h y (List.mem_of_mem_drop hy))
  rw [List.take_append_drop, hl] at this
  exact this.symm
theorem rightP_syms {K : Nat} (hK : 1 ≤ K) (T : List Int) (node : Nat) (w : List Int) : Syms K (rightP K T node w) := by
  induction w generalizing node with
  | nil => intro y hy; cases hy
  | cons x w ih =>
    intro y hy
    rw [rightP, List.mem_cons] at hy
    rcases hy with rfl | hy
    · have := fit_lt hK T (node * K) 1 x; omega
    · exact ih _ y hy
theorem on_front {K R : Nat} {T : List Int} (hK : 1 ≤ K) (hW : T.length / K = pw K (2 * R)) (zs ys : List Int) (hz : Syms K zs) (hl : zs.length = 2 * R) :
    numW K ((zs ++ rightP K T (numW K zs) ys).drop ys.length) = rightN K T (numW K zs) ys := by
  induction hn : ys.length generalizing ys with
  | zero => obtain rfl := List.eq_nil_of_length_eq_zero hn; simp [rightP, rightN]
  | succ n ih =>
    have hne : ys ≠ [] := by intro e; subst e; simp at hn
    obtain ⟨b, x, rfl⟩ : ∃ b x, ys = b ++ [x] := ⟨ys.dropLast, ys.getLast hne, (List.dropLast_concat_getLast hne).symm⟩
    have hb : b.length = n := by simpa using hn
    have ih' := ih b hb
    rw [rightP_snoc, rightN_snoc, ← List.append_assoc, ← ih', hW]
    have hPl := rightP_length K T (numW K zs) b
    have hs := fit_lt hK T (numW K ((zs ++ rightP K T (numW K zs) b).drop n) * K) 1 x
    generalize fit K T (numW K ((zs ++ rightP K T (numW K zs) b).drop n) * K) 1 x = s at *
    have hu : Syms K (zs ++ rightP K T (numW K zs) b) := by
      intro y hy
      rcases List.mem_append.1 hy with hy | hy
      · exact hz y hy
      · exact rightP_syms hK _ _ _ y hy
    have hul : (zs ++ rightP K T (numW K zs) b).length = 2 * R + n := by simp [hPl, hl, hb]
    generalize zs ++ rightP K T (numW K zs) b = u at *
    have e : (u ++ [(s : Int)]).drop (n + 1) = (u.drop n ++ [(s : Int)]).drop 1 := by
      rw [← List.drop_drop, List.drop_append_of_le_length (by omega)]
    have hdl : (u.drop n).length = 2 * R := by simp; omega
    rw [e, num_shift, numW_snoc, hdl, Int.toNat_natCast]
    intro y hy
    rcases List.mem_append.1 hy with hy | hy
    · exact hu y (List.mem_of_mem_drop hy)
    · rw [List.mem_singleton] at hy; subst hy; omega

theorem fitP_congr {T M : List Int} {r1 W1 r2 W2 : Nat} (image : Int) (n s : Nat) (h : ∀ t, t < s + n → T.getD (r1 + t * W1) 0 = M.getD (r2 + t * W2) 0) : fitP T r1 W1 image n s = fitP M r2 W2 image n s := by
  induction n generalizing s with
  | zero => rfl
  | succ n ih => rw [fitP, fitP, h s (by omega), ih (s + 1) (fun t ht => h t (by omega))]

/-- The symbols to the left are those to the right by the mirrored rule, mirrored. -/
theorem left_mirror {K R : Nat} {T : List Int} (h : RuleOk K R T) (zs ys : List Int) (hz : Syms K zs) (hl : zs.length = 2 * R) :
    ∃ u, u.length = 2 * R ∧ Syms K u ∧ (leftS K T (numW K zs) ys).1 = numW K u ∧ rightN K (mirT K (2 * R + 1) T) (numW K zs.reverse) ys.reverse = numW K u.reverse ∧
      (leftS K T (numW K zs) ys).2 = (rightP K (mirT K (2 * R + 1) T) (numW K zs.reverse) ys.reverse).reverse := by
  have h1 := h.k1
  obtain ⟨hW, hlen⟩ := h.half
  have hMW : (mirT K (2 * R + 1) T).length / K = pw K (2 * R) := by rw [mirT_length]; exact hW
  induction ys with
  | nil => exact ⟨zs, hl, hz, rfl, rfl, rfl⟩
  | cons x w ih =>
    obtain ⟨u, hul, hu, e1, e2, e3⟩ := ih
    have hf : fit K T (numW K u) (T.length / K) x = fit K (mirT K (2 * R + 1) T) (numW K u.reverse * K) 1 x := by
      refine fitP_congr x K 0 fun t ht => ?_
      have hsy : Syms K (u.reverse ++ [(t : Int)]) := by
        intro y hy
        rcases List.mem_append.1 hy with hy | hy
        · exact hu y (List.mem_reverse.1 hy)
        · rw [List.mem_singleton] at hy; subst hy; omega
      have := mirT_at h1 h.len (u.reverse ++ [(t : Int)]) hsy (by simp [hul])
      rw [numW_snoc, Int.toNat_natCast, List.reverse_append, List.reverse_singleton, List.singleton_append, List.reverse_reverse, numW_cons, Int.toNat_natCast, hul] at this
      rw [hW, Nat.mul_one, this, Nat.add_comm]
    have hs := fit_lt h1 T (numW K u) (T.length / K) x
    have es : (leftS K T (numW K zs) (x :: w)) = ((fit K T (numW K u) (T.length / K) x * (T.length / K) + numW K u) / K, (fit K T (numW K u) (T.length / K) x : Int) :: (leftS K T (numW K zs) w).2) := by
      rw [leftS, e1]
    rw [es, List.reverse_cons, rightP_snoc, rightN_snoc, e2, ← hf, e3, hMW]
    rw [hW] at hf hs es ⊢
    generalize fit K T (numW K u) (pw K (2 * R)) x = s at *
    have hsu : Syms K ((s : Int) :: u) := by
      intro y hy
      rcases List.mem_cons.1 hy with rfl | hy
      · omega
      · exact hu y hy
    have hne : ((s : Int) :: u) ≠ [] := by simp
    have hcat := List.dropLast_concat_getLast hne
    have hv : Syms K ((s : Int) :: u).dropLast := fun y hy => hsu y (List.dropLast_subset _ hy)
    refine ⟨((s : Int) :: u).dropLast, by simp [hul], hv, ?_, ?_, ?_⟩
    · have e := numW_cons K s u
      rw [Int.toNat_natCast, hul] at e
      show (s * pw K (2 * R) + numW K u) / K = _
      rw [← e, ← hcat, numW_snoc, hcat, div_mk]
      have := hsu _ (List.getLast_mem hne)
      omega
    · have e : (u.reverse ++ [(s : Int)]).drop 1 = ((s : Int) :: u).dropLast.reverse := by
        rw [List.dropLast_eq_take, List.reverse_take]
        simp
      have hr : Syms K (u.reverse ++ [(s : Int)]) := by
        intro y hy
        apply hsu
        simpa [or_comm] using hy
      rw [← e, num_shift hr, numW_snoc, List.length_reverse, hul, Int.toNat_natCast]
    · simp
end Go.Proofs.YtmhiambkfdkkbaaDoor

namespace Go.Proofs.YtmhiambkfdkkbaaDoor

theorem syms_cons {K : Nat} {s : Int} {u : List Int} (h0 : 0 ≤ s) (h1 : s < K) (hu : Syms K u) : Syms K (s :: u) := by
  intro y hy
  rcases List.mem_cons.1 hy with rfl | hy
  · exact ⟨h0, h1⟩
  · exact hu y hy
theorem syms_snoc {K : Nat} {s : Int} {u : List Int} (h0 : 0 ≤ s) (h1 : s < K) (hu : Syms K u) : Syms K (u ++ [s]) := by
  intro y hy
  rcases List.mem_append.1 hy with hy | hy
  · exact hu y hy
  · rw [List.mem_singleton] at hy; subst hy; exact ⟨h0, h1⟩
theorem syms_rev {K : Nat} {u : List Int} (hu : Syms K u) : Syms K u.reverse := fun y hy => hu y (List.mem_reverse.1 hy)

/-- The first symbol of the window permutes. -/
def LeftW (K m : Nat) (T : List Int) : Prop := ∀ u, Syms K u → u.length = m → ∀ s t : Int, 0 ≤ s → s < K → 0 ≤ t → t < K → s ≠ t → T.getD (numW K (s :: u)) 0 ≠ T.getD (numW K (t :: u)) 0
/-- The last one does. -/
def RightW (K m : Nat) (T : List Int) : Prop := ∀ u, Syms K u → u.length = m → ∀ s t : Int, 0 ≤ s → s < K → 0 ≤ t → t < K → s ≠ t → T.getD (numW K (u ++ [s])) 0 ≠ T.getD (numW K (u ++ [t])) 0

theorem unlike_leftW {K R : Nat} {T : List Int} (h : RuleOk K R T) : unlikeP K T (T.length / K) = true ↔ LeftW K (2 * R) T := by
  have h1 := h.k1
  obtain ⟨hW, hl⟩ := h.half
  have hp := pw_pos (K := K) (2 * R) h1
  rw [hW, unlikeP_iff]
  constructor
  · intro hu u hsy hul s t hs0 hs1 ht0 ht1 hne
    have hlt := numW_lt u hsy
    rw [hul] at hlt
    have hf := hu (numW K u) (by rw [hl]; have := Nat.mul_le_mul_left (pw K (2 * R)) h1; omega) (by rw [Nat.div_eq_of_lt hlt, Nat.zero_mod])
    have hf := (fullP_iff h1 h.k4 h.syms (pw K (2 * R)) _).1 hf
    rw [numW_cons, numW_cons, hul, Nat.add_comm (s.toNat * _), Nat.add_comm (t.toNat * _)]
    rcases Nat.lt_or_ge s.toNat t.toNat with hst | hst
    · exact hf _ _ hst (by omega)
    · exact (hf t.toNat s.toNat (by omega) (by omega)).symm
  · intro hw i hi hm
    have hiW : i < pw K (2 * R) := by
      have hdl : i / pw K (2 * R) < K := by rw [Nat.div_lt_iff_lt_mul (by omega), Nat.mul_comm, ← hl]; exact hi
      rw [Nat.mod_eq_of_lt hdl] at hm
      have := Nat.div_add_mod i (pw K (2 * R))
      have := Nat.mod_lt i (show pw K (2 * R) > 0 by omega)
      rw [hm] at *
      omega
    refine (fullP_iff h1 h.k4 h.syms (pw K (2 * R)) i).2 fun s t hst ht => ?_
    have := hw (digs K (2 * R) i) (digs_syms h1 _ _) (digs_length ..) s t (by omega) (by omega) (by omega) (by omega) (by omega)
    rwa [numW_cons, numW_cons, digs_length, numW_digs h1 _ _ hiW, Int.toNat_natCast, Int.toNat_natCast, Nat.add_comm (s * _), Nat.add_comm (t * _)] at this

theorem unlike_rightW {K R : Nat} {T : List Int} (h : RuleOk K R T) : unlikeP K T 1 = true ↔ RightW K (2 * R) T := by
  have h1 := h.k1
  obtain ⟨hW, hl⟩ := h.half
  rw [unlikeP_iff]
  constructor
  · intro hu u hsy hul s t hs0 hs1 ht0 ht1 hne
    have hlt := numW_lt u hsy
    rw [hul] at hlt
    have hf := hu (numW K u * K) (by rw [hl]; exact Nat.mul_lt_mul_of_pos_right hlt (by omega)) (by rw [Nat.div_one, Nat.mul_mod_left])
    have hf := (fullP_iff h1 h.k4 h.syms 1 _).1 hf
    rw [numW_snoc, numW_snoc]
    rcases Nat.lt_or_ge s.toNat t.toNat with hst | hst
    · have := hf _ _ hst (by omega); rwa [Nat.mul_one, Nat.mul_one] at this
    · have := (hf t.toNat s.toNat (by omega) (by omega)).symm; rwa [Nat.mul_one, Nat.mul_one] at this
  · intro hw i hi hm
    rw [Nat.div_one] at hm
    obtain ⟨q, rfl⟩ : ∃ q, i = q * K := ⟨i / K, by have := Nat.div_add_mod' i K; omega⟩
    have hq : q < pw K (2 * R) := Nat.lt_of_mul_lt_mul_right (a := K) (by rw [← hl]; exact hi)
    refine (fullP_iff h1 h.k4 h.syms 1 _).2 fun s t hst ht => ?_
    have := hw (digs K (2 * R) q) (digs_syms h1 _ _) (digs_length ..) s t (by omega) (by omega) (by omega) (by omega) (by omega)
    rwa [numW_snoc, numW_snoc, numW_digs h1 _ _ hq, Int.toNat_natCast, Int.toNat_natCast, ← Nat.mul_one s, ← Nat.mul_one t] at this

/-- Mirrored: the other sides. -/
theorem mir_leftW {K R : Nat} {T : List Int} (h : RuleOk K R T) : LeftW K (2 * R) (mirT K (2 * R + 1) T) ↔ RightW K (2 * R) T := by
  have e : ∀ (u : List Int) (s : Int), Syms K u → u.length = 2 * R → 0 ≤ s → s < K → (mirT K (2 * R + 1) T).getD (numW K (s :: u)) 0 = T.getD (numW K (u.reverse ++ [s])) 0 := fun u s hu hl h0 h1 => by
    have := mirT_at h.k1 h.len (s :: u) (syms_cons h0 h1 hu) (by simp [hl])
    rwa [List.reverse_cons] at this
  constructor
  · intro hw u hu hl s t a b c d hne
    have := hw u.reverse (syms_rev hu) (by simpa using hl) s t a b c d hne
    rwa [e _ _ (syms_rev hu) (by simpa using hl) a b, e _ _ (syms_rev hu) (by simpa using hl) c d, List.reverse_reverse] at this
  · intro hw u hu hl s t a b c d hne
    rw [e _ _ hu hl a b, e _ _ hu hl c d]
    exact hw u.reverse (syms_rev hu) (by simpa using hl) s t a b c d hne
theorem mir_rightW {K R : Nat} {T : List Int} (h : RuleOk K R T) : RightW K (2 * R) (mirT K (2 * R + 1) T) ↔ LeftW K (2 * R) T := by
  have e : ∀ (u : List Int) (s : Int), Syms K u → u.length = 2 * R → 0 ≤ s → s < K → (mirT K (2 * R + 1) T).getD (numW K (u ++ [s])) 0 = T.getD (numW K (s :: u.reverse)) 0 := fun u s hu hl h0 h1 => by
    have := mirT_at h.k1 h.len (u ++ [s]) (syms_snoc h0 h1 hu) (by simp [hl])
    rwa [List.reverse_append, List.reverse_singleton, List.singleton_append] at this
  constructor
  · intro hw u hu hl s t a b c d hne
    have := hw u.reverse (syms_rev hu) (by simpa using hl) s t a b c d hne
    rwa [e _ _ (syms_rev hu) (by simpa using hl) a b, e _ _ (syms_rev hu) (by simpa using hl) c d, List.reverse_reverse] at this
  · intro hw u hu hl s t a b c d hne
    rw [e _ _ hu hl a b, e _ _ hu hl c d]
    exact hw u.reverse (syms_rev hu) (by simpa using hl) s t a b c d hne
theorem mir_sides {K R : Nat} {T : List Int} (h : RuleOk K R T) :
    unlikeP K (mirT K (2 * R + 1) T) ((mirT K (2 * R + 1) T).length / K) = unlikeP K T 1 ∧ unlikeP K (mirT K (2 * R + 1) T) 1 = unlikeP K T (T.length / K) := by
  constructor
  · rw [Bool.eq_iff_iff, unlike_leftW (mirT_ok h), unlike_rightW h, mir_leftW h]
  · rw [Bool.eq_iff_iff, unlike_rightW (mirT_ok h), unlike_leftW h, mir_rightW h]

/-- One rule behind another. -/
theorem imgP_cons {K R : Nat} {T : List Int} {x : Int} {w : List Int} (h : 2 * R ≤ w.length) : imgP K R T (x :: w) = T.getD (numW K (x :: w.take (2 * R))) 0 :: imgP K R T w := by
  unfold imgP
  rw [show (x :: w).length - 2 * R = (w.length - 2 * R) + 1 by simp; omega, List.range_succ_eq_map, List.map_cons, List.map_map]
  congr 1
theorem behindT_length (K R1 : Nat) (T1 : List Int) (R2 : Nat) (T2 : List Int) : (behindT K R1 T1 R2 T2).length = pw K (2 * (R1 + R2) + 1) := by simp [behindT]
theorem behindT_at {K R1 R2 : Nat} {T1 T2 : List Int} (hK : 1 ≤ K) (w : List Int) (hw : Syms K w) (hl : w.length = 2 * (R1 + R2) + 1) : (behindT K R1 T1 R2 T2).getD (numW K w) 0 = T1.getD (numW K (imgP K R2 T2 w)) 0 := by
  have hlt := numW_lt w hw
  rw [hl] at hlt
  have : (behindT K R1 T1 R2 T2).getD (numW K w) 0 = T1.getD (numW K (imgP K R2 T2 (digs K (2 * (R1 + R2) + 1) (numW K w)))) 0 := by simp [behindT, List.getD, hlt]
  rw [this, ← hl, digs_numW hK w hw]
theorem behindT_ok {K R1 R2 : Nat} {T1 T2 : List Int} (h1 : RuleOk K R1 T1) (hR : R1 + R2 ≤ 3) : RuleOk K (R1 + R2) (behindT K R1 T1 R2 T2) :=
  ⟨h1.k1, h1.k4, hR, behindT_length .., fun y hy => by
    obtain ⟨i, _, rfl⟩ := List.mem_map.1 hy
    exact h1.syms.getD (by have := h1.k1; omega) _⟩
theorem behind_left {K R1 R2 : Nat} {T1 T2 : List Int} (h1 : RuleOk K R1 T1) (h2 : RuleOk K R2 T2) (w1 : LeftW K (2 * R1) T1) (w2 : LeftW K (2 * R2) T2) : LeftW K (2 * (R1 + R2)) (behindT K R1 T1 R2 T2) := by
  intro u hu hl s t a b c d hne
  have hk := h1.k1
  rw [behindT_at hk _ (syms_cons a b hu) (by simp [hl]), behindT_at hk _ (syms_cons c d hu) (by simp [hl]), imgP_cons (by omega), imgP_cons (by omega)]
  have htk : Syms K (u.take (2 * R2)) := fun y hy => hu y (List.mem_of_mem_take hy)
  have hne2 := w2 (u.take (2 * R2)) htk (by simp; omega) s t a b c d hne
  have s1 := h2.syms.getD (by omega) (numW K (s :: u.take (2 * R2)))
  have s2 := h2.syms.getD (by omega) (numW K (t :: u.take (2 * R2)))
  exact w1 (imgP K R2 T2 u) (imgP_syms hk h2.syms) (by rw [imgP_length]; omega) _ _ s1.1 s1.2 s2.1 s2.2 hne2
theorem behind_right {K R1 R2 : Nat} {T1 T2 : List Int} (h1 : RuleOk K R1 T1) (h2 : RuleOk K R2 T2) (w1 : RightW K (2 * R1) T1) (w2 : RightW K (2 * R2) T2) : RightW K (2 * (R1 + R2)) (behindT K R1 T1 R2 T2) := by
  intro u hu hl s t a b c d hne
  have hk := h1.k1
  have win : ∀ x : Int, 0 ≤ x → x < K → imgP K R2 T2 (u ++ [x]) = imgP K R2 T2 u ++ [T2.getD (numW K (u.drop (u.length - 2 * R2) ++ [x])) 0] := fun x x0 x1 => by
    rw [imgP_snoc h2.len (syms_snoc x0 x1 hu), if_pos (by omega)]
    have hdl : (u.drop (u.length - 2 * R2) ++ [x]).length = 2 * R2 + 1 := by simp; omega
    have := numW_mod (K := K) (u := u.take (u.length - 2 * R2)) (v := u.drop (u.length - 2 * R2) ++ [x]) (syms_snoc x0 x1 fun y hy => hu y (List.mem_of_mem_drop hy))
    rw [← List.append_assoc, List.take_append_drop, hdl, ← h2.len] at this
    rw [this]
  rw [behindT_at hk _ (syms_snoc a b hu) (by simp [hl]), behindT_at hk _ (syms_snoc c d hu) (by simp [hl]), win s a b, win t c d]
  have hdk : Syms K (u.drop (u.length - 2 * R2)) := fun y hy => hu y (List.mem_of_mem_drop hy)
  have hne2 := w2 (u.drop (u.length - 2 * R2)) hdk (by simp; omega) s t a b c d hne
  have s1 := h2.syms.getD (by omega) (numW K (u.drop (u.length - 2 * R2) ++ [s]))
  have s2 := h2.syms.getD (by omega) (numW K (u.drop (u.length - 2 * R2) ++ [t]))
  exact w1 (imgP K R2 T2 u) (imgP_syms hk h2.syms) (by rw [imgP_length]; omega) _ _ s1.1 s1.2 s2.1 s2.2 hne2
theorem behind_sides {K R1 R2 : Nat} {T1 T2 : List Int} (h1 : RuleOk K R1 T1) (h2 : RuleOk K R2 T2) (hR : R1 + R2 ≤ 3) :
    (unlikeP K T1 (T1.length / K) = true → unlikeP K T2 (T2.length / K) = true → unlikeP K (behindT K R1 T1 R2 T2) ((behindT K R1 T1 R2 T2).length / K) = true) ∧
    (unlikeP K T1 1 = true → unlikeP K T2 1 = true → unlikeP K (behindT K R1 T1 R2 T2) 1 = true) := by
  have hb := behindT_ok (T2 := T2) h1 hR
  rw [unlike_leftW h1, unlike_leftW h2, unlike_leftW hb, unlike_rightW h1, unlike_rightW h2, unlike_rightW hb]
  exact ⟨behind_left h1 h2, behind_right h1 h2⟩
end Go.Proofs.YtmhiambkfdkkbaaDoor
