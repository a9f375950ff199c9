/-
  Plain mathematics: what stays where again and again vertices are taken away to which, or from which, no arrow leads.
  Walk: edenref12.turned: the arrows the other way round, each as often.
  Walk: edenref12.far: how far it is from a vertex.
  Walk: edenref12.way: the first of the shortest ways, by going down.
  What the document's answers of layer 12 share: the error's box.
  Plain mathematics: what stands on a loop.
  Plain mathematics: the peeling of a graph, step by step; what it leaves are the live vertices.
  Walk: edenref12.Live.
  Walk: edenlaw12.goes at a way.
  What Path and Loop answer, as plain lists.
  What Path, Loop and Live answer is told by the graph.
-/
import Derived.Test.YtdldadgnggaopaaDoorMPt7
import Derived.BigQuiet
namespace Go.Proofs.YtdldadgnggaopaaDoor

/-- The sum of F over the first n. -/
def sumN (F : Nat → Nat) : Nat → Nat
  | 0 => 0
  | n + 1 => sumN F n + F n
theorem sumN_congr {F F' : Nat → Nat} : ∀ {n}, (∀ v, v < n → F v = F' v) → sumN F n = sumN F' n
  | 0, _ => rfl
  | n + 1, h => by
    show sumN F n + F n = sumN F' n + F' n
    rw [sumN_congr (n := n) (fun v hv => h v (by omega)), h n (by omega)]
theorem sumN_pos {F : Nat → Nat} : ∀ {n}, 0 < sumN F n ↔ ∃ v, v < n ∧ 0 < F v
  | 0 => by simp [sumN]
  | n + 1 => by
    show 0 < sumN F n + F n ↔ _
    constructor
    · intro h
      by_cases e : 0 < sumN F n
      · obtain ⟨v, h1, h2⟩ := sumN_pos.1 e; exact ⟨v, by omega, h2⟩
      · exact ⟨n, by omega, by omega⟩
    · rintro ⟨v, h1, h2⟩
      by_cases e : v = n
      · subst e; omega
      · have := sumN_pos.2 ⟨v, show v < n by omega, h2⟩; omega
theorem sumN_upd {F F' : Nat → Nat} {v : Nat} (h : ∀ u, u ≠ v → F' u = F u) : ∀ {n}, v < n → sumN F' n + F v = sumN F n + F' v
  | 0, q => by omega
  | n + 1, q => by
    show sumN F' n + F' n + F v = sumN F n + F n + F' v
    by_cases e : v = n
    · subst e
      rw [sumN_congr (n := v) (fun u hu => h u (by omega))]; omega
    · have := sumN_upd h (n := n) (by omega)
      rw [h n (fun q => e q.symm)]; omega
theorem sumN_zero : ∀ n, sumN (fun _ => 0) n = 0
  | 0 => rfl
  | n + 1 => by show sumN _ n + 0 = 0; rw [sumN_zero n]
theorem sumN_add (F F' : Nat → Nat) : ∀ n, sumN (fun v => F v + F' v) n = sumN F n + sumN F' n
  | 0 => rfl
  | n + 1 => by show sumN _ n + (F n + F' n) = sumN F n + F n + (sumN F' n + F' n); rw [sumN_add F F' n]; omega
theorem sumN_one (x : Nat) : ∀ n, sumN (fun v => if v = x then 1 else 0) n = if x < n then 1 else 0
  | 0 => rfl
  | n + 1 => by
    show sumN _ n + (if n = x then 1 else 0) = _
    rw [sumN_one x n]
    by_cases e : n = x
    · subst e; simp
    · rw [if_neg e]
      by_cases q : x < n
      · rw [if_pos q, if_pos (by omega)]
      · rw [if_neg q, if_neg (by omega)]
/-- A list of numbers below n: its length, counted number by number. -/
theorem length_counts (n : Nat) : ∀ (l : List Nat), (∀ x ∈ l, x < n) → l.length = sumN (fun v => l.count v) n
  | [], _ => by simp [sumN_zero]
  | x :: l, h => by
    have ih := length_counts n l (fun y hy => h y (List.mem_cons_of_mem _ hy))
    have e : (fun v => (x :: l).count v) = fun v => l.count v + if v = x then 1 else 0 := by
      funext v
      rw [List.count_cons]
      by_cases q : x = v
      · simp [q]
      · rw [if_neg (by simpa using q), if_neg (fun r => q r.symm)]
    rw [e, sumN_add, sumN_one, if_pos (h x List.mem_cons_self), ← ih, List.length_cons]

/-- inn tells how many arrows lead to t, of those not gone through: the first c v of v's are. -/
def Deg (n : Nat) (A : Nat → List Nat) (c inn : Nat → Nat) : Prop := ∀ t, t < n → inn t = sumN (fun v => ((A v).drop (c v)).count t) n
theorem Deg.init {n : Nat} {A B : Nat → List Nat} (hB : ∀ t, t < n → ∀ x ∈ B t, x < n) (hc : ∀ v t, v < n → t < n → (B t).count v = (A v).count t) : Deg n A (fun _ => 0) (fun t => (B t).length) := by
  intro t ht
  show (B t).length = _
  rw [length_counts n _ (hB t ht)]
  exact sumN_congr fun v hv => by rw [hc v t hv ht, List.drop_zero]
theorem Deg.step {n : Nat} {A : Nat → List Nat} {c inn : Nat → Nat} {v j t : Nat} (h : Deg n A c inn) (hv : v < n) (hj : c v = j) (ht : (A v)[j]? = some t) (htn : t < n) :
    0 < inn t ∧ Deg n A (updN c v (j + 1)) (updN inn t (inn t - 1)) := by
  have hjl : j < (A v).length := get_of ht
  have hd : (A v).drop j = t :: (A v).drop (j + 1) := by
    rw [List.drop_eq_getElem_cons hjl]
    rw [List.getElem?_eq_getElem hjl] at ht; injection ht with ht; rw [ht]
  have key : ∀ x, sumN (fun u => ((A u).drop (updN c v (j + 1) u)).count x) n + (if x = t then 1 else 0) = sumN (fun u => ((A u).drop (c u)).count x) n := by
    intro x
    have := sumN_upd (F := fun u => ((A u).drop (c u)).count x) (F' := fun u => ((A u).drop (updN c v (j + 1) u)).count x) (v := v) (fun u hu => by simp only [updN_other _ _ _ hu]) hv
    simp only [updN_same, hj, hd, List.count_cons] at this
    by_cases e : x = t
    · subst e; rw [if_pos rfl]; simp at this; omega
    · rw [if_neg e]
      have e2 : (t == x) = false := by simpa using fun q => e q.symm
      rw [e2] at this; simp at this; omega
  have h1 := key t
  rw [if_pos rfl, ← h t htn] at h1
  refine ⟨by omega, fun x hx => ?_⟩
  have h2 := key x
  by_cases e : x = t
  · subst e; rw [updN_same]; omega
  · rw [updN_other _ _ _ e, h x hx]; rw [if_neg e] at h2; omega

/-- The peeling: what has gone stands in the queue; the first i of it have been gone through, and of the next the first j and k arrows. -/
structure Peel (n : Nat) (A B : Nat → List Nat) (inn out : Nat → Nat) (c d : Nat → Nat) (gone : Nat → Bool) (q : List Nat) (lives : Nat → Prop) : Prop where
  deg1 : Deg n A c inn
  deg2 : Deg n B d out
  nodup : q.Nodup
  goneq : ∀ x, gone x = true ↔ x ∈ q
  low : ∀ x ∈ q, x < n
  fresh : ∀ v, v ∉ q → c v = 0 ∧ d v = 0
  keep : ∀ t, t < n → lives t → gone t = false
/-- A live vertex has live neighbours on both sides. -/
structure LiveSet (n : Nat) (A B : Nat → List Nat) (lives : Nat → Prop) : Prop where
  behind : ∀ t, t < n → lives t → ∃ p, p < n ∧ lives p ∧ t ∈ A p
  ahead : ∀ t, t < n → lives t → ∃ p, p < n ∧ lives p ∧ t ∈ B p
section
variable {n : Nat} {A B : Nat → List Nat} {inn out c d : Nat → Nat} {gone : Nat → Bool} {q : List Nat} {lives : Nat → Prop}
theorem Peel.live_in (h : Peel n A B inn out c d gone q lives) (hL : LiveSet n A B lives) {t : Nat} (ht : t < n) (hl : lives t) : 0 < inn t ∧ 0 < out t := by
  have aux : ∀ p, p < n → lives p → c p = 0 ∧ d p = 0 := fun p hp hlp => h.fresh p (fun q => by have := (h.goneq p).2 q; rw [h.keep p hp hlp] at this; cases this)
  refine ⟨?_, ?_⟩
  · obtain ⟨p, hp, hlp, hm⟩ := hL.behind t ht hl
    rw [h.deg1 t ht]
    refine sumN_pos.2 ⟨p, hp, ?_⟩
    rw [(aux p hp hlp).1, List.drop_zero]
    exact List.count_pos_iff.2 hm
  · obtain ⟨p, hp, hlp, hm⟩ := hL.ahead t ht hl
    rw [h.deg2 t ht]
    refine sumN_pos.2 ⟨p, hp, ?_⟩
    rw [(aux p hp hlp).2, List.drop_zero]
    exact List.count_pos_iff.2 hm
/-- A vertex goes. -/
theorem Peel.goes (h : Peel n A B inn out c d gone q lives) (hL : LiveSet n A B lives) {t : Nat} (ht : t < n) (hg : gone t = false) (h0 : inn t = 0 ∨ out t = 0) : Peel n A B inn out c d (updN gone t true) (q ++ [t]) lives := by
  have htq : t ∉ q := fun r => by have := (h.goneq t).2 r; rw [hg] at this; cases this
  refine ⟨h.deg1, h.deg2, ?_, fun x => ?_, fun x hx => ?_, fun v hv => h.fresh v (fun r => hv (List.mem_append_left _ r)), fun x hx hl => ?_⟩
  · exact List.nodup_append.2 ⟨h.nodup, by simp, fun x hx y hy e => by cases List.mem_singleton.1 hy; subst e; exact htq hx⟩
  · by_cases e : x = t
    · subst e; rw [updN_same]; simp
    · rw [updN_other _ _ _ e, h.goneq]; simp [e]
  · rcases List.mem_append.1 hx with hx | hx
    · exact h.low x hx
    · cases List.mem_singleton.1 hx; exact ht
  · by_cases e : x = t
    · subst e
      have := h.live_in hL hx hl; omega
    · rw [updN_other _ _ _ e]; exact h.keep x hx hl
/-- An arrow of a vertex that has gone. -/
theorem Peel.arrow1 (h : Peel n A B inn out c d gone q lives) {v j t : Nat} (hv : v ∈ q) (hj : c v = j) (ht : (A v)[j]? = some t) (htn : t < n) :
    0 < inn t ∧ Peel n A B (updN inn t (inn t - 1)) out (updN c v (j + 1)) d gone q lives := by
  obtain ⟨h1, h2⟩ := h.deg1.step (h.low v hv) hj ht htn
  exact ⟨h1, h2, h.deg2, h.nodup, h.goneq, h.low, fun u hu => by
    have e : u ≠ v := fun e => hu (by rw [e]; exact hv)
    rw [updN_other _ _ _ e]; exact h.fresh u hu, h.keep⟩
theorem Peel.arrow2 (h : Peel n A B inn out c d gone q lives) {v j t : Nat} (hv : v ∈ q) (hj : d v = j) (ht : (B v)[j]? = some t) (htn : t < n) :
    0 < out t ∧ Peel n A B inn (updN out t (out t - 1)) c (updN d v (j + 1)) gone q lives := by
  obtain ⟨h1, h2⟩ := h.deg2.step (h.low v hv) hj ht htn
  exact ⟨h1, h.deg1, h2, h.nodup, h.goneq, h.low, fun u hu => by
    have e : u ≠ v := fun e => hu (by rw [e]; exact hv)
    rw [updN_other _ _ _ e]; exact h.fresh u hu, h.keep⟩
/-- At the end each vertex that is left has neighbours that are left, on both sides. -/
theorem Peel.left (h : Peel n A B inn out c d gone q lives) (hall : ∀ v ∈ q, c v = (A v).length ∧ d v = (B v).length) (hpos : ∀ t, t < n → gone t = false → 0 < inn t ∧ 0 < out t) {t : Nat} (ht : t < n) (hg : gone t = false) :
    (∃ p, p < n ∧ gone p = false ∧ t ∈ A p) ∧ ∃ p, p < n ∧ gone p = false ∧ t ∈ B p := by
  obtain ⟨h1, h2⟩ := hpos t ht hg
  rw [h.deg1 t ht] at h1
  rw [h.deg2 t ht] at h2
  obtain ⟨p, hp, hc⟩ := sumN_pos.1 h1
  obtain ⟨p2, hp2, hc2⟩ := sumN_pos.1 h2
  refine ⟨⟨p, hp, ?_, List.mem_of_mem_drop (List.count_pos_iff.1 hc)⟩, ⟨p2, hp2, ?_, List.mem_of_mem_drop (List.count_pos_iff.1 hc2)⟩⟩
  · cases hgp : gone p with
    | false => rfl
    | true => rw [(hall p ((h.goneq p).1 hgp)).1, List.drop_length] at hc; simp at hc
  · cases hgp : gone p2 with
    | false => rfl
    | true => rw [(hall p2 ((h.goneq p2).1 hgp)).2, List.drop_length] at hc2; simp at hc2
end
/-- From a set that one never has to leave, a loop can be reached. -/
theorem set_loop {n : Nat} {A : Nat → List Nat} {S : Nat → Prop} (hS : ∀ x, S x → x < n) (hs : ∀ x, S x → ∃ t ∈ A x, S t) {x : Nat} (hx : S x) : ∃ u, u < n ∧ (∃ t ∈ A u, Goes A t u) ∧ Goes A x u := by
  apply Classical.byContradiction
  intro hno
  have key : ∀ k, ∃ w y, Way A x y w ∧ w.length = k + 1 ∧ w.Nodup ∧ (∀ z ∈ w, S z) ∧ S y := by
    intro k
    induction k with
    | zero => exact ⟨[x], x, .one x, rfl, by simp, fun z hz => by cases List.mem_singleton.1 hz; exact hx, hx⟩
    | succ k ih =>
      obtain ⟨w, y, h1, h2, h3, h4, h5⟩ := ih
      obtain ⟨t, ht, hst⟩ := hs y h5
      have htw : t ∉ w := fun hm => by
        obtain ⟨u, hu, _⟩ := h1.mem t hm
        exact hno ⟨y, hS y h5, ⟨t, ht, hu.goes⟩, h1.goes⟩
      refine ⟨w ++ [t], t, h1.snoc ht, by simp [h2], List.nodup_append.2 ⟨h3, by simp, fun a ha b hb e => by cases List.mem_singleton.1 hb; subst e; exact htw ha⟩, fun z hz => ?_, hst⟩
      rcases List.mem_append.1 hz with hz | hz
      · exact h4 z hz
      · cases List.mem_singleton.1 hz; exact hst
  obtain ⟨w, y, h1, h2, h3, h4, _⟩ := key n
  have hl : ∀ (n : Nat) (l : List Nat), l.Nodup → (∀ x ∈ l, x < n) → l.length ≤ n := by
    intro n
    induction n with
    | zero => intro l _ h; cases l with
      | nil => simp
      | cons a l => exact absurd (h a List.mem_cons_self) (by omega)
    | succ n ih =>
      intro l hl h
      have h1 := ih (l.erase n) (hl.erase n) (fun x hx => by
        have := h x (List.mem_of_mem_erase hx)
        have : x ≠ n := fun e => by subst e; exact (List.Nodup.not_mem_erase hl) hx
        omega)
      have := List.length_erase (a := n) (l := l)
      split at this <;> omega
  have := hl n w h3 (fun z hz => hS z (h4 z hz))
  omega
end Go.Proofs.YtdldadgnggaopaaDoor

namespace Go.Proofs.YtdldadgnggaopaaDoor
open Go.RowKit
set_option maxRecDepth 100000

/-- How often what is told stands there. -/
def CntTo (G : List (List Int)) (k j : Nat) (F : Nat → List Int) : Prop :=
  ∀ t, t < G.length → ∀ v : Nat, (F t).count (v : Int) = if v < k then (G.getD v []).count (t : Int) else if v = k then ((G.getD k []).take j).count (t : Int) else 0
theorem CntTo.zero (G : List (List Int)) : CntTo G 0 0 (fun _ => []) := by
  intro t _ v
  rw [if_neg (by omega)]
  split <;> simp
theorem CntTo.next {G : List (List Int)} {k : Nat} {F : Nat → List Int} (h : CntTo G k (G.getD k []).length F) : CntTo G (k + 1) 0 F := by
  intro t ht v
  rw [h t ht v, List.take_length]
  by_cases e : v < k
  · rw [if_pos e, if_pos (by omega)]
  · rw [if_neg e]
    by_cases e2 : v = k
    · subst e2; rw [if_pos rfl, if_pos (by omega)]
    · rw [if_neg e2, if_neg (by omega)]
      split <;> simp
theorem CntTo.add {G : List (List Int)} {k j u : Nat} {F : Nat → List Int} (h : CntTo G k j F) (hj : (G.getD k [])[j]? = some (u : Int)) : CntTo G k (j + 1) (updN F u (F u ++ [(k : Int)])) := by
  have htk : (G.getD k []).take (j + 1) = (G.getD k []).take j ++ [(u : Int)] := by
    rw [List.take_add_one, hj]; rfl
  intro t ht v
  have h1 := h t ht v
  rw [htk, List.count_append]
  by_cases e : t = u
  · subst e
    rw [updN_same, List.count_append, h1]
    by_cases e1 : v < k
    · rw [if_pos e1, if_pos e1]
      have : ([(k : Int)] : List Int).count (v : Int) = 0 := by
        rw [List.count_eq_zero]; simp; omega
      omega
    · rw [if_neg e1, if_neg e1]
      by_cases e2 : v = k
      · subst e2; rw [if_pos rfl, if_pos rfl]; simp
      · rw [if_neg e2, if_neg e2]
        rw [Nat.zero_add, List.count_eq_zero]; simp; omega
  · rw [updN_other _ _ _ e, h1]
    have : ([(u : Int)] : List Int).count (t : Int) = 0 := by
      rw [List.count_eq_zero]; simp; omega
    rw [this, Nat.add_zero]
/-- Turned, with how often. -/
structure TurnedX (G H : List (List Int)) : Prop where
  t : TurnedOf G H
  cnt : ∀ t v, t < G.length → v < G.length → (adjOf H t).count v = (adjOf G v).count t
theorem count_toNat : ∀ (l : List Int) (x : Nat), (∀ y ∈ l, 0 ≤ y) → (l.map Int.toNat).count x = l.count (x : Int)
  | [], _, _ => rfl
  | a :: l, x, h => by
    rw [List.map_cons, List.count_cons, List.count_cons, count_toNat l x (fun y hy => h y (List.mem_cons_of_mem _ hy))]
    have ha := h a List.mem_cons_self
    by_cases e : a = (x : Int)
    · subst e; simp
    · have : ¬ a.toNat = x := by omega
      simp [e, this]
theorem TurnedX.of {G : List (List Int)} {F : Nat → List Int} (hok : GraphOk G) (h : BackTo G G.length 0 F) (hc : CntTo G G.length 0 F) : TurnedX G (rowsOf G.length F) := by
  have hT := h.turned
  refine ⟨hT, fun t v ht hv => ?_⟩
  unfold adjOf
  rw [rowsOf_get _ _ _ ht, count_toNat, count_toNat, hc t ht v, if_pos hv]
  · exact fun y hy => (hok v hv y hy).1
  · intro y hy
    obtain ⟨v, rfl, _⟩ := ((h t ht).2 y).1 hy
    omega

/-- Lists of which all was made from block B on. -/
def ListsFrom (B : Nat) (w : World) (v : Value) (G : List (List Int)) : Prop :=
  ∃ vs : List Value, OwnV 22 B w v vs ∧ vs.length = G.length ∧ ∀ i, i < G.length → OwnI B w (vAt vs i) (G.getD i [])
theorem ListsFrom.at {B : Nat} {w : World} {v : Value} {G : List (List Int)} (h : ListsFrom B w v G) : ListsAt w v G := by
  obtain ⟨vs, h1, h2, h3⟩ := h
  exact ⟨vs, h1.at, h2, fun i hi => (h3 i hi).at⟩
theorem ListsFrom.below {B : Nat} {w w' : World} {v : Value} {G : List (List Int)} (h : ListsFrom B w v G) (hb : Below w.heap.size w w') : ListsFrom B w' v G := by
  obtain ⟨vs, h1, h2, h3⟩ := h
  exact ⟨vs, h1.below hb, h2, fun i hi => (h3 i hi).below hb⟩
theorem ListsFrom.set {B : Nat} {w : World} {v : Value} {G : List (List Int)} (h : ListsFrom B w v G) {a : Addr} (ha : a.block < B) (u : Value) : ListsFrom B (w.setCell a u) v G := by
  obtain ⟨vs, h1, h2, h3⟩ := h
  exact ⟨vs, OwnV.setBelowBase h1 ha u, h2, fun i hi => OwnV.toI (OwnV.setBelowBase (h3 i hi).toV ha u)⟩
theorem WN.from {B : Nat} {w : World} {f : Names} {ov : Value} {vals : List Value} {n : Nat} {F : Nat → List Int} (h : WN f ov vals n F) (hr : Rows B w f) : ListsFrom B w ov (rowsOf n F) :=
  ⟨vals, hr.ownV h.outer, by rw [h.len, rowsOf_len], fun i hi => by
    rw [rowsOf_len] at hi
    rw [rowsOf_get n F i hi]
    exact hr.ownI (h.rows i hi)⟩

set_option maxHeartbeats 4000000 in
theorem ref_turned (na : Option Addr) (nc : Nat) (G : List (List Int)) (w : World) (h : ListsAt w (.slice na G.length nc) G) (hok : GraphOk G) (hn : G.length ≤ 8200) (harr : arrowsTo G G.length ≤ 262144) :
    Calls Tryd.prog 62 #[.slice na G.length nc] w (Ret1 (fun x w' => ∃ H, TurnedX G H ∧ ListsFrom w.heap.size w' x H) w) := by
  obtain ⟨ov, w1, mk, ho, hb1⟩ := run_makeW oneLists (G.length : Int) G.length w rfl (by omega)
  obtain ⟨f1, hr1, h1⟩ := WN.made G.length hb1 (Nat.le_refl _) ho
  obtain ⟨oa, on, oc, rfl⟩ := ho.shape
  have hlen : ∀ k, k < G.length → (G.getD k []).length ≤ 262144 := fun k hk => by
    have := arrowsTo_mono G (show k + 1 ≤ G.length by omega)
    simp only [arrowsTo] at this; omega
  replace h := Lib.hid h
  replace hok := Lib.hid hok
  replace hr1 := Lib.hid hr1
  replace ho := Lib.hid ho
  replace hlen := Lib.hid hlen
  go_enter Tryd.func62, Tryd.ntmps62
  go_wp2_with fail
  clear mk
  go_loopw [4] (fun kv wr => ∃ (k : Nat) (F : Nat → List Int) (f : Names) (vals : List Value), k ≤ G.length ∧ kv = .int .i64 k ∧ Rows w.heap.size wr f ∧ Below w.heap.size w wr ∧ WN f (.slice oa on oc) vals G.length F ∧ BackTo G k 0 F ∧ CntTo G k 0 F) (fun kv _ => G.length - (intOf kv).toNat)
  case atStart => exact ⟨0, _, f1, _, by omega, rfl, hr1.out, hb1, h1, BackTo.zero G, CntTo.zero G⟩
  case round =>
    clear h1 ho hr1
    obtain ⟨k, F, f2, vals, hk, rfl, hr2, b2, h2, hB, hC⟩ := hrel
    obtain ⟨wo, rfl⟩ : ∃ wo : World, wo = wr := ⟨_, rfl⟩
    by_cases hlt : k < G.length
    · obtain ⟨mv, iR, cR0, hM0⟩ := h.out.row k hlt
      have hgl := hlen.out k hlt
      have hgp := hok.out k hlt
      have hBadd := fun (j u : Nat) (F : Nat → List Int) (h : BackTo G k j F) => h.add (u := u)
      have hBnext := fun (F : Nat → List Int) (h : BackTo G k (G.getD k []).length F) => h.next
      have hCadd := fun (j u : Nat) (F : Nat → List Int) (h : CntTo G k j F) => h.add (u := u)
      have hCnext := fun (F : Nat → List Int) (h : CntTo G k (G.getD k []).length F) => h.next
      have hBlen := fun (j t : Nat) (F : Nat → List Int) (h : BackTo G k j F) (ht : t < G.length) => (h t ht).1
      have harrk := arrowsTo_mono G hk
      generalize G.getD k [] = gk at *
      have lM := hM0.len
      generalize valAt (.slice na G.length nc) k = ra at *
      have cR1 := Lib.hid cR0
      clear cR0
      replace hB := Lib.hid hB
      replace hC := Lib.hid hC
      replace hBadd := Lib.hid hBadd
      replace hBnext := Lib.hid hBnext
      replace hCadd := Lib.hid hCadd
      replace hCnext := Lib.hid hCnext
      replace hBlen := Lib.hid hBlen
      replace hgp := Lib.hid hgp
      replace hr2 := Lib.hid hr2
      replace hM0 := Lib.hid hM0
      go_wp2_with fail
      go_loopw [5] (fun jv wr => ∃ (j : Nat) (F : Nat → List Int) (f : Names) (vals : List Value), j ≤ gk.length ∧ jv = .int .i64 j ∧ Rows w.heap.size wr f ∧ Below w.heap.size w wr ∧ WN f (.slice oa on oc) vals G.length F ∧ BackTo G k j F ∧ CntTo G k j F) (fun jv _ => gk.length - (intOf jv).toNat)
      case atStart => exact ⟨0, F, f2, vals, by omega, rfl, hr2.out, b2, h2, hB.out, hC.out⟩
      case round =>
        clear hB hC hr2 h2 b2
        obtain ⟨j, F, f3, vals, hj, rfl, hr3, b3, h3, hB, hC⟩ := hrel
        obtain ⟨wo, rfl⟩ : ∃ wo : World, wo = wr := ⟨_, rfl⟩
        have cR := (b3.cell (World.block_lt_of_cell? _ _ cR1.out)).trans cR1.out
        by_cases hjl : j < gk.length
        · have hMj := hM0.out.below b3
          have hgj := hgp.out gk[j] (List.getElem_mem hjl)
          obtain ⟨u, hu⟩ : ∃ u : Nat, gk[j] = u := Int.eq_ofNat_of_zero_le hgj.1
          have hun : u < G.length := by rw [hu] at hgj; omega
          have hgu : gk[j]? = some (u : Int) := by rw [List.getElem?_eq_getElem hjl, hu]
          have hgd : gk.getD j 0 = (u : Int) := by rw [List.getD_eq_getElem?_getD, hgu]; rfl
          have iJ := fun w' => hMj.idx j hjl w'
          have cJ := hMj.cellD j hjl
          rw [hgd] at cJ
          have hadd := hBadd.out j u F hB hgu
          have hcadd := hCadd.out j u F hC hgu
          have hfl := hBlen.out j u F hB hun
          have hOV := (hr3.ownV h3.outer).at
          have iO := fun w' => hOV.idx oneLists u (by rw [h3.len]; exact hun) w'
          have cO := hOV.cellV u (by rw [h3.len]; exact hun)
          have hT := hr3.ownI (h3.rows u hun)
          have happ := fun (w1 : World) (v' : Value) => h3.app hr3 hun (w1 := w1) (v' := v') (k : Int)
          have hput := fun (w1 : World) (v' : Value) (xs : List Int) => h3.put (B := w.heap.size) (w1 := w1) hun (v' := v') (xs := xs)
          have hB3 : w.heap.size ≤ wo.heap.size := b3.size
          generalize valAt mv j = ja at *
          generalize vAt vals u = tv at *
          generalize valAt (.slice oa on oc) u = ua at *
          replace hadd := Lib.hid hadd
          replace hcadd := Lib.hid hcadd
          replace happ := Lib.hid happ
          replace hput := Lib.hid hput
          replace hB := Lib.hid hB
          replace hC := Lib.hid hC
          replace hr3 := Lib.hid hr3
          replace hOV := Lib.hid hOV
          replace hgu := Lib.hid hgu
          replace hgd := Lib.hid hgd
          replace hu := Lib.hid hu
          replace hgj := Lib.hid hgj
          go_wp2_with (at_builtin; refine wpl_app1 rfl _ _ rfl w.heap.size tv (F u) k hT rfl rfl (by omega) hB3 ?_)
          intro v' w7 ho7 b7 hal7
          have hR7 := happ.out w7 v' ho7 hal7
          obtain ⟨y1, y2, y3, f8, hr8, h8, _⟩ := hput.out w7 v' _ hR7
          obtain ⟨va, vn, vc, rfl⟩ := ho7.at.shape
          replace hr8 := Lib.hid hr8
          replace ho7 := Lib.hid ho7
          replace hR7 := Lib.hid hR7
          clear hal7 hT iJ cJ cO
          go_wp2
          go_roundw
          case measure => simp [intOf]; omega
          case rel => exact ⟨j + 1, _, f8, _, by omega, by go_num, hr8.out, (b3.trans b7).setCell y3 _, h8, hadd.out, hcadd.out⟩
        · obtain rfl : j = gk.length := by omega
          have hnext := hBnext.out F hB
          have hcnext := hCnext.out F hC
          replace hnext := Lib.hid hnext
          replace hcnext := Lib.hid hcnext
          replace hB := Lib.hid hB
          replace hC := Lib.hid hC
          replace hr3 := Lib.hid hr3
          go_wp2
          go_roundw
          case measure => simp [intOf]; omega
          case rel => exact ⟨k + 1, F, f3, vals, by omega, by go_num, hr3.out, b3, h3, hnext.out, hcnext.out⟩
    · obtain rfl : k = G.length := by omega
      have hT := TurnedX.of hok.out hB hC
      have hL := h2.from hr2
      replace hB := Lib.hid hB
      replace hC := Lib.hid hC
      replace hT := Lib.hid hT
      replace hL := Lib.hid hL
      replace hr2 := Lib.hid hr2
      go_wp2
      go_ret
      exact ⟨_, rfl, b2, _, hT.out, hL.out⟩
end Go.Proofs.YtdldadgnggaopaaDoor

namespace Go.Proofs.YtdldadgnggaopaaDoor
open Go.RowKit
set_option maxRecDepth 100000

theorem run_makeN (n : Nat) (w : World) (hn : n ≤ 10000) :
    ∃ v w', (Instr.makeSlice 22 (.int .i64 n) (.int .i64 n)).run Tryd.prog w = .ok v w' ∧ OwnI w.heap.size w' v (List.replicate n 0) ∧ Below w.heap.size w w' := by
  obtain ⟨v, w', h1, h2, h3⟩ := run_makeW oneInts (n : Int) n w rfl (by omega)
  exact ⟨v, w', h1, OwnV.toI (by rw [List.map_replicate]; exact h2), h3⟩
theorem tabI_congr {n : Nat} {f g : Nat → Int} (h : ∀ t, t < n → f t = g t) : tabI n f = tabI n g := by
  unfold tabI
  exact List.map_congr_left fun t ht => h t (List.mem_range.1 ht)
theorem tabI_zero (n : Nat) : tabI n (fun _ => 0) = List.replicate n 0 := by
  unfold tabI; apply List.ext_getElem <;> simp
/-- The first i are -1. -/
def negTo (i t : Nat) : Int := if t < i then -1 else 0
theorem negTo_next (i : Nat) : updN (negTo i) i (-1) = negTo (i + 1) := by
  funext t
  unfold negTo
  by_cases e : t = i
  · subst e; rw [updN_same, if_pos (by omega)]
  · rw [updN_other _ _ _ e]
    by_cases q : t < i
    · rw [if_pos q, if_pos (by omega)]
    · rw [if_neg q, if_neg (by omega)]
theorem negTo_zero (n : Nat) : tabI n (negTo 0) = List.replicate n 0 := by
  rw [← tabI_zero]; exact tabI_congr fun t _ => by unfold negTo; rw [if_neg (by omega)]
theorem negTo_all (n : Nat) : tabI n (negTo n) = tabI n (fun _ => -1) := tabI_congr fun t ht => by unfold negTo; rw [if_pos ht]

set_option maxHeartbeats 4000000 in
theorem ref_far (na : Option Addr) (nc : Nat) (G : List (List Int)) (u : Value) (s : Nat) (w : World) (h : ListsAt w (.slice na G.length nc) G) (hu : IntsAt w u [(s : Int)]) (hok : GraphOk G) (hn : G.length ≤ 8200) (hs : s < G.length) (hsz : ∀ k, k < G.length → (G.getD k []).length ≤ 17592186044416) :
    Calls Tryd.prog 63 #[.slice na G.length nc, u] w (Ret1 (fun x w' => ∃ D, FarOf G.length (adjOf G) s D ∧ (∀ t, D t + 1 ≤ G.length) ∧ OwnI w.heap.size w' x (tabI G.length D)) w) := by
  obtain ⟨ov, w1, mk, ho, hb1⟩ := run_makeN G.length w (by omega)
  rw [← negTo_zero] at ho
  have R1 := (rowsE w.heap.size w).add (i := (1, 0)) (r' := rowI ov (tabI G.length (negTo 0))) hb1 ho (fun k hk => (ho.lt k hk).1)
  have lU := hu.len
  obtain ⟨oa, on, oc, rfl⟩ := ho.at.shape
  replace h := Lib.hid h
  replace hu := Lib.hid hu
  replace hok := Lib.hid hok
  replace hsz := Lib.hid hsz
  replace R1 := Lib.hid R1
  replace ho := Lib.hid ho
  go_enter Tryd.func63, Tryd.ntmps63
  go_wp2_with fail
  clear mk
  go_loopw [6] (fun kv wr => ∃ (k : Nat) (f : Names), k ≤ G.length ∧ kv = .int .i64 k ∧ Rows w.heap.size wr f ∧ Below w.heap.size w wr ∧ f (1, 0) = some (rowI (.slice oa on oc) (tabI G.length (negTo k)))) (fun kv _ => G.length - (intOf kv).toNat)
  case atStart => exact ⟨0, _, by omega, rfl, R1.out, hb1, upd_same _ _ _⟩
  case round =>
    clear R1 ho
    obtain ⟨k, f, hk, rfl, hr, bw, hf⟩ := hrel
    obtain ⟨wo, rfl⟩ : ∃ wo : World, wo = wr := ⟨_, rfl⟩
    have hO := hr.ownI hf
    have lO := hO.at.len
    rw [tabI_len] at lO
    by_cases hlt : k < G.length
    · have iO := fun w' => hO.at.idx k (by rw [tabI_len]; exact hlt) w'
      have cO := hO.at.cellD k (by rw [tabI_len]; exact hlt)
      have fO := hO.frz k (by rw [tabI_len]; exact hlt)
      have kO := (hO.toV.blkB k (by rw [List.length_map, tabI_len]; exact hlt)).2
      have R2 := hr.setI hf k (by rw [tabI_len]; exact hlt) (-1)
      rw [tabI_upd, negTo_next] at R2
      generalize valAt (.slice oa on oc) k = oka at *
      replace hr := Lib.hid hr
      replace hO := Lib.hid hO
      replace hf := Lib.hid hf
      replace R2 := Lib.hid R2
      go_wp2
      go_roundw
      case measure => simp [intOf]; omega
      case rel => exact ⟨k + 1, _, by omega, by go_num, R2.out, bw.setCell kO _, upd_same _ _ _⟩
    · obtain rfl : k = G.length := by omega
      rw [negTo_all] at hf
      have hal2 := belowAlloc wo (.cells #[] 3)
      have hq2 := OwnI.lit wo.heap.size wo (Nat.le_refl _) [] (by simp [maxLen]) #[] rfl 0 rfl
      have hBo := bw.size
      have R3 := hr.add (i := (2, 0)) (r' := rowI (.slice (some ⟨wo.heap.size, 0, none⟩) 0 0) []) hal2 (hq2.mono hBo) (fun k hk => (hq2.lt k hk).1)
      have b3 := bw.trans (hal2.mono hBo)
      have hF0 : FN (upd f (2, 0) (some (rowI (.slice (some ⟨wo.heap.size, 0, none⟩) 0 0) []))) (.slice oa on oc) (.slice (some ⟨wo.heap.size, 0, none⟩) 0 0) G.length (fun _ => -1) [] :=
        ⟨by rw [upd_ne _ _ (by simp)]; exact hf, by rw [upd_same]; rfl⟩
      obtain ⟨W3, hW3⟩ : ∃ W3 : World, W3 = wo.alloc (.cells #[] 3) := ⟨_, rfl⟩
      rw [← hW3] at R3 b3
      obtain ⟨q2, hq2e⟩ : ∃ q2, q2 = wo.heap.size := ⟨_, rfl⟩
      rw [← hq2e] at R3 hF0
      replace R3 := Lib.hid R3
      replace hq2 := Lib.hid hq2
      replace hr := Lib.hid hr
      replace hO := Lib.hid hO
      replace hf := Lib.hid hf
      go_wp2_with fail
      rw [← hW3, ← hq2e]
      clear hW3 hq2e hal2 hq2 hO hr
      go_loopw [7, 8] (fun qv iv wr => ∃ (D : Nat → Int) (q : List Nat) (f' : Names) (qw : Value), qw = qv ∧ Rows w.heap.size wr f' ∧ Below w.heap.size w wr ∧ FN f' (.slice oa on oc) qw G.length D q ∧ ((iv = .int .i64 0 ∧ D = (fun _ => -1) ∧ q = []) ∨ (iv = .int .i64 1 ∧ D = updN (fun _ => (-1 : Int)) s 0 ∧ q = [s]))) (fun _ iv _ => 1 - (intOf iv).toNat)
      case atStart => exact ⟨_, [], _, _, rfl, R3.out, b3, hF0, .inl ⟨rfl, rfl, rfl⟩⟩
      case round =>
        clear R3 hF0 b3
        obtain ⟨D, q, f1, qv, rfl, hr1, b1', h1, hcase⟩ := hrel
        obtain ⟨wo, rfl⟩ : ∃ wo : World, wo = wr := ⟨_, rfl⟩
        rcases hcase with ⟨rfl, rfl, rfl⟩ | ⟨rfl, rfl, rfl⟩
        · have hUo := hu.out.below b1'
          have iU := fun w' => hUo.idx 0 (by simp) w'
          have cU := hUo.cellD 0 (by simp)
          have iU0 : ∀ w', (Instr.indexAt 22 u (.int .i64 0)).run Tryd.prog w' = .ok (.pointer (some (valAt u 0))) w' := iU
          have cU0 : wo.cell? (valAt u 0) = some (.int .i64 s) := cU
          have cUw := hu.out.cellD 0 (by simp)
          have cUw0 : w.cell? (valAt u 0) = some (.int .i64 s) := cUw
          clear iU cU cUw
          have hOC := hr1.ownI h1.came
          have iC := fun w' => hOC.at.idx s (by rw [tabI_len]; exact hs) w'
          have cC := hOC.at.cellD s (by rw [tabI_len]; exact hs)
          have fC := hOC.frz s (by rw [tabI_len]; exact hs)
          have kC := (hOC.toV.blkB s (by rw [List.length_map, tabI_len]; exact hs)).2
          obtain ⟨f5, hr5, h5, k5⟩ := h1.set hr1 s hs 0
          have b6 : Below w.heap.size w (wo.setCell (valAt (.slice oa on oc) s) (.int .i64 0)) := b1'.setCell kC _
          have cU5 := (b6.cell (World.block_lt_of_cell? _ _ cUw0)).trans cUw0
          generalize valAt (.slice oa on oc) s = ta at *
          generalize valAt u 0 = ua at *
          replace hr1 := Lib.hid hr1
          replace hr5 := Lib.hid hr5
          replace hOC := Lib.hid hOC
          replace hUo := Lib.hid hUo
          replace k5 := Lib.hid k5
          replace cUw0 := Lib.hid cUw0
          go_upto_region 11 with fail
          obtain ⟨W5, hW5⟩ : ∃ W5 : World, W5 = wo.setCell ta (.int .i64 0) := ⟨_, rfl⟩
          rw [← hW5]
          rw [← hW5] at hr5 b6 cU5
          clear hW5 iC cC fC cU0
          have hOQ5 := hr5.out.ownI h5.queue
          have hB5 : w.heap.size ≤ W5.heap.size := b6.size
          go_wp2_with (at_builtin; refine wpl_app1 rfl _ _ rfl w.heap.size qv (castI []) s hOQ5 rfl rfl (by rw [castI_len]; simp) hB5 ?_)
          intro qv' w7 ho7 b7 hal7
          obtain ⟨f7, hr7, h7, k7⟩ := h5.push hr5.out s ho7 hal7
          replace hr7 := Lib.hid hr7
          replace ho7 := Lib.hid ho7
          replace k7 := Lib.hid k7
          clear hal7
          go_wp2
          go_roundw
          case measure => simp [intOf]
          case rel => exact ⟨_, _, f7, qv', rfl, hr7.out, b6.trans b7, h7, .inr ⟨by go_num, rfl, rfl⟩⟩
        · have hinit := FBase.init (adjOf G) s
          replace hinit := Lib.hid hinit
          replace hr1 := Lib.hid hr1
          go_wp2_with fail
          go_loopw [7, 9] (fun qv iv wr => ∃ (i : Nat) (D : Nat → Int) (q : List Nat) (f' : Names) (qw : Value), qw = qv ∧ iv = .int .i64 i ∧ i ≤ q.length ∧ Rows w.heap.size wr f' ∧ Below w.heap.size w wr ∧ FN f' (.slice oa on oc) qw G.length D q ∧ FBase (adjOf G) s D q i i ∧ (∀ x ∈ q, x < G.length) ∧ ∀ x, D x + 1 ≤ q.length) (fun _ iv _ => G.length + 1 - (intOf iv).toNat)
          case atStart => exact ⟨0, _, [s], _, _, rfl, rfl, by simp, hr1.out, b1', h1, hinit.out, fun x hx => by cases List.mem_singleton.1 hx; exact hs, fun x => by
            by_cases e : x = s
            · subst e; rw [updN_same]; simp
            · rw [updN_other _ _ _ e]; simp⟩
          case round =>
            clear hinit hr1 h1 b1'
            obtain ⟨i, D, q, f1, qv, rfl, rfl, hi, hr1, b1', h1, hO, hqn, hDq⟩ := hrel
            obtain ⟨wo, rfl⟩ : ∃ wo : World, wo = wr := ⟨_, rfl⟩
            have hql := nodup_len G.length q hO.nodup hqn
            have hOQ := hr1.ownI h1.queue
            have lQ := hOQ.at.len
            rw [castI_len] at lQ
            by_cases hil : i < q.length
            · obtain ⟨v, hv⟩ : ∃ v, q[i]? = some v := ⟨_, List.getElem?_eq_getElem hil⟩
              have hvn := hqn v (List.mem_of_getElem? hv)
              have iV := fun w' => hOQ.at.idx i (by rw [castI_len]; exact hil) w'
              have cV := hOQ.at.cellD i (by rw [castI_len]; exact hil)
              rw [castI_get hv] at cV
              obtain ⟨mv, iR, cR0, hM0⟩ := h.out.row v hvn
              have hgx := hsz.out v hvn
              have hgp := hok.out v hvn
              have hadj : adjOf G v = (G.getD v []).map Int.toNat := rfl
              have hIn := hO.enter hv
              rw [← List.drop_zero (l := adjOf G v)] at hIn
              generalize G.getD v [] = gx at *
              have lM := hM0.len
              generalize valAt qv i = qa at *
              generalize valAt (.slice na G.length nc) v = ra at *
              have hvq := List.mem_of_getElem? hv
              replace hr1 := Lib.hid hr1
              replace hOQ := Lib.hid hOQ
              replace hM0 := Lib.hid hM0
              replace cR0 := Lib.hid cR0
              replace hO := Lib.hid hO
              replace hqn := Lib.hid hqn
              replace hgp := Lib.hid hgp
              replace hadj := Lib.hid hadj
              replace hv := Lib.hid hv
              replace hIn := Lib.hid hIn
              replace hDq := Lib.hid hDq
              replace hvq := Lib.hid hvq
              go_wp2_with fail
              clear iV cV lQ
              go_loopw [7, 11] (fun qv jv wr => ∃ (j : Nat) (D : Nat → Int) (q : List Nat) (f' : Names) (qw : Value), qw = qv ∧ jv = .int .i64 j ∧ j ≤ gx.length ∧ Rows w.heap.size wr f' ∧ Below w.heap.size w wr ∧ FN f' (.slice oa on oc) qw G.length D q ∧ FIn (adjOf G) s D q i v ((adjOf G v).drop j) ∧ (∀ x ∈ q, x < G.length) ∧ ∀ x, D x + 1 ≤ q.length) (fun _ jv _ => gx.length - (intOf jv).toNat)
              case atStart => exact ⟨0, D, q, f1, qv, rfl, rfl, by omega, hr1.out, b1', h1, hIn.out, hqn.out, hDq.out⟩
              case round =>
                clear hIn hr1 h1 hi hil hO hqn hv hOQ hDq hvq b1' hql
                obtain ⟨j, D, q, f4, qv, rfl, rfl, hj, hr4, b5, h4, hIn, hqn, hDq⟩ := hrel
                obtain ⟨wo, rfl⟩ : ∃ wo : World, wo = wr := ⟨_, rfl⟩
                have cR := (b5.cell (World.block_lt_of_cell? _ _ cR0.out)).trans cR0.out
                have hal : (adjOf G v).length = gx.length := by rw [hadj.out]; simp
                by_cases hjl : j < gx.length
                · obtain ⟨t, ht⟩ : ∃ t, (adjOf G v)[j]? = some t := ⟨_, List.getElem?_eq_getElem (by omega)⟩
                  have hdr : (adjOf G v).drop j = t :: (adjOf G v).drop (j + 1) := by
                    rw [List.drop_eq_getElem_cons (by omega)]
                    rw [List.getElem?_eq_getElem (by omega)] at ht
                    injection ht with ht
                    rw [ht]
                  have hgt : gx.getD j 0 = (t : Int) ∧ t < G.length := by
                    have hg := hgp.out gx[j] (List.getElem_mem hjl)
                    have e := ht
                    rw [hadj.out, List.getElem?_map, List.getElem?_eq_getElem hjl] at e
                    injection e with e
                    rw [List.getD_eq_getElem?_getD, List.getElem?_eq_getElem hjl, Option.getD_some]
                    omega
                  obtain ⟨hgd, htn⟩ := hgt
                  have hMj := hM0.out.below b5
                  have iT := fun w' => hMj.idx j hjl w'
                  have cT := hMj.cellD j hjl
                  rw [hgd] at cT
                  rw [hdr] at hIn
                  have hvq := List.mem_of_getElem? hIn.cur
                  have hvl := hqn v hvq
                  have hOC := hr4.ownI h4.came
                  have iC := fun w' => hOC.at.idx t (by rw [tabI_len]; exact htn) w'
                  have cC := hOC.at.cellD t (by rw [tabI_len]; exact htn)
                  rw [tabI_get _ _ _ htn] at cC
                  have iD := fun w' => hOC.at.idx v (by rw [tabI_len]; exact hvl) w'
                  have cD := hOC.at.cellD v (by rw [tabI_len]; exact hvl)
                  rw [tabI_get _ _ _ hvl] at cD
                  have fC := hOC.frz t (by rw [tabI_len]; exact htn)
                  have kC := (hOC.toV.blkB t (by rw [List.length_map, tabI_len]; exact htn)).2
                  obtain ⟨f5, hr5, h5, k5⟩ := h4.set hr4 t htn (D v + 1)
                  have b6 : Below w.heap.size w (wo.setCell (valAt (.slice oa on oc) t) (.int .i64 (D v + 1))) := b5.setCell kC _
                  have hql2 := nodup_len G.length q hIn.base.nodup hqn
                  have hDv := hDq v
                  have hDv0 := (hIn.base.there v).2 hvq
                  have hwr : IntKind.i64.wrap (D v + 1) = D v + 1 := wrapK (by omega) (by omega)
                  have hDt := hIn.base.low t
                  generalize valAt mv j = ja at *
                  generalize valAt (.slice oa on oc) t = ta at *
                  generalize valAt (.slice oa on oc) v = va at *
                  by_cases htc : D t < 0
                  · have hadd := hIn.add htc
                    have hqn2 : ∀ x ∈ q ++ [t], x < G.length := fun x hx => by
                      rcases List.mem_append.1 hx with hx | hx
                      · exact hqn x hx
                      · cases List.mem_singleton.1 hx; exact htn
                    have hDq2 : ∀ x, updN D t (D v + 1) x + 1 ≤ ((q ++ [t]).length : Nat) := fun x => by
                      rw [List.length_append, List.length_singleton]
                      by_cases e : x = t
                      · subst e; rw [updN_same]; omega
                      · rw [updN_other _ _ _ e]; have := hDq x; omega
                    obtain ⟨dv, hdv⟩ : ∃ dv, D v = dv := ⟨_, rfl⟩
                    rw [hdv] at cD hwr hDv hDv0 hr5 b6
                    replace hadd := Lib.hid hadd
                    replace hqn2 := Lib.hid hqn2
                    replace hDq2 := Lib.hid hDq2
                    replace hDq := Lib.hid hDq
                    replace hIn := Lib.hid hIn
                    replace hqn := Lib.hid hqn
                    replace hr4 := Lib.hid hr4
                    replace hr5 := Lib.hid hr5
                    replace hOC := Lib.hid hOC
                    replace hMj := Lib.hid hMj
                    replace hdr := Lib.hid hdr
                    replace hgd := Lib.hid hgd
                    replace ht := Lib.hid ht
                    replace k5 := Lib.hid k5
                    replace hal := Lib.hid hal
                    obtain ⟨dt, hdt⟩ : ∃ dt, D t = dt := ⟨_, rfl⟩
                    rw [hdt] at cC htc hDt
                    replace hdv := Lib.hid hdv
                    replace hdt := Lib.hid hdt
                    go_upto_region 22 with fail
                    obtain ⟨W5, hW5⟩ : ∃ W5 : World, W5 = wo.setCell ta (.int .i64 (dv + 1)) := ⟨_, rfl⟩
                    rw [← hW5]
                    rw [← hW5] at hr5 b6
                    clear hW5 iT cT iC cC fC iD cD cR
                    have hOQ5 := hr5.out.ownI h5.queue
                    have hB5 : w.heap.size ≤ W5.heap.size := b6.size
                    go_wp2_with (at_builtin; refine wpl_app1 rfl _ _ rfl w.heap.size qv (castI q) t hOQ5 rfl rfl (by rw [castI_len]; omega) hB5 ?_)
                    intro qv' w7 ho7 b7 hal7
                    obtain ⟨f7, hr7, h7, k7⟩ := h5.push hr5.out t ho7 hal7
                    replace hr7 := Lib.hid hr7
                    replace ho7 := Lib.hid ho7
                    replace k7 := Lib.hid k7
                    clear hal7
                    go_wp2
                    go_roundw
                    case measure => simp [intOf]; omega
                    case rel => exact ⟨j + 1, _, _, f7, qv', rfl, by go_num, by omega, hr7.out, b6.trans b7, h7, hadd.out, hqn2.out, hDq2.out⟩
                  · have hold := hIn.old (by omega)
                    replace hold := Lib.hid hold
                    replace hDq := Lib.hid hDq
                    replace hIn := Lib.hid hIn
                    replace hqn := Lib.hid hqn
                    replace hr4 := Lib.hid hr4
                    replace hr5 := Lib.hid hr5
                    replace hOC := Lib.hid hOC
                    replace hMj := Lib.hid hMj
                    replace hdr := Lib.hid hdr
                    replace hgd := Lib.hid hgd
                    replace ht := Lib.hid ht
                    replace k5 := Lib.hid k5
                    replace hal := Lib.hid hal
                    obtain ⟨dt, hdt⟩ : ∃ dt, D t = dt := ⟨_, rfl⟩
                    rw [hdt] at cC htc hDt
                    replace hdt := Lib.hid hdt
                    go_wp2
                    go_roundw
                    case measure => simp [intOf]; omega
                    case rel => exact ⟨j + 1, D, q, f4, qv, rfl, by go_num, by omega, hr4.out, b5, h4, hold.out, hqn.out, hDq.out⟩
                · obtain rfl : j = gx.length := by omega
                  rw [List.drop_eq_nil_of_le (by omega)] at hIn
                  have hOut := hIn.leave
                  have hil := get_of hIn.cur
                  have hql2 := nodup_len G.length q hIn.base.nodup hqn
                  replace hOut := Lib.hid hOut
                  replace hDq := Lib.hid hDq
                  replace hIn := Lib.hid hIn
                  replace hqn := Lib.hid hqn
                  replace hr4 := Lib.hid hr4
                  replace hal := Lib.hid hal
                  go_wp2
                  go_roundw
                  case measure => simp [intOf]; omega
                  case rel => exact ⟨i + 1, D, q, f4, qv, rfl, by go_num, by omega, hr4.out, b5, h4, hOut.out, hqn.out, hDq.out⟩
            · obtain rfl : i = q.length := by omega
              have hend := hO.end_ (Nat.le_refl _) G.length
              have hDn : ∀ t, D t + 1 ≤ G.length := fun t => by have := hDq t; omega
              replace hDn := Lib.hid hDn
              have hOC := hr1.ownI h1.came
              replace hend := Lib.hid hend
              replace hOC := Lib.hid hOC
              replace hO := Lib.hid hO
              replace hr1 := Lib.hid hr1
              replace hOQ := Lib.hid hOQ
              replace hDq := Lib.hid hDq
              replace hqn := Lib.hid hqn
              go_wp2
              go_ret
              exact ⟨_, rfl, b1', D, hend.out, hDn.out, hOC.out⟩
end Go.Proofs.YtdldadgnggaopaaDoor

namespace Go.Proofs.YtdldadgnggaopaaDoor
open Go.RowKit
set_option maxRecDepth 100000

theorem turned_way {G H : List (List Int)} (h : TurnedOf G H) (hok : GraphOk G) {x y : Nat} {w : List Nat} (hw : Way (adjOf G) x y w) (hx : x < G.length) : Way (adjOf H) y x w.reverse := by
  induction hw with
  | one => exact .one _
  | @cons x t y w ht hw ih =>
    have htn := hok.lt x hx t ht
    rw [List.reverse_cons]
    exact (ih htn).snoc ((turned_adj h hok htn).2 ⟨hx, ht⟩)
theorem way_turned {G H : List (List Int)} (h : TurnedOf G H) (hok : GraphOk G) {x y : Nat} {w : List Nat} (hw : Way (adjOf H) x y w) (hx : x < G.length) : Way (adjOf G) y x w.reverse := by
  induction hw with
  | one => exact .one _
  | @cons x t y w ht hw ih =>
    obtain ⟨htn, hxt⟩ := (turned_adj h hok hx).1 ht
    rw [List.reverse_cons]
    exact (ih htn).snoc hxt
theorem far_to {G H : List (List Int)} (h : TurnedOf G H) (hok : GraphOk G) {s : Nat} (hs : s < G.length) {D : Nat → Int} (hf : FarOf G.length (adjOf H) s D) : ToOf G.length (adjOf G) s D := by
  intro t ht
  rcases hf t ht with ⟨h1, h2⟩ | ⟨w, h1, h2, h3⟩
  · exact .inl ⟨h1, fun q => h2 (goes_turned h hok q ht)⟩
  · refine .inr ⟨w.reverse, way_turned h hok h1 hs, by simpa using h2, fun u hu => ?_⟩
    have := h3 _ (turned_way h hok hu ht)
    simpa using this

/-- The least of the first k neighbours that are nearer by one. -/
def BestTo (l : List Nat) (D : Nat → Int) (d : Int) (k : Nat) (b : Int) : Prop :=
  (b = -1 ∧ ∀ t ∈ l.take k, D t ≠ d) ∨ ∃ m : Nat, b = m ∧ m ∈ l.take k ∧ D m = d ∧ ∀ t ∈ l.take k, D t = d → m ≤ t
theorem BestTo.zero (l : List Nat) (D : Nat → Int) (d : Int) : BestTo l D d 0 (-1) := .inl ⟨rfl, fun t ht => by simp at ht⟩
theorem BestTo.low {l : List Nat} {D : Nat → Int} {d : Int} {k : Nat} {b : Int} (h : BestTo l D d k b) : -1 ≤ b := by
  rcases h with ⟨h, _⟩ | ⟨m, h, _⟩ <;> omega
theorem take_mem {l : List Nat} {k t : Nat} (ht : l[k]? = some t) (x : Nat) : x ∈ l.take (k + 1) ↔ x ∈ l.take k ∨ x = t := by
  rw [List.take_add_one, ht]; simp
theorem BestTo.skip {l : List Nat} {D : Nat → Int} {d : Int} {k : Nat} {b : Int} (h : BestTo l D d k b) {t : Nat} (ht : l[k]? = some t) (hd : D t ≠ d) : BestTo l D d (k + 1) b := by
  rcases h with ⟨h1, h2⟩ | ⟨m, h1, h2, h3, h4⟩
  · refine .inl ⟨h1, fun x hx => ?_⟩
    rcases (take_mem ht x).1 hx with hx | rfl
    · exact h2 x hx
    · exact hd
  · refine .inr ⟨m, h1, (take_mem ht m).2 (.inl h2), h3, fun x hx hxd => ?_⟩
    rcases (take_mem ht x).1 hx with hx | rfl
    · exact h4 x hx hxd
    · exact absurd hxd hd
theorem BestTo.take {l : List Nat} {D : Nat → Int} {d : Int} {k : Nat} {b : Int} (h : BestTo l D d k b) {t : Nat} (ht : l[k]? = some t) (hd : D t = d) (hb : b < 0 ∨ (t : Int) < b) : BestTo l D d (k + 1) t := by
  refine .inr ⟨t, rfl, (take_mem ht t).2 (.inr rfl), hd, fun x hx hxd => ?_⟩
  rcases (take_mem ht x).1 hx with hx | rfl
  · rcases h with ⟨h1, h2⟩ | ⟨m, h1, h2, h3, h4⟩
    · exact absurd hxd (h2 x hx)
    · have := h4 x hx hxd; omega
  · exact Nat.le_refl _
theorem BestTo.stay {l : List Nat} {D : Nat → Int} {d : Int} {k : Nat} {b : Int} (h : BestTo l D d k b) {t : Nat} (ht : l[k]? = some t) (hb : 0 ≤ b) (hbt : b ≤ t) : BestTo l D d (k + 1) b := by
  rcases h with ⟨h1, h2⟩ | ⟨m, h1, h2, h3, h4⟩
  · omega
  · refine .inr ⟨m, h1, (take_mem ht m).2 (.inl h2), h3, fun x hx hxd => ?_⟩
    rcases (take_mem ht x).1 hx with hx | rfl
    · exact h4 x hx hxd
    · omega

/-- Where the way stands. -/
structure Down (n : Nat) (adj : Nat → List Nat) (x y : Nat) (D : Nat → Int) (out : List Nat) (v : Nat) : Prop where
  low : v < n
  there : 0 ≤ D v
  len : (out.length : Int) + D v = D x + 1
  last : ∃ pre, out = pre ++ [v]
  ext : ∀ u, IsFirst adj v y u → ∀ pre, out = pre ++ [v] → IsFirst adj x y (pre ++ u)
theorem Down.start {n : Nat} {adj : Nat → List Nat} {x y : Nat} {D : Nat → Int} (hx : x < n) (h0 : 0 ≤ D x) : Down n adj x y D [x] x :=
  ⟨hx, h0, by simp; omega, ⟨[], rfl⟩, fun u hu pre hp => by
    cases pre with
    | nil => exact hu
    | cons a pre => simp at hp⟩
theorem Down.next {n : Nat} {adj : Nat → List Nat} {x y : Nat} {D : Nat → Int} {out : List Nat} {v m : Nat} (h : Down n adj x y D out v) (hT : ToOf n adj y D) (hlt : ∀ v, v < n → ∀ t ∈ adj v, t < n) (hm : m ∈ adj v) (hd : D m = D v - 1) (h1 : 1 ≤ D v)
    (hmin : ∀ t ∈ adj v, D t = D v - 1 → m ≤ t) : Down n adj x y D (out ++ [m]) m := by
  refine ⟨hlt v h.low m hm, by omega, by rw [List.length_append, List.length_singleton]; have := h.len; omega, ⟨out, rfl⟩, fun u hu pre hp => ?_⟩
  have hp2 : out = pre := List.append_inj_left' hp rfl
  subst hp2
  obtain ⟨pre, hpre⟩ := h.last
  have := h.ext (v :: u) (step_first hT hlt h.low hm hd (by omega) hmin hu) pre hpre
  rw [hpre, List.append_assoc]
  exact this
theorem IsFirst.one (adj : Nat → List Nat) (y : Nat) : IsFirst adj y y [y] := by
  refine ⟨.one y, fun u hu => hu.pos, fun u hu hl => ?_⟩
  obtain ⟨w, rfl⟩ := hu.ne
  cases w with
  | nil => exact lexLe_refl _
  | cons a w => simp at hl
theorem Down.stop {n : Nat} {adj : Nat → List Nat} {x y : Nat} {D : Nat → Int} {out : List Nat} (h : Down n adj x y D out y) : IsFirst adj x y out := by
  obtain ⟨pre, hpre⟩ := h.last
  rw [hpre]
  exact h.ext [y] (IsFirst.one adj y) pre hpre

theorem row_push {B : Nat} {w w1 : World} {f : Names} {i : Nat × Nat} {qv qv' : Value} {q : List Nat} (hr : Rows B w f) (hf : f i = some (rowI qv (castI q))) (t : Nat) (ho : OwnI B w1 qv' (castI q ++ [(t : Int)]))
    (hal : (roomOf qv' = roomOf qv ∧ w.grownBy w1 qv.ownBlock) ∨ (∃ k, qv'.ownBlock = some k ∧ w.heap.size ≤ k ∧ w.grownBy w1 none)) : Rows B w1 (upd f i (some (rowI qv' (castI (q ++ [t]))))) := by
  have hO := hr.ownI hf
  have hg : w.grownBy w1 qv.ownBlock := grown_via (hal.imp (·.2) (fun ⟨_, _, _, q⟩ => q))
  have hob : qv'.ownBlock = qv.ownBlock ∨ ∃ k, qv'.ownBlock = some k ∧ w.heap.size ≤ k := by
    rcases hal with ⟨q, _⟩ | ⟨k, h1, h2, _⟩
    · obtain ⟨a1, n1, c1, e1⟩ := hO.at.shape
      obtain ⟨a2, n2, c2, e2⟩ := ho.at.shape
      exact .inl (ownBlock_of_room e1 e2 q)
    · exact .inr ⟨k, h1, h2⟩
  have := hr.grown (r' := rowI qv' (castI q ++ [(t : Int)])) hf hg ho hob
  rwa [← castI_snoc] at this

set_option maxHeartbeats 4000000 in
theorem ref_way (na : Option Addr) (nc : Nat) (G : List (List Int)) (x y : Nat) (w : World) (h : ListsAt w (.slice na G.length nc) G) (hok : GraphOk G) (hn : G.length ≤ 8200) (harr : arrowsTo G G.length ≤ 262144) (hx : x < G.length) (hy : y < G.length) :
    Calls Tryd.prog 73 #[.slice na G.length nc, .int .i64 x, .int .i64 y] w (Ret1 (FirstPost w (adjOf G) x y) w) := by
  have hlen : ∀ k, k < G.length → (G.getD k []).length ≤ 262144 := fun k hk => by
    have := arrowsTo_mono G (show k + 1 ≤ G.length by omega)
    simp only [arrowsTo] at this; omega
  replace h := Lib.hid h
  replace hok := Lib.hid hok
  replace hlen := Lib.hid hlen
  go_enter Tryd.func73, Tryd.ntmps73
  go_wp2_with fail
  refine (ref_turned na nc G w h.out hok.out hn harr).mono ?_
  rintro e w1 ⟨hv, rfl, b1, H, hT, hH⟩
  replace hH := hH.at
  obtain ⟨ha, hc, rfl⟩ := hH.shape
  have hHl : H.length = G.length := hT.t.1
  have hHok := turned_ok hT.t
  have hHsz : ∀ k, k < H.length → (H.getD k []).length ≤ 17592186044416 := fun k hk => by
    have := hT.t.2.1 k (by omega); omega
  have ba := belowAlloc w1 (.cells #[.int .i64 (y : Int)] 3)
  have hu := (OwnI.lit w1.heap.size w1 (Nat.le_refl _) [(y : Int)] (by simp [maxLen]) #[.int .i64 (y : Int)] rfl 1 rfl).at
  have hfar := ref_far ha hc H (.slice (some ⟨w1.heap.size, 0, none⟩) 1 1) y _ (hH.below ba) hu hHok (by omega) (by omega) hHsz
  rw [hHl] at hfar
  replace hfar := Lib.hid hfar
  replace hT := Lib.hid hT
  replace hH := Lib.hid hH
  replace hHok := Lib.hid hHok
  replace hHsz := Lib.hid hHsz
  replace hu := Lib.hid hu
  go_wp2_with fail
  refine hfar.out.mono ?_
  rintro e w2 ⟨dv, rfl, b2, D, hD, hDn, hO⟩
  clear hfar
  have b02 := Below.step (Below.step b1 ba) b2
  have hTo := far_to hT.out.t hok.out hy hD
  have hOl := hO.mono (Nat.le_trans b1.size ba.size)
  have lD := hOl.at.len
  rw [tabI_len] at lD
  have iX := fun w' => hOl.at.idx x (by rw [tabI_len]; exact hx) w'
  have cX := hOl.at.cellD x (by rw [tabI_len]; exact hx)
  rw [tabI_get _ _ _ hx] at cX
  have hlow := hTo.low hx
  have hDx := hDn x
  have hposx := hTo.pos hx
  obtain ⟨da, dn, dc, rfl⟩ := hOl.at.shape
  have R0 := (rowsE w.heap.size _).add (i := (2, 0)) (r' := rowI (.slice da dn dc) (tabI G.length D)) b2 hOl (fun k hk => (hO.lt k hk).1)
  replace R0 := Lib.hid R0
  generalize valAt (.slice da dn dc) x = xa at *
  obtain ⟨dx, hdx⟩ : ∃ dx, D x = dx := ⟨_, rfl⟩
  rw [hdx] at cX hlow hDx hposx
  replace hO := Lib.hid hO
  replace hD := Lib.hid hD
  replace hDn := Lib.hid hDn
  replace hTo := Lib.hid hTo
  replace hdx := Lib.hid hdx
  by_cases hneg : dx < 0
  · have hno : ¬ Goes (adjOf G) x y := fun q => by have := hposx.2 q; omega
    replace hno := Lib.hid hno
    replace hOl := Lib.hid hOl
    clear hposx
    go_wp2
    go_ret
    exact ⟨_, rfl, b02, .inr ⟨hno.out, rfl⟩⟩
  · clear hposx
    have hal2 := belowAlloc w2 (.cells #[.int .i64 (x : Int)] 3)
    have hq2 := OwnI.lit w2.heap.size w2 (Nat.le_refl _) [(x : Int)] (by simp [maxLen]) #[.int .i64 (x : Int)] rfl 1 rfl
    have hB2 := b02.size
    have R1 := R0.out
    have R2 := R1.add (i := (1, 0)) (r' := rowI (.slice (some ⟨w2.heap.size, 0, none⟩) 1 1) [(x : Int)]) hal2 (hq2.mono hB2) (fun k hk => (hq2.lt k hk).1)
    have b3 := b02.trans (hal2.mono hB2)
    replace R2 := Lib.hid R2
    replace R1 := Lib.hid R1
    replace hq2 := Lib.hid hq2
    replace hOl := Lib.hid hOl
    go_wp2_with fail
    obtain ⟨W3, hW3⟩ : ∃ W3 : World, W3 = w2.alloc (.cells #[.int .i64 (x : Int)] 3) := ⟨_, rfl⟩
    rw [← hW3] at R2 b3 ⊢
    obtain ⟨q2, hq2e⟩ : ∃ q2, q2 = w2.heap.size := ⟨_, rfl⟩
    rw [← hq2e] at R2 ⊢
    clear hW3 hq2e hal2 hq2 R1 R0 iX cX
    go_loopw [8, 9] (fun ov vv wr => ∃ (v : Nat) (out : List Nat) (f : Names) (qw : Value), qw = ov ∧ vv = .int .i64 v ∧ Rows w.heap.size wr f ∧ Below w.heap.size w wr ∧ f (1, 0) = some (rowI qw (castI out)) ∧ f (2, 0) = some (rowI (.slice da dn dc) (tabI G.length D)) ∧ Down G.length (adjOf G) x y D out v) (fun _ vv _ => (D (intOf vv).toNat).toNat)
    case atStart => exact ⟨x, [x], _, _, rfl, rfl, R2.out, b3, upd_same _ _ _, by rw [upd_ne _ _ (by simp), upd_same], Down.start hx (by rw [hdx.out]; omega)⟩
    case round =>
      clear R2 b3
      obtain ⟨v, out, f, ov, rfl, rfl, hr, bw, hf1, hf2, hdn⟩ := hrel
      obtain ⟨wo, rfl⟩ : ∃ wo : World, wo = wr := ⟨_, rfl⟩
      have hoo := hr.ownI hf1
      by_cases hvy : v = y
      · subst hvy
        have hst := hdn.stop
        replace hst := Lib.hid hst
        replace hr := Lib.hid hr
        replace hdn := Lib.hid hdn
        replace hf1 := Lib.hid hf1
        replace hf2 := Lib.hid hf2
        replace hoo := Lib.hid hoo
        go_wp2
        go_ret
        exact ⟨_, rfl, bw, .inl ⟨out, hst.out, hoo.out⟩⟩
      · have hne : ((v : Int) != (y : Int)) = true := by rw [bne_iff_ne]; omega
        obtain ⟨h1v, t0, ht0, hdt0⟩ := hTo.out.next hok.out.lt hdn.low hvy hdn.there
        have hvn := hdn.low
        have hDv := hDn.out v
        have hol : out.length ≤ 10000 := by have := hdn.len; have := hdn.there; have := hDn.out x; omega
        obtain ⟨mv, iR, cR0, hM0⟩ := h.out.row v hvn
        have hgx := hlen.out v hvn
        have hgp := hok.out v hvn
        have hadj : adjOf G v = (G.getD v []).map Int.toNat := rfl
        have hbest := BestTo.zero (adjOf G v) D (D v - 1)
        generalize G.getD v [] = gx at *
        have lM := hM0.len
        generalize valAt (.slice na G.length nc) v = ra at *
        have hOl := hr.ownI hf2
        have iV := fun w' => hOl.at.idx v (by rw [tabI_len]; exact hvn) w'
        have cV := hOl.at.cellD v (by rw [tabI_len]; exact hvn)
        rw [tabI_get _ _ _ hvn] at cV
        have cR := (bw.cell (World.block_lt_of_cell? _ _ cR0)).trans cR0
        have hwr : IntKind.i64.wrap (D v - 1) = D v - 1 := wrapK (by omega) (by omega)
        have hMo := hM0.below bw
        generalize valAt (.slice da dn dc) v = va at *
        obtain ⟨d, hd⟩ : ∃ d, D v = d := ⟨_, rfl⟩
        rw [hd] at cV hwr h1v hDv hdt0 hbest
        replace hd := Lib.hid hd
        replace hr := Lib.hid hr
        replace hdn := Lib.hid hdn
        replace hf1 := Lib.hid hf1
        replace hf2 := Lib.hid hf2
        replace hoo := Lib.hid hoo
        replace hOl := Lib.hid hOl
        replace hM0 := Lib.hid hM0
        replace hMo := Lib.hid hMo
        replace cR0 := Lib.hid cR0
        replace hgp := Lib.hid hgp
        replace hadj := Lib.hid hadj
        replace hbest := Lib.hid hbest
        replace ht0 := Lib.hid ht0
        replace hdt0 := Lib.hid hdt0
        go_wp2_with fail
        go_loopw [10, 11] (fun bv kv wr => ∃ (k n : Nat) (b : Int), k ≤ gx.length ∧ kv = .int .i64 k ∧ bv = .int .i64 b ∧ BestTo (adjOf G v) D (d - 1) k b ∧ wr = wo.drewN n) (fun _ kv _ => gx.length - (intOf kv).toNat)
        case atStart => exact ⟨0, 0, -1, by omega, rfl, rfl, hbest.out, rfl⟩
        case round =>
          clear hbest
          obtain ⟨k, n, b, hk, rfl, rfl, hb, rfl⟩ := hrel
          have hbl := hb.low
          have hal : (adjOf G v).length = gx.length := by rw [hadj.out]; simp
          by_cases hkl : k < gx.length
          · obtain ⟨t, ht⟩ : ∃ t, (adjOf G v)[k]? = some t := ⟨_, List.getElem?_eq_getElem (by omega)⟩
            have hgt : gx.getD k 0 = (t : Int) ∧ t < G.length := by
              have hg := hgp.out gx[k] (List.getElem_mem hkl)
              have e := ht
              rw [hadj.out, List.getElem?_map, List.getElem?_eq_getElem hkl] at e
              injection e with e
              rw [List.getD_eq_getElem?_getD, List.getElem?_eq_getElem hkl, Option.getD_some]
              omega
            obtain ⟨hgd, htn⟩ := hgt
            have iT := fun w' => hMo.out.idx k hkl w'
            have cT := hMo.out.cellD k hkl
            rw [hgd] at cT
            have iD := fun w' => hOl.out.at.idx t (by rw [tabI_len]; exact htn) w'
            have cD := hOl.out.at.cellD t (by rw [tabI_len]; exact htn)
            rw [tabI_get _ _ _ htn] at cD
            generalize valAt mv k = ta at *
            generalize valAt (.slice da dn dc) t = tda at *
            obtain ⟨dt, hdt⟩ : ∃ dt, D t = dt := ⟨_, rfl⟩
            rw [hdt] at cD
            by_cases hdd : dt = d - 1
            · have hq : (dt == d - 1) = true := by rw [beq_iff_eq]; exact hdd
              by_cases hb0 : b < 0
              · have hnx := hb.take ht (by rw [hdt]; exact hdd) (.inl hb0)
                have hb0d : decide (b < 0) = true := by simpa using hb0
                replace hnx := Lib.hid hnx
                replace hb := Lib.hid hb
                replace ht := Lib.hid ht
                replace hgd := Lib.hid hgd
                replace hdt := Lib.hid hdt
                replace hdd := Lib.hid hdd
                go_upto_region 12 with fail
                go_quiet (fail)
                go_wp2
                go_roundw
                case measure => simp [intOf]; omega
                case rel => exact ⟨k + 1, _, _, by omega, by go_num, rfl, hnx.out, rfl⟩
              · have hb0d : decide (b < 0) = false := by simpa using hb0
                by_cases htb : (t : Int) < b
                · have hnx := hb.take ht (by rw [hdt]; exact hdd) (.inr htb)
                  have htbd : decide ((t : Int) < b) = true := by simpa using htb
                  replace hnx := Lib.hid hnx
                  replace hb := Lib.hid hb
                  replace ht := Lib.hid ht
                  replace hgd := Lib.hid hgd
                  replace hdt := Lib.hid hdt
                  replace hdd := Lib.hid hdd
                  go_upto_region 12 with fail
                  go_quiet (fail)
                  go_wp2
                  go_roundw
                  case measure => simp [intOf]; omega
                  case rel => exact ⟨k + 1, _, _, by omega, by go_num, rfl, hnx.out, rfl⟩
                · have hnx := hb.stay ht (by omega) (by omega)
                  have htbd : decide ((t : Int) < b) = false := by simpa using htb
                  replace hnx := Lib.hid hnx
                  replace hb := Lib.hid hb
                  replace ht := Lib.hid ht
                  replace hgd := Lib.hid hgd
                  replace hdt := Lib.hid hdt
                  replace hdd := Lib.hid hdd
                  go_upto_region 12 with fail
                  go_quiet (fail)
                  go_wp2
                  go_roundw
                  case measure => simp [intOf]; omega
                  case rel => exact ⟨k + 1, _, _, by omega, by go_num, rfl, hnx.out, rfl⟩
            · have hq : (dt == d - 1) = false := by rw [beq_eq_false_iff_ne]; exact hdd
              have hnx := hb.skip ht (by rw [hdt]; exact hdd)
              replace hnx := Lib.hid hnx
              replace hb := Lib.hid hb
              replace ht := Lib.hid ht
              replace hgd := Lib.hid hgd
              replace hdt := Lib.hid hdt
              replace hdd := Lib.hid hdd
              go_upto_region 12 with fail
              go_quiet (fail)
              go_wp2
              go_roundw
              case measure => simp [intOf]; omega
              case rel => exact ⟨k + 1, _, _, by omega, by go_num, rfl, hnx.out, rfl⟩
          · obtain rfl : k = gx.length := by omega
            rw [BestTo, ← hal, List.take_length] at hb
            obtain ⟨m, rfl, hm1, hm2, hm3⟩ := hb.resolve_left (fun q => q.2 t0 ht0.out hdt0.out)
            have hdn2 := hdn.out.next hTo.out hok.out.lt hm1 (by rw [hm2, hd.out]) (by rw [hd.out]; exact h1v) (fun t ht htd => hm3 t ht (by rw [htd, hd.out]))
            have hDm : D m = d - 1 := hm2
            have bwn : Below w.heap.size w (wo.drewN n) := below_drewN bw n
            have hrn : Rows w.heap.size (wo.drewN n) f := hr.out.drewN n
            have hon := hrn.ownI hf1.out
            replace hdn2 := Lib.hid hdn2
            replace hm3 := Lib.hid hm3
            replace hrn := Lib.hid hrn
            go_wp2_with (at_builtin; refine wpl_app1 rfl _ _ rfl w.heap.size ov (castI out) m hon rfl rfl (by rw [castI_len]; omega) bwn.size ?_)
            intro ov' w7 ho7 b7 hal7
            have R7 := row_push hrn.out hf1.out m ho7 hal7
            replace R7 := Lib.hid R7
            replace ho7 := Lib.hid ho7
            clear hal7
            go_wp2
            go_roundw
            case measure => simp only [intOf, Int.toNat_natCast]; rw [hDm, hd.out]; omega
            case rel => exact ⟨m, _, _, ov', rfl, rfl, R7.out, bwn.trans b7, upd_same _ _ _, by rw [upd_ne _ _ (by simp)]; exact hf2.out, hdn2.out⟩
end Go.Proofs.YtdldadgnggaopaaDoor

namespace Go.Proofs.YtdldadgnggaopaaDoor
open Go.RowKit
set_option maxRecDepth 100000

theorem err_box (w1 : World) (x0 x1 x2 : Value) :
    Below w1.heap.size w1 (w1.alloc (.cells #[x0, x1, x2] 45)) ∧ Box3 (w1.alloc (.cells #[x0, x1, x2] 45)) w1.heap.size x0 x1 x2 ∧ (w1.alloc (.cells #[x0, x1, x2] 45)).heap.size = w1.heap.size + 1 := by
  obtain ⟨y0, y1, y2, f⟩ := cells3 (Below.refl (w1.alloc (.cells #[x0, x1, x2] 45)).heap.size (w1.alloc (.cells #[x0, x1, x2] 45)))
  exact ⟨belowAlloc w1 _, ⟨⟨y0, y1, y2⟩, f⟩, by simp⟩
theorem checkG_num {G : List (List Int)} {n : Int} {l : List (ByteArray × Int)} (h : checkG G = some (n, l)) : (n != 0) = true := by
  unfold checkG at h
  split at h
  · injection h with h; injection h with h; subst h; rfl
  split at h
  · injection h with h; injection h with h; subst h; rfl
  split at h
  · injection h with h; injection h with h; subst h; rfl
  · cases h
theorem OwnI.set3 {B b : Nat} {w : World} {v : Value} {xs : List Int} (h : OwnI B w v xs) (hb : b < B) (x y z : Value) : OwnI B (((w.setCell ⟨b, 0, none⟩ x).setCell ⟨b, 1, none⟩ y).setCell ⟨b, 2, none⟩ z) v xs :=
  OwnV.toI (((h.toV.setBelowBase (a := ⟨b, 0, none⟩) hb x).setBelowBase (a := ⟨b, 1, none⟩) hb y).setBelowBase (a := ⟨b, 2, none⟩) hb z)
theorem FirstPost.set3 {w w3 w4 : World} {adj : Nat → List Nat} {a b : Nat} {v : Value} (h : FirstPost w3 adj a b v w4) {c : Nat} (hb : c < w3.heap.size) (hs : w.heap.size ≤ w3.heap.size) (x y z : Value) : FirstPost w adj a b v (((w4.setCell ⟨c, 0, none⟩ x).setCell ⟨c, 1, none⟩ y).setCell ⟨c, 2, none⟩ z) := by
  rcases h with ⟨u, h1, h2⟩ | h
  · exact .inl ⟨u, h1, (h2.set3 hb x y z).mono hs⟩
  · exact .inr h
/-- What an answer with an error leaves. -/
def RefPost (w : World) (t : PErr) (P : Value → World → Prop) (x y : Value) (w' : World) : Prop :=
  EOwn w.heap.size w' t y ∧ (t = none → P x w') ∧ (t ≠ none → x = .slice none 0 0)
end Go.Proofs.YtdldadgnggaopaaDoor

namespace Go.Proofs.YtdldadgnggaopaaDoor
theorem Goes.loop {adj : Nat → List Nat} {x y : Nat} (h : Goes adj x y) (ha : x ∈ adj y) : OnLoop adj x := by
  obtain ⟨w, hw⟩ := h.way
  cases hw with
  | one => exact ⟨x, ha, .refl x⟩
  | @cons _ t _ w ht hw => exact ⟨t, ht, .step hw.goes ha⟩
end Go.Proofs.YtdldadgnggaopaaDoor

namespace Go.Proofs.YtdldadgnggaopaaDoor

theorem Peel.swap {n : Nat} {A B : Nat → List Nat} {inn out c d : Nat → Nat} {gone : Nat → Bool} {q : List Nat} {lives : Nat → Prop} (h : Peel n A B inn out c d gone q lives) : Peel n B A out inn d c gone q lives :=
  ⟨h.deg2, h.deg1, h.nodup, h.goneq, h.low, fun v hv => (h.fresh v hv).symm, h.keep⟩
theorem LiveSet.swap {n : Nat} {A B : Nat → List Nat} {lives : Nat → Prop} (h : LiveSet n A B lives) : LiveSet n B A lives := ⟨h.ahead, h.behind⟩
/-- Between two rounds. -/
structure PS (n : Nat) (A B : Nat → List Nat) (inn out c d : Nat → Nat) (gone : Nat → Bool) (q : List Nat) (lives : Nat → Prop) (i : Nat) : Prop where
  peel : Peel n A B inn out c d gone q lives
  pos : ∀ t, t < n → gone t = false → 0 < inn t ∧ 0 < out t
  done : ∀ j x, j < i → q[j]? = some x → c x = (A x).length ∧ d x = (B x).length
  rest : ∀ j x, i ≤ j → q[j]? = some x → c x = 0 ∧ d x = 0
/-- Within a round. -/
structure Mid (n : Nat) (A B : Nat → List Nat) (inn out c d : Nat → Nat) (gone : Nat → Bool) (q : List Nat) (lives : Nat → Prop) (i v : Nat) : Prop where
  peel : Peel n A B inn out c d gone q lives
  pos : ∀ t, t < n → gone t = false → 0 < inn t ∧ 0 < out t
  cur : q[i]? = some v
  done : ∀ j x, j < i → q[j]? = some x → c x = (A x).length ∧ d x = (B x).length
  rest : ∀ j x, i < j → q[j]? = some x → c x = 0 ∧ d x = 0
section
variable {n : Nat} {A B : Nat → List Nat} {inn out c d : Nat → Nat} {gone : Nat → Bool} {q : List Nat} {lives : Nat → Prop} {i v : Nat}
theorem Mid.swap (h : Mid n A B inn out c d gone q lives i v) : Mid n B A out inn d c gone q lives i v :=
  ⟨h.peel.swap, fun t ht hg => (h.pos t ht hg).symm, h.cur, fun j x hj hx => (h.done j x hj hx).symm, fun j x hj hx => (h.rest j x hj hx).symm⟩
theorem PS.enter (h : PS n A B inn out c d gone q lives i) (hv : q[i]? = some v) : Mid n A B inn out c d gone q lives i v ∧ c v = 0 ∧ d v = 0 ∧ v < n :=
  ⟨⟨h.peel, h.pos, hv, h.done, fun j x hj hx => h.rest j x (by omega) hx⟩, (h.rest i v (Nat.le_refl _) hv).1, (h.rest i v (Nat.le_refl _) hv).2, h.peel.low v (List.mem_of_getElem? hv)⟩
theorem Mid.leave (h : Mid n A B inn out c d gone q lives i v) (hc : c v = (A v).length) (hd : d v = (B v).length) : PS n A B inn out c d gone q lives (i + 1) := by
  refine ⟨h.peel, h.pos, fun j x hj hx => ?_, fun j x hj hx => h.rest j x (by omega) hx⟩
  by_cases e : j = i
  · subst e
    rw [h.cur] at hx; cases hx
    exact ⟨hc, hd⟩
  · exact h.done j x (by omega) hx
/-- An arrow of v is gone through. -/
theorem Mid.step (h : Mid n A B inn out c d gone q lives i v) (hL : LiveSet n A B lives) {k t : Nat} (hk : c v = k) (ht : (A v)[k]? = some t) (htn : t < n) :
    0 < inn t ∧ (inn t = 1 → gone t = false → Mid n A B (updN inn t (inn t - 1)) out (updN c v (k + 1)) d (updN gone t true) (q ++ [t]) lives i v) ∧
    ((inn t = 1 → gone t = true) → Mid n A B (updN inn t (inn t - 1)) out (updN c v (k + 1)) d gone q lives i v) := by
  have hvq := List.mem_of_getElem? h.cur
  obtain ⟨h0, hp⟩ := h.peel.arrow1 hvq hk ht htn
  have hne : ∀ j x, j ≠ i → q[j]? = some x → x ≠ v := fun j x hj hx e => hj (get_inj h.peel.nodup (by rw [hx, e]) h.cur)
  have hdone : ∀ j x, j < i → q[j]? = some x → updN c v (k + 1) x = (A x).length ∧ d x = (B x).length := fun j x hj hx => by
    rw [updN_other _ _ _ (hne j x (by omega) hx)]; exact h.done j x hj hx
  have hrest : ∀ j x, i < j → q[j]? = some x → updN c v (k + 1) x = 0 ∧ d x = 0 := fun j x hj hx => by
    rw [updN_other _ _ _ (hne j x (by omega) hx)]; exact h.rest j x hj hx
  refine ⟨h0, fun h1 hg => ?_, fun h1 => ?_⟩
  · have htq : t ∉ q := fun hm => by have := (h.peel.goneq t).2 hm; rw [hg] at this; cases this
    have htv : t ≠ v := fun e => htq (by rw [e]; exact hvq)
    have hil := get_of h.cur
    have hga : ∀ j x, (q ++ [t])[j]? = some x → q[j]? = some x ∨ j = q.length ∧ x = t := fun j x hx => by
      by_cases e : j < q.length
      · rw [List.getElem?_append_left e] at hx; exact .inl hx
      · rw [List.getElem?_append_right (by omega)] at hx
        by_cases e2 : j = q.length
        · rw [e2] at hx; simp at hx; exact .inr ⟨e2, hx.symm⟩
        · rw [List.getElem?_eq_none (by simp; omega)] at hx; cases hx
    refine ⟨hp.goes hL htn hg (.inl (by rw [updN_same]; omega)), fun x hx hgx => ?_, by rw [List.getElem?_append_left hil]; exact h.cur, fun j x hj hx => ?_, fun j x hj hx => ?_⟩
    · by_cases e : x = t
      · subst e; rw [updN_same] at hgx; cases hgx
      · rw [updN_other _ _ _ e] at hgx ⊢; exact h.pos x hx hgx
    · rcases hga j x hx with hx | ⟨hj2, _⟩
      · exact hdone j x hj hx
      · omega
    · rcases hga j x hx with hx | ⟨_, rfl⟩
      · exact hrest j x hj hx
      · rw [updN_other _ _ _ htv]; exact h.peel.fresh x htq
  · refine ⟨hp, fun x hx hgx => ?_, h.cur, hdone, hrest⟩
    by_cases e : x = t
    · subst e
      rw [updN_same]
      have := (h.pos x hx hgx).2
      have : inn x ≠ 1 := fun e => by have := h1 e; rw [hgx] at this; cases this
      omega
    · rw [updN_other _ _ _ e]; exact h.pos x hx hgx
end
/-- The beginning: the first k have been looked at. -/
structure PStart (n : Nat) (A B : Nat → List Nat) (gone : Nat → Bool) (q : List Nat) (lives : Nat → Prop) (k : Nat) : Prop where
  peel : Peel n A B (fun t => (B t).length) (fun t => (A t).length) (fun _ => 0) (fun _ => 0) gone q lives
  pos : ∀ t, t < k → gone t = false → 0 < (B t).length ∧ 0 < (A t).length
  below : ∀ x ∈ q, x < k
section
variable {n : Nat} {A B : Nat → List Nat} {gone : Nat → Bool} {q : List Nat} {lives : Nat → Prop} {k : Nat}
theorem PStart.zero (hA : ∀ t, t < n → ∀ x ∈ A t, x < n) (hB : ∀ t, t < n → ∀ x ∈ B t, x < n) (hc : ∀ t v, t < n → v < n → (B t).count v = (A v).count t) : PStart n A B (fun _ => false) [] lives 0 :=
  ⟨⟨Deg.init hB (fun v t hv ht => hc t v ht hv), Deg.init hA (fun v t hv ht => (hc v t hv ht).symm), by simp, fun x => by simp, fun x hx => by simp at hx, fun _ _ => ⟨rfl, rfl⟩, fun _ _ _ => rfl⟩, fun t ht => by omega, fun x hx => by simp at hx⟩
theorem PStart.take (h : PStart n A B gone q lives k) (hL : LiveSet n A B lives) (hk : k < n) (h0 : (A k).length = 0 ∨ (B k).length = 0) : PStart n A B (updN gone k true) (q ++ [k]) lives (k + 1) := by
  have hg : gone k = false := by
    cases hgk : gone k with
    | false => rfl
    | true => have := h.below k ((h.peel.goneq k).1 hgk); omega
  refine ⟨h.peel.goes hL hk hg h0.symm, fun t ht hgt => ?_, fun x hx => ?_⟩
  · by_cases e : t = k
    · subst e; rw [updN_same] at hgt; cases hgt
    · rw [updN_other _ _ _ e] at hgt; exact h.pos t (by omega) hgt
  · rcases List.mem_append.1 hx with hx | hx
    · have := h.below x hx; omega
    · cases List.mem_singleton.1 hx; omega
theorem PStart.skip (h : PStart n A B gone q lives k) (hA : (A k).length ≠ 0) (hB : (B k).length ≠ 0) : PStart n A B gone q lives (k + 1) := by
  refine ⟨h.peel, fun t ht hgt => ?_, fun x hx => by have := h.below x hx; omega⟩
  by_cases e : t = k
  · subst e; omega
  · exact h.pos t (by omega) hgt
theorem PStart.all (h : PStart n A B gone q lives n) : PS n A B (fun t => (B t).length) (fun t => (A t).length) (fun _ => 0) (fun _ => 0) gone q lives 0 :=
  ⟨h.peel, h.pos, fun j x hj => by omega, fun _ _ _ _ => ⟨rfl, rfl⟩⟩
end
/-- Live vertices have live neighbours. -/
theorem live_set {G H : List (List Int)} (hT : TurnedOf G H) (hok : GraphOk G) : LiveSet G.length (adjOf G) (adjOf H) (IsLive G.length (adjOf G)) := by
  refine ⟨fun t ht hl => ?_, fun t ht hl => ?_⟩
  · obtain ⟨⟨u, hu, hlu, hgu⟩, w, hw, hlw, hgw⟩ := hl
    cases hgu with
    | refl =>
      obtain ⟨s, hs, hgs⟩ := hlu
      cases hgs with
      | refl => exact ⟨t, ht, ⟨⟨t, hu, ⟨t, hs, .refl t⟩, .refl t⟩, w, hw, hlw, hgw⟩, hs⟩
      | @step p _ hgp htp =>
        have hsn := hok.lt t ht s hs
        have hpn := goes_lt hok hgp hsn
        have hL : OnLoop (adjOf G) t := ⟨s, hs, .step hgp htp⟩
        exact ⟨p, hpn, ⟨⟨t, ht, hL, .trans (.one hs) hgp⟩, t, ht, hL, .one htp⟩, htp⟩
    | @step p _ hgp htp =>
      have hpn := goes_lt hok hgp hu
      exact ⟨p, hpn, ⟨⟨u, hu, hlu, hgp⟩, w, hw, hlw, .trans (.one htp) hgw⟩, htp⟩
  · obtain ⟨⟨u, hu, hlu, hgu⟩, w, hw, hlw, hgw⟩ := hl
    have key : ∀ s, s ∈ adjOf G t → (∃ w, w < G.length ∧ OnLoop (adjOf G) w ∧ Goes (adjOf G) s w) → ∃ p, p < G.length ∧ IsLive G.length (adjOf G) p ∧ t ∈ adjOf H p := fun s hs hw => by
      have hsn := hok.lt t ht s hs
      exact ⟨s, hsn, ⟨⟨u, hu, hlu, .step hgu hs⟩, hw⟩, (turned_adj hT hok hsn).2 ⟨ht, hs⟩⟩
    obtain ⟨wy, hwy⟩ := hgw.way
    cases hwy with
    | one =>
      obtain ⟨s, hs, hgs⟩ := hlw
      exact key s hs ⟨t, hw, ⟨s, hs, hgs⟩, hgs⟩
    | @cons _ s _ _ hs hwy => exact key s hs ⟨w, hw, hlw, hwy.goes⟩
/-- What is left at the end are the live vertices. -/
theorem PS.end_ {G H : List (List Int)} (hT : TurnedOf G H) (hok : GraphOk G) {inn out c d : Nat → Nat} {gone : Nat → Bool} {q : List Nat} (h : PS G.length (adjOf G) (adjOf H) inn out c d gone q (IsLive G.length (adjOf G)) q.length) :
    LiveList G.length (adjOf G) ((List.range G.length).filter fun t => !gone t) := by
  have hall : ∀ v ∈ q, c v = (adjOf G v).length ∧ d v = (adjOf H v).length := fun v hv => by
    obtain ⟨j, hj⟩ := List.mem_iff_getElem?.1 hv
    exact h.done j v (get_of hj) hj
  refine ⟨List.Pairwise.filter _ List.pairwise_lt_range, fun v => ?_⟩
  rw [List.mem_filter, List.mem_range]
  constructor
  · rintro ⟨hv, hg⟩
    have hg : gone v = false := by simpa using hg
    refine ⟨hv, ?_, ?_⟩
    · obtain ⟨u, hu, ⟨t, ht, hgt⟩, hgo⟩ := set_loop (n := G.length) (A := adjOf H) (S := fun x => x < G.length ∧ gone x = false) (fun x hx => hx.1) (fun x hx => by
        obtain ⟨⟨p, hp, hgp, hm⟩, _⟩ := h.peel.left hall h.pos hx.1 hx.2
        exact ⟨p, (turned_adj hT hok hx.1).2 ⟨hp, hm⟩, hp, hgp⟩) ⟨hv, hg⟩
      obtain ⟨htn, hut⟩ := (turned_adj hT hok hu).1 ht
      exact ⟨u, hu, (turned_goes hT hok hgt htn).loop hut, turned_goes hT hok hgo hv⟩
    · obtain ⟨u, hu, hlu, hgo⟩ := set_loop (n := G.length) (A := adjOf G) (S := fun x => x < G.length ∧ gone x = false) (fun x hx => hx.1) (fun x hx => by
        obtain ⟨_, ⟨p, hp, hgp, hm⟩⟩ := h.peel.left hall h.pos hx.1 hx.2
        exact ⟨p, ((turned_adj hT hok hp).1 hm).2, hp, hgp⟩) ⟨hv, hg⟩
      exact ⟨u, hu, hlu, hgo⟩
  · rintro ⟨hv, hl⟩
    exact ⟨hv, by rw [h.peel.keep v hv hl]; rfl⟩
end Go.Proofs.YtdldadgnggaopaaDoor

namespace Go.Proofs.YtdldadgnggaopaaDoor
open Go.RowKit
set_option maxRecDepth 100000

/-- The memory of the peeling. -/
structure LvN (f : Names) (ov iv gv qv : Value) (n : Nat) (out inn : Nat → Nat) (gone : Nat → Bool) (q : List Nat) : Prop where
  outs : f (1, 0) = some (rowI ov (tab n out))
  inns : f (2, 0) = some (rowI iv (tab n inn))
  gones : f (3, 0) = some (rowV 4 gv (tabB n gone))
  queue : f (4, 0) = some (rowI qv (castI q))
section
variable {B : Nat} {w : World} {f : Names} {ov iv gv qv : Value} {n : Nat} {out inn : Nat → Nat} {gone : Nat → Bool} {q : List Nat}
theorem LvN.setOut (h : LvN f ov iv gv qv n out inn gone q) (hr : Rows B w f) (t : Nat) (ht : t < n) (a : Nat) : ∃ f', Rows B (w.setCell (valAt ov t) (.int .i64 (a : Int))) f' ∧ LvN f' ov iv gv qv n (updN out t a) inn gone q := by
  have hs := hr.setI h.outs t (by rw [tab_len]; exact ht) (a : Int)
  rw [tab_upd] at hs
  exact ⟨_, hs, ⟨upd_same _ _ _, by rw [upd_ne _ _ (by simp)]; exact h.inns, by rw [upd_ne _ _ (by simp)]; exact h.gones, by rw [upd_ne _ _ (by simp)]; exact h.queue⟩⟩
theorem LvN.setInn (h : LvN f ov iv gv qv n out inn gone q) (hr : Rows B w f) (t : Nat) (ht : t < n) (a : Nat) : ∃ f', Rows B (w.setCell (valAt iv t) (.int .i64 (a : Int))) f' ∧ LvN f' ov iv gv qv n out (updN inn t a) gone q := by
  have hs := hr.setI h.inns t (by rw [tab_len]; exact ht) (a : Int)
  rw [tab_upd] at hs
  exact ⟨_, hs, ⟨by rw [upd_ne _ _ (by simp)]; exact h.outs, upd_same _ _ _, by rw [upd_ne _ _ (by simp)]; exact h.gones, by rw [upd_ne _ _ (by simp)]; exact h.queue⟩⟩
theorem LvN.mark (h : LvN f ov iv gv qv n out inn gone q) (hr : Rows B w f) (t : Nat) (ht : t < n) : ∃ f', Rows B (w.setCell (valAt gv t) (.bool true)) f' ∧ LvN f' ov iv gv qv n out inn (updN gone t true) q := by
  have hs := hr.setV h.gones t (by rw [tabB_len]; exact ht) (.bool true)
  rw [tabB_upd] at hs
  exact ⟨_, hs, ⟨by rw [upd_ne _ _ (by simp)]; exact h.outs, by rw [upd_ne _ _ (by simp)]; exact h.inns, upd_same _ _ _, by rw [upd_ne _ _ (by simp)]; exact h.queue⟩⟩
theorem LvN.push (h : LvN f ov iv gv qv n out inn gone q) (hr : Rows B w f) {w1 : World} {qv' : Value} (t : Nat) (ho : OwnI B w1 qv' (castI q ++ [(t : Int)]))
    (hal : (roomOf qv' = roomOf qv ∧ w.grownBy w1 qv.ownBlock) ∨ (∃ k, qv'.ownBlock = some k ∧ w.heap.size ≤ k ∧ w.grownBy w1 none)) : ∃ f', Rows B w1 f' ∧ LvN f' ov iv gv qv' n out inn gone (q ++ [t]) :=
  ⟨_, row_push hr h.queue t ho hal, ⟨by rw [upd_ne _ _ (by simp)]; exact h.outs, by rw [upd_ne _ _ (by simp)]; exact h.inns, by rw [upd_ne _ _ (by simp)]; exact h.gones, upd_same _ _ _⟩⟩
/-- A number's cell. -/
theorem tab_cell (hr : Rows B w f) {i : Nat × Nat} {v : Value} {F : Nat → Nat} (hf : f i = some (rowI v (tab n F))) (t : Nat) (ht : t < n) :
    (∀ w', (Instr.indexAt 22 v (.int .i64 (t : Int))).run Tryd.prog w' = .ok (.pointer (some (valAt v t))) w') ∧ w.cell? (valAt v t) = some (.int .i64 (F t : Int)) ∧ w.frozen? (valAt v t) = false ∧ B ≤ (valAt v t).block := by
  have hO := hr.ownI hf
  refine ⟨fun w' => hO.at.idx t (by rw [tab_len]; exact ht) w', ?_, hO.frz t (by rw [tab_len]; exact ht), (hO.toV.blkB t (by rw [List.length_map, tab_len]; exact ht)).2⟩
  rw [hO.at.cellD t (by rw [tab_len]; exact ht), tab_get _ _ _ ht]
/-- A mark's cell. -/
theorem mark_cell (hr : Rows B w f) {i : Nat × Nat} {v : Value} {F : Nat → Bool} (hf : f i = some (rowV 4 v (tabB n F))) (t : Nat) (ht : t < n) :
    (∀ w', (Instr.indexAt 38 v (.int .i64 (t : Int))).run Tryd.prog w' = .ok (.pointer (some (valAt v t))) w') ∧ w.cell? (valAt v t) = some (.bool (F t)) ∧ w.frozen? (valAt v t) = false ∧ B ≤ (valAt v t).block := by
  have hO := hr.ownV hf
  refine ⟨fun w' => hO.at.idx oneBoolG t (by rw [tabB_len]; exact ht) w', ?_, hO.frz t (by rw [tabB_len]; exact ht), (hO.blkB t (by rw [tabB_len]; exact ht)).2⟩
  rw [hO.at.cellV t (by rw [tabB_len]; exact ht), tabB_get _ _ _ ht]
end
/-- The first k are F's. -/
def fillTo (F : Nat → Nat) (k t : Nat) : Nat := if t < k then F t else 0
theorem fillTo_next (F : Nat → Nat) (k : Nat) : updN (fillTo F k) k (F k) = fillTo F (k + 1) := by
  funext t
  unfold fillTo
  by_cases e : t = k
  · subst e; rw [updN_same, if_pos (by omega)]
  · rw [updN_other _ _ _ e]
    by_cases q : t < k
    · rw [if_pos q, if_pos (by omega)]
    · rw [if_neg q, if_neg (by omega)]
theorem tab_congr {n : Nat} {f g : Nat → Nat} (h : ∀ t, t < n → f t = g t) : tab n f = tab n g := by
  unfold tab
  exact List.map_congr_left fun t ht => by rw [h t (List.mem_range.1 ht)]
theorem fillTo_all (F : Nat → Nat) (n : Nat) : tab n (fillTo F n) = tab n F := tab_congr fun t ht => by unfold fillTo; rw [if_pos ht]
theorem fillTo_zero (F : Nat → Nat) (n : Nat) : tab n (fillTo F 0) = List.replicate n 0 := by
  unfold tab
  apply List.ext_getElem
  · simp
  · intro i h1 h2; simp [fillTo]
theorem tabB_none (n : Nat) : tabB n (fun _ => false) = List.replicate n (.bool false) := by
  unfold tabB; apply List.ext_getElem <;> simp
theorem filter_next (p : Nat → Bool) (k : Nat) : (List.range (k + 1)).filter p = (List.range k).filter p ++ if p k = true then [k] else [] := by
  rw [List.range_succ, List.filter_append]
  by_cases h : p k = true
  · rw [if_pos h, List.filter_cons_of_pos h]; rfl
  · rw [if_neg h, List.filter_cons_of_neg h]; rfl
theorem castI_snoc' (l : List Nat) (k : Nat) : castI l ++ [(k : Int)] = castI (l ++ [k]) := (castI_snoc l k).symm
/-- Box3 below another block. -/
theorem Box3.keep {B : Nat} {w w' : World} {b : Nat} {x0 x1 x2 : Value} (h : Box3 w b x0 x1 x2) (hb : Below B w w') (hlt : b < B) : Box3 w' b x0 x1 x2 := h.belowB hb hlt

set_option maxHeartbeats 8000000 in
theorem ref12_live (na : Option Addr) (nc : Nat) (G : List (List Int)) (w : World) (h : ListsAt w (.slice na G.length nc) G) (hsz : ∀ k, k < G.length → (G.getD k []).length ≤ 17592186044416) :
    Calls Tryd.prog 24 #[.slice na G.length nc] w (Ret2 (RefPost w (checkG G) (fun x w' => ∃ L, LiveList G.length (adjOf G) L ∧ OwnI w.heap.size w' x (castI L))) w) := by
  have b0 := belowAlloc w (.cells #[.int .i64 0, .slice none 0 0, .slice none 0 0] 45)
  have bx : Box3 (w.alloc (.cells #[.int .i64 0, .slice none 0 0, .slice none 0 0] 45)) w.heap.size (.int .i64 0) (.slice none 0 0) (.slice none 0 0) := by
    have q := cells3 (Below.refl (w.alloc (.cells #[.int .i64 0, .slice none 0 0, .slice none 0 0] 45)).heap.size (w.alloc (.cells #[.int .i64 0, .slice none 0 0, .slice none 0 0] 45)))
    exact ⟨⟨q.1, q.2.1, q.2.2.1⟩, q.2.2.2⟩
  have hsW : (w.alloc (.cells #[.int .i64 0, .slice none 0 0, .slice none 0 0] 45)).heap.size = w.heap.size + 1 := by simp
  have hC := ref12_check na nc G _ (h.below b0) hsz
  replace hC := Lib.hid hC
  replace bx := Lib.hid bx
  replace hsW := Lib.hid hsW
  replace h := Lib.hid h
  replace hsz := Lib.hid hsz
  go_enter Tryd.func24, Tryd.ntmps24
  go_wp2_with fail
  refine hC.out.mono ?_
  rintro e w1 ⟨x, rfl, b1, he⟩
  clear hC
  obtain ⟨q, a1, n1, c1, a2, n2, c2, rfl⟩ := he.shape
  obtain ⟨bb, bx2, hs2⟩ := err_box w1 (.int .i64 q) (.slice a1 n1 c1) (.slice a2 n2 c2)
  replace he := Lib.hid he
  go_upto_region 2 with fail
  obtain ⟨W2, hW2⟩ : ∃ W2 : World, W2 = w1.alloc (.cells #[.int .i64 q, .slice a1 n1 c1, .slice a2 n2 c2] 45) := ⟨_, rfl⟩
  rw [← hW2] at bb bx2 hs2 ⊢
  clear hW2
  obtain ⟨⟨y0, y1, y2⟩, _⟩ := bx2
  obtain ⟨eb, heb⟩ : ∃ eb, eb = w1.heap.size := ⟨_, rfl⟩
  rw [← heb] at y0 y1 y2 ⊢
  clear heb
  go_wp2_with fail
  refine (err_bad q a1 n1 c1 a2 n2 c2 W2).mono ?_
  rintro e w3 ⟨x, rfl, b3, rfl⟩
  have bW3 := Below.step bb b3
  have z0 := cell_keep b3 y0
  have z1 := cell_keep b3 y1
  have z2 := cell_keep b3 y2
  clear y0 y1 y2
  have bx3 := (bx.out.below b1).below bW3
  have b03 := Below.step b0 (Below.step b1 bW3)
  have he3 := he.out.below bW3
  have hsz3 : w.heap.size < w3.heap.size := by have := hsW.out; have := b1.size; have := bW3.size; omega
  cases hck : checkG G with
  | some t =>
    obtain ⟨n, l⟩ := t
    rw [hck] at he3
    have hn := checkG_num hck
    obtain rfl : q = n := by
      obtain ⟨_, _, _, _, _, _, e, _⟩ := he3
      simp at e; exact e.1
    rw [hn]
    obtain ⟨⟨r0, r1, r2⟩, f0, f1, f2⟩ := bx3
    replace he3 := Lib.hid he3
    replace hck := Lib.hid hck
    replace he := Lib.hid he
    have hE : checkG G = some (q, l) := hck.out
    replace hE := Lib.hid hE
    go_upto_region 3 with fail
    refine wp_region_plan (fun w' => w'.cell? ⟨eb, 0, none⟩ = some (.int .i64 q) ∧ w'.cell? ⟨eb, 1, none⟩ = some (.slice a1 n1 c1) ∧ w'.cell? ⟨eb, 2, none⟩ = some (.slice a2 n2 c2)) 2 [(0, true), (1, true)] (by kernel_rfl) (by kernel_rfl) ?_
    have hS : w3.drew.cell? ⟨eb, 0, none⟩ = some (.int .i64 q) ∧ w3.drew.cell? ⟨eb, 1, none⟩ = some (.slice a1 n1 c1) ∧ w3.drew.cell? ⟨eb, 2, none⟩ = some (.slice a2 n2 c2) := ⟨z0, z1, z2⟩
    refine headY (v := ?_) (some 23) rfl rfl (Or.inl ⟨by rfl, ?_⟩) hS ?_
    rotate_left
    · rintro W' ⟨s0, s1, s2⟩; go_simp; try with_reducible rfl
    simp only [Act.put, List.setIfInBounds_toArray, List.set_cons_zero, List.set_cons_succ]
    refine headY (v := ?_) (some 2) rfl rfl (Or.inl ⟨by rfl, ?_⟩) hS ?_
    rotate_left
    · rintro W' ⟨s0, s1, s2⟩; go_simp; try with_reducible rfl
    simp only [Act.put, List.setIfInBounds_toArray, List.set_cons_zero, List.set_cons_succ]
    refine head0 ?_
    simp only [List.drop_succ_cons, List.drop_zero]
    clear hS
    go_wp2
    refine NoPanic.normal ?_
    go_wp2
    refine bodyPost_ret (v := .tuple #[.slice none 0 0, .agg #[.int .i64 q, .slice a1 n1 c1, .slice a2 n2 c2]]) (by simp [results, Tryd.results24, go_sem, r0, r1, r2]) rfl ⟨_, _, rfl, below_set3 (below_drewN b03 1) (by simp) _ _ _, ?_⟩
    rw [hE.out]
    exact ⟨(he3.out.set3 (by have := hsW.out; omega) _ _ _).mono (by have := hsW.out; omega), ⟨(fun q => (by cases q)), (fun _ => rfl)⟩⟩
  | none =>
    rw [hck] at he3
    have hz : (q = 0 ∧ (a1 = none ∧ n1 = 0 ∧ c1 = 0) ∧ a2 = none ∧ n2 = 0 ∧ c2 = 0) := by
      have e : (Value.agg #[.int .i64 q, .slice a1 n1 c1, .slice a2 n2 c2]) = zErr := he3
      simpa using e
    obtain ⟨rfl, ⟨rfl, rfl, rfl⟩, rfl, rfl, rfl⟩ := hz
    rw [show ((0 : Int) != 0) = false from rfl]
    have hck2 := checkG_none hck
    replace hck2 := Lib.hid hck2
    replace hck := Lib.hid hck
    replace he := Lib.hid he
    replace bx := Lib.hid bx.out
    clear he3 z0 z1 z2
    have hok := hck2.out.2.2
    have hn := hck2.out.1
    have harr := hck2.out.2.1
    have hlen : ∀ k, k < G.length → (G.getD k []).length ≤ 262144 := fun k hk => by
      have := arrowsTo_mono G (show k + 1 ≤ G.length by omega)
      simp only [arrowsTo] at this; omega
    replace hok := Lib.hid hok
    replace hlen := Lib.hid hlen
    replace bx3 := Lib.hid bx3
    have hB3 : w.heap.size ≤ w3.heap.size := b03.size
    go_wp2_with fail
    refine (ref_turned na nc G w3 (h.out.below b03) hok.out (by omega) harr).mono ?_
    rintro e w4 ⟨hv, rfl, b4, H, hT, hH⟩
    obtain ⟨ha, hc, rfl⟩ := hH.at.shape
    have hHl : H.length = G.length := hT.t.1
    have hHok := turned_ok hT.t
    have hHlen : ∀ k, k < G.length → (H.getD k []).length ≤ 262144 := fun k hk => by
      have := hT.t.2.1 k hk; omega
    have hHat := hH.at
    have hBx := bx3.out.below b4
    have b04 := Below.step b03 b4
    have hG4 := h.out.below b04
    have hs4 : w.heap.size < w4.heap.size := by have := b4.size; omega
    rw [hHl] at hHat hH ⊢
    obtain ⟨ov, w5, mk1, ho1, b5⟩ := run_makeN G.length w4 (by omega)
    obtain ⟨iv, w6, mk2, ho2, b6⟩ := run_makeN G.length w5 (by omega)
    obtain ⟨gv, w7, mk3, ho3, b7⟩ := run_makeW oneBoolG (G.length : Int) G.length w6 rfl (by omega)
    have hAl := fun t => show (adjOf G t).length = (G.getD t []).length from adjOf_len G t
    have hBl := fun t => show (adjOf H t).length = (H.getD t []).length from adjOf_len H t
    rw [← fillTo_zero (fun t => (adjOf G t).length)] at ho1
    rw [← fillTo_zero (fun t => (adjOf H t).length)] at ho2
    rw [← tabB_none] at ho3
    have R1 := (rowsE w4.heap.size w4).add (i := (1, 0)) (r' := rowI ov (tab G.length (fillTo (fun t => (adjOf G t).length) 0))) b5 ho1 (fun k hk => (ho1.lt k hk).1)
    have R2 := R1.add (i := (2, 0)) (r' := rowI iv (tab G.length (fillTo (fun t => (adjOf H t).length) 0))) b6 (ho2.mono b5.size) (fun k hk => (ho2.lt k hk).1)
    have R3 := R2.add (i := (3, 0)) (r' := rowV 4 gv (tabB G.length (fun _ => false))) b7 (ho3.mono (Nat.le_trans b5.size b6.size)) (fun k hk => (ho3.lt k hk).1)
    have R4 := R3.add (i := (4, 0)) (r' := rowI (.slice none 0 0) []) (Below.refl _ _) (OwnI.nil _ _) (fun k hk => by cases hk)
    have b47 : Below w4.heap.size w4 w7 := Below.step (Below.step b5 b6) b7
    have hN4 : LvN (upd (upd (upd (upd (fun _ => none) (1, 0) (some (rowI ov (tab G.length (fillTo (fun t => (adjOf G t).length) 0))))) (2, 0) (some (rowI iv (tab G.length (fillTo (fun t => (adjOf H t).length) 0))))) (3, 0) (some (rowV 4 gv (tabB G.length (fun _ => false))))) (4, 0) (some (rowI (.slice none 0 0) []))) ov iv gv (.slice none 0 0) G.length (fillTo (fun t => (adjOf G t).length) 0) (fillTo (fun t => (adjOf H t).length) 0) (fun _ => false) [] :=
      ⟨by rw [upd_ne _ _ (by simp), upd_ne _ _ (by simp), upd_ne _ _ (by simp), upd_same], by rw [upd_ne _ _ (by simp), upd_ne _ _ (by simp), upd_same], by rw [upd_ne _ _ (by simp), upd_same], by rw [upd_same]; rfl⟩
    generalize upd (upd (upd (upd (fun _ => none) (1, 0) (some (rowI ov (tab G.length (fillTo (fun t => (adjOf G t).length) 0))))) (2, 0) (some (rowI iv (tab G.length (fillTo (fun t => (adjOf H t).length) 0))))) (3, 0) (some (rowV 4 gv (tabB G.length (fun _ => false))))) (4, 0) (some (rowI (.slice none 0 0) [])) = f4 at R4 hN4
    have hst : PStart G.length (adjOf G) (adjOf H) (fun _ => false) [] (IsLive G.length (adjOf G)) 0 := PStart.zero (fun t ht x hx => hok.out.lt t ht x hx) (fun t ht x hx => ((turned_adj hT.t hok.out ht).1 hx).1) (fun t v ht hv => hT.cnt t v ht hv)
    have hgpH : ∀ t, t < G.length → ∀ y ∈ H.getD t [], 0 ≤ y ∧ y < G.length := fun t ht y hy => by
      obtain ⟨v, rfl, hv, _⟩ := (hT.t.2.2 t ht y).1 hy
      omega
    replace hgpH := Lib.hid hgpH
    replace hst := Lib.hid hst
    replace hT := Lib.hid hT
    replace hH := Lib.hid hH
    replace hHat := Lib.hid hHat
    replace hG4 := Lib.hid hG4
    replace hHok := Lib.hid hHok
    replace hHlen := Lib.hid hHlen
    replace hHl := Lib.hid hHl
    replace hBx := Lib.hid hBx
    replace hAl := Lib.hid hAl
    replace hBl := Lib.hid hBl
    replace ho1 := Lib.hid ho1
    replace ho2 := Lib.hid ho2
    replace ho3 := Lib.hid ho3
    replace R4 := Lib.hid R4
    clear R1 R2 R3
    go_wp2_with fail
    clear mk1 mk2 mk3
    go_loopw [9, 10] (fun qv kv wr => ∃ (k : Nat) (gone : Nat → Bool) (q : List Nat) (f : Names) (qw : Value), qw = qv ∧ kv = .int .i64 k ∧ k ≤ G.length ∧ Rows w4.heap.size wr f ∧ Below w4.heap.size w4 wr ∧ LvN f ov iv gv qw G.length (fillTo (fun t => (adjOf G t).length) k) (fillTo (fun t => (adjOf H t).length) k) gone q ∧ PStart G.length (adjOf G) (adjOf H) gone q (IsLive G.length (adjOf G)) k) (fun _ kv _ => G.length - (intOf kv).toNat)
    case atStart => exact ⟨0, _, [], f4, _, rfl, rfl, by omega, R4.out, b47, hN4, hst.out⟩
    case round =>
      clear R4 b47 hN4 hst ho1 ho2 ho3 b5 b6 b7
      obtain ⟨k, gone, q, f, qv, rfl, rfl, hk, hr, bw, hN, hps⟩ := hrel
      obtain ⟨wo, rfl⟩ : ∃ wo : World, wo = wr := ⟨_, rfl⟩
      have hqlt := nodup_len G.length q hps.peel.nodup hps.peel.low
      by_cases hlt : k < G.length
      · obtain ⟨mv, iR, cR0, hM⟩ := hG4.out.row k hlt
        have hHat2 : ListsAt w4 (.slice ha G.length hc) H := hHat.out
        obtain ⟨mh, iS, cS0, hMh⟩ := hHat2.row k (by have := hHl.out; omega)
        have cR := (bw.cell (World.block_lt_of_cell? _ _ cR0)).trans cR0
        have cS := (bw.cell (World.block_lt_of_cell? _ _ cS0)).trans cS0
        have lM := hM.len
        have lMh := hMh.len
        rw [← hAl.out] at lM
        rw [← hBl.out] at lMh
        obtain ⟨iO, cO, fO, kO⟩ := tab_cell hr hN.outs k hlt
        obtain ⟨f1, hr1, hN1⟩ := hN.setOut hr k hlt (adjOf G k).length
        have bw1 : Below w4.heap.size w4 (wo.setCell (valAt ov k) (.int .i64 ((adjOf G k).length : Int))) := bw.setCell kO _
        obtain ⟨iI, cI, fI, kI⟩ := tab_cell hr1 hN1.inns k hlt
        obtain ⟨f2, hr2, hN2⟩ := hN1.setInn hr1 k hlt (adjOf H k).length
        have bw2 : Below w4.heap.size w4 ((wo.setCell (valAt ov k) (.int .i64 ((adjOf G k).length : Int))).setCell (valAt iv k) (.int .i64 ((adjOf H k).length : Int))) := bw1.setCell kI _
        obtain ⟨_, cO2, _, _⟩ := tab_cell hr2 hN2.outs k hlt
        obtain ⟨_, cI2, _, _⟩ := tab_cell hr2 hN2.inns k hlt
        rw [updN_same] at cO2 cI2
        have e1 := fillTo_next (fun t => (adjOf G t).length) k
        have e2 := fillTo_next (fun t => (adjOf H t).length) k
        rw [e1, e2] at hN2
        obtain ⟨iG, cG, fG, kG⟩ := mark_cell hr2 hN2.gones k hlt
        have cS1 := (bw1.cell (World.block_lt_of_cell? _ _ cS0)).trans cS0
        clear e1 e2
        have htk := fun h0 => hps.take (live_set hT.out.t hok.out) hlt h0
        have hsk := hps.skip
        obtain ⟨la, hla⟩ : ∃ la, (adjOf G k).length = la := ⟨_, rfl⟩
        obtain ⟨lb, hlb⟩ : ∃ lb, (adjOf H k).length = lb := ⟨_, rfl⟩
        rw [hla] at lM cO2 hr1 hr2 bw1 bw2 cI fI cI2 htk hsk cS1 cG fG
        rw [hlb] at lMh cO2 hr2 bw2 cI2 htk hsk cG fG
        generalize valAt ov k = oka at *
        generalize valAt iv k = ika at *
        generalize valAt (.slice na G.length nc) k = ra at *
        generalize valAt (.slice ha G.length hc) k = rb at *
        obtain ⟨gka, hgk⟩ : ∃ gka, valAt gv k = gka := ⟨_, rfl⟩
        rw [hgk] at iG cG fG kG
        replace hgk := Lib.hid hgk
        replace hps := Lib.hid hps
        replace htk := Lib.hid htk
        replace hsk := Lib.hid hsk
        replace hla := Lib.hid hla
        replace hlb := Lib.hid hlb
        replace hr := Lib.hid hr
        replace hr1 := Lib.hid hr1
        replace hM := Lib.hid hM
        replace hMh := Lib.hid hMh
        replace cR0 := Lib.hid cR0
        replace cS0 := Lib.hid cS0
        replace hHat2 := Lib.hid hHat2
        generalize (fillTo (fun t => (adjOf G t).length) k k : Int) = old1 at cO
        generalize (fillTo (fun t => (adjOf H t).length) k k : Int) = old2 at cI
        go_upto_region 13 with fail
        obtain ⟨W1, hW1⟩ : ∃ W1 : World, W1 = wo.setCell oka (.int .i64 (la : Int)) := ⟨_, rfl⟩
        rw [← hW1] at hr1 hr2 bw1 bw2 cI fI cI2 cO2 cS1 cG fG ⊢
        clear hW1 cO fO cR cS
        go_upto_region 14 with fail
        obtain ⟨W2, hW2⟩ : ∃ W2 : World, W2 = W1.setCell ika (.int .i64 (lb : Int)) := ⟨_, rfl⟩
        rw [← hW2] at hr2 bw2 cI2 cO2 cG fG ⊢
        clear hW2 cI fI cS1
        by_cases hz : la = 0 ∨ lb = 0
        · have htk2 := htk.out hz
          obtain ⟨f3, hr3, hN3⟩ := hN2.mark hr2 k hlt
          have bw3 : Below w4.heap.size w4 (W2.setCell (valAt gv k) (.bool true)) := bw2.setCell (by have := (mark_cell hr2 hN2.gones k hlt).2.2.2; exact this) _
          have hgka : valAt gv k = gka := hgk.out
          rw [hgka] at hr3 bw3
          replace hgka := Lib.hid hgka
          replace htk2 := Lib.hid htk2
          replace hr2 := Lib.hid hr2
          replace hr3 := Lib.hid hr3
          by_cases hz1 : la = 0
          · have hq1 : ((la : Int) == 0) = true := by rw [beq_iff_eq]; omega
            replace hz1 := Lib.hid hz1
            replace hz := Lib.hid hz
            go_upto_region 16 with fail
            obtain ⟨W3, hW3⟩ : ∃ W3 : World, W3 = W2.setCell gka (.bool true) := ⟨_, rfl⟩
            rw [← hW3] at hr3 bw3 ⊢
            clear hW3 cO2 cI2 cG fG
            have hOQ := hr3.out.ownI hN3.queue
            go_wp2_with (at_builtin; refine wpl_app1 rfl _ _ rfl w4.heap.size qv (castI q) k hOQ rfl rfl (by rw [castI_len]; omega) bw3.size ?_)
            intro qv' w7 ho7 b7 hal7
            obtain ⟨f7, hr7, hN7⟩ := hN3.push hr3.out k ho7 hal7
            replace hr7 := Lib.hid hr7
            replace ho7 := Lib.hid ho7
            clear hal7
            go_wp2
            go_roundw
            case measure => simp [intOf]; omega
            case rel => exact ⟨k + 1, _, _, f7, qv', rfl, by go_num, by omega, hr7.out, bw3.trans b7, hN7, htk2.out⟩
          · have hq1 : ((la : Int) == 0) = false := by rw [beq_eq_false_iff_ne]; omega
            have hq2 : ((lb : Int) == 0) = true := by rw [beq_iff_eq]; omega
            replace hz1 := Lib.hid hz1
            replace hz := Lib.hid hz
            go_upto_region 16 with fail
            obtain ⟨W3, hW3⟩ : ∃ W3 : World, W3 = W2.setCell gka (.bool true) := ⟨_, rfl⟩
            rw [← hW3] at hr3 bw3 ⊢
            clear hW3 cO2 cI2 cG fG
            have hOQ := hr3.out.ownI hN3.queue
            go_wp2_with (at_builtin; refine wpl_app1 rfl _ _ rfl w4.heap.size qv (castI q) k hOQ rfl rfl (by rw [castI_len]; omega) bw3.size ?_)
            intro qv' w7 ho7 b7 hal7
            obtain ⟨f7, hr7, hN7⟩ := hN3.push hr3.out k ho7 hal7
            replace hr7 := Lib.hid hr7
            replace ho7 := Lib.hid ho7
            clear hal7
            go_wp2
            go_roundw
            case measure => simp [intOf]; omega
            case rel => exact ⟨k + 1, _, _, f7, qv', rfl, by go_num, by omega, hr7.out, bw3.trans b7, hN7, htk2.out⟩
        · have hq1 : ((la : Int) == 0) = false := by rw [beq_eq_false_iff_ne]; omega
          have hq2 : ((lb : Int) == 0) = false := by rw [beq_eq_false_iff_ne]; omega
          have hsk2 := hsk.out (by omega) (by omega)
          replace hsk2 := Lib.hid hsk2
          replace hr2 := Lib.hid hr2
          replace hz := Lib.hid hz
          go_wp2
          go_roundw
          case measure => simp [intOf]; omega
          case rel => exact ⟨k + 1, gone, q, f2, qv, rfl, by go_num, by omega, hr2.out, bw2, hN2, hsk2.out⟩
      · obtain rfl : k = G.length := by omega
        have hN0 : LvN f ov iv gv qv G.length (fun t => (adjOf G t).length) (fun t => (adjOf H t).length) gone q :=
          ⟨by rw [← fillTo_all]; exact hN.outs, by rw [← fillTo_all]; exact hN.inns, hN.gones, hN.queue⟩
        have hps0 := hps.all
        have hbd0 : ∀ t, t < G.length → (adjOf H t).length ≤ 262144 ∧ (adjOf G t).length ≤ 262144 := fun t ht => ⟨by rw [hBl.out]; exact hHlen.out t ht, by rw [hAl.out]; exact hlen.out t ht⟩
        replace hps := Lib.hid hps
        replace hps0 := Lib.hid hps0
        replace hbd0 := Lib.hid hbd0
        replace hr := Lib.hid hr
        clear hN
        go_wp2_with fail
        go_loopw [9, 11] (fun qv iv2 wr => ∃ (i : Nat) (inn out c d : Nat → Nat) (gone : Nat → Bool) (q : List Nat) (f : Names) (qw : Value), qw = qv ∧ iv2 = .int .i64 i ∧ i ≤ q.length ∧ Rows w4.heap.size wr f ∧ Below w4.heap.size w4 wr ∧ LvN f ov iv gv qw G.length out inn gone q ∧ PS G.length (adjOf G) (adjOf H) inn out c d gone q (IsLive G.length (adjOf G)) i ∧ ∀ t, t < G.length → inn t ≤ 262144 ∧ out t ≤ 262144) (fun _ iv2 _ => G.length + 1 - (intOf iv2).toNat)
        case atStart => exact ⟨0, _, _, _, _, gone, q, f, qv, rfl, rfl, by omega, hr.out, bw, hN0, hps0.out, hbd0.out⟩
        case round =>
          clear hr bw hN0 hps0 hbd0 hps hqlt
          obtain ⟨i, inn, out, c, d, gone, q, f, qv, rfl, rfl, hi, hr, bw, hN, hps, hbd⟩ := hrel
          obtain ⟨wo, rfl⟩ : ∃ wo : World, wo = wr := ⟨_, rfl⟩
          have hqlt := nodup_len G.length q hps.peel.nodup hps.peel.low
          have hOQ := hr.ownI hN.queue
          have lQ := hOQ.at.len
          rw [castI_len] at lQ
          by_cases hil : i < q.length
          · obtain ⟨v, hv⟩ : ∃ v, q[i]? = some v := ⟨_, List.getElem?_eq_getElem hil⟩
            obtain ⟨hmid, hcv, hdv, hvn⟩ := hps.enter hv
            have iV := fun w' => hOQ.at.idx i (by rw [castI_len]; exact hil) w'
            have cV := hOQ.at.cellD i (by rw [castI_len]; exact hil)
            rw [castI_get hv] at cV
            obtain ⟨mv, iR, cR0, hMG⟩ := hG4.out.row v hvn
            have hHat2 : ListsAt w4 (.slice ha G.length hc) H := hHat.out
            obtain ⟨mh, iS, cS0, hMH⟩ := hHat2.row v (by have := hHl.out; omega)
            have hgx := hlen.out v hvn
            have hhx := hHlen.out v hvn
            have hgpG := hok.out v hvn
            have hgpHv := hgpH.out v hvn
            have hadjG : adjOf G v = (G.getD v []).map Int.toNat := rfl
            have hadjH : adjOf H v = (H.getD v []).map Int.toNat := rfl
            generalize G.getD v [] = gx at *
            generalize H.getD v [] = hx at *
            have lM := hMG.len
            have lMh := hMH.len
            generalize valAt qv i = qa at *
            generalize valAt (.slice na G.length nc) v = ra at *
            generalize valAt (.slice ha G.length hc) v = rb at *
            replace hr := Lib.hid hr
            replace hOQ := Lib.hid hOQ
            replace hMG := Lib.hid hMG
            replace hMH := Lib.hid hMH
            replace cR0 := Lib.hid cR0
            replace cS0 := Lib.hid cS0
            replace hps := Lib.hid hps
            replace hmid := Lib.hid hmid
            replace hbd := Lib.hid hbd
            replace hgpG := Lib.hid hgpG
            replace hgpHv := Lib.hid hgpHv
            replace hadjG := Lib.hid hadjG
            replace hadjH := Lib.hid hadjH
            replace hv := Lib.hid hv
            replace hHat2 := Lib.hid hHat2
            go_wp2_with fail
            clear iV cV lQ hps hOQ hqlt hi hil
            go_loopw [9, 13] (fun qv kv wr => ∃ (k : Nat) (inn out c d : Nat → Nat) (gone : Nat → Bool) (q : List Nat) (f : Names) (qw : Value), qw = qv ∧ kv = .int .i64 k ∧ k ≤ gx.length ∧ Rows w4.heap.size wr f ∧ Below w4.heap.size w4 wr ∧ LvN f ov iv gv qw G.length out inn gone q ∧ Mid G.length (adjOf G) (adjOf H) inn out c d gone q (IsLive G.length (adjOf G)) i v ∧ (c v = k ∧ d v = 0) ∧ ∀ t, t < G.length → inn t ≤ 262144 ∧ out t ≤ 262144) (fun _ kv _ => gx.length - (intOf kv).toNat)
            case atStart => exact ⟨0, inn, out, c, d, gone, q, f, qv, rfl, rfl, by omega, hr.out, bw, hN, hmid.out, ⟨hcv, hdv⟩, hbd.out⟩
            case round =>
              clear hr bw hN hmid hcv hdv hbd
              obtain ⟨k, inn, out, c, d, gone, q, f, qv, rfl, rfl, hk, hr, bw, hN, hmid, ⟨hcv, hdv⟩, hbd⟩ := hrel
              obtain ⟨wo, rfl⟩ : ∃ wo : World, wo = wr := ⟨_, rfl⟩
              have cRm := (bw.cell (World.block_lt_of_cell? _ _ cR0.out)).trans cR0.out
              have hal : (adjOf G v).length = gx.length := by rw [hadjG.out]; simp
              have hqlt := nodup_len G.length q hmid.peel.nodup hmid.peel.low
              by_cases hlk : k < gx.length
              · obtain ⟨t, ht⟩ : ∃ t, (adjOf G v)[k]? = some t := ⟨_, List.getElem?_eq_getElem (by omega)⟩
                have hgt : gx.getD k 0 = (t : Int) ∧ t < G.length := by
                  have hg := hgpG.out gx[k] (List.getElem_mem hlk)
                  have e := ht
                  rw [hadjG.out, List.getElem?_map, List.getElem?_eq_getElem hlk] at e
                  injection e with e
                  rw [List.getD_eq_getElem?_getD, List.getElem?_eq_getElem hlk, Option.getD_some]
                  omega
                obtain ⟨hgd, htn⟩ := hgt
                obtain ⟨h0, hmk, hno⟩ := hmid.step (live_set hT.out.t hok.out) hcv ht htn
                have hMo := hMG.out.below bw
                have iT := fun w' => hMo.idx k hlk w'
                have cT := hMo.cellD k hlk
                rw [hgd] at cT
                obtain ⟨iA, cA, fA, kA⟩ := tab_cell hr hN.inns t htn
                obtain ⟨b, hb⟩ : ∃ b, inn t = b + 1 := ⟨inn t - 1, by omega⟩
                have hbb := hbd t htn
                have hb1 : inn t - 1 = b := by omega
                rw [hb1] at hmk hno
                rw [hb] at cA
                have hwr : IntKind.i64.wrap (b : Int) = (b : Int) := wrapK (by omega) (by omega)
                have hcast : ((b + 1 : Nat) : Int) = (b : Int) + 1 := by omega
                rw [hcast] at cA
                obtain ⟨f1, hr1, hN1⟩ := hN.setInn hr t htn b
                have bw1 : Below w4.heap.size w4 (wo.setCell (valAt iv t) (.int .i64 (b : Int))) := bw.setCell kA _
                obtain ⟨_, cA1, _, _⟩ := tab_cell hr1 hN1.inns t htn
                rw [updN_same] at cA1
                obtain ⟨iG, cG, fG, kG⟩ := mark_cell hr1 hN1.gones t htn
                have hbd2 : ∀ x, x < G.length → updN inn t b x ≤ 262144 ∧ out x ≤ 262144 := fun x hx => by
                  have := hbd x hx
                  by_cases e : x = t
                  · subst e; rw [updN_same]; omega
                  · rw [updN_other _ _ _ e]; exact this
                replace hbd2 := Lib.hid hbd2
                replace hbd := Lib.hid hbd
                generalize valAt iv t = ta at *
                generalize valAt mv k = ja at *
                obtain ⟨gg, hgg⟩ : ∃ gg, gone t = gg := ⟨_, rfl⟩
                rw [hgg] at cG hmk hno
                replace hr := Lib.hid hr
                replace hMo := Lib.hid hMo
                replace hmid := Lib.hid hmid
                replace ht := Lib.hid ht
                replace hgd := Lib.hid hgd
                replace hb := Lib.hid hb
                replace hb1 := Lib.hid hb1
                replace hcast := Lib.hid hcast
                replace hgg := Lib.hid hgg
                replace hmk := Lib.hid hmk
                replace hno := Lib.hid hno
                replace hal := Lib.hid hal
                replace cRm0 := Lib.hid cRm
                go_upto_region 26 with fail
                obtain ⟨W1, hW1⟩ : ∃ W1 : World, W1 = wo.setCell ta (.int .i64 (b : Int)) := ⟨_, rfl⟩
                rw [← hW1] at hr1 bw1 cA1 cG fG ⊢
                clear hW1 cA fA cT iT cRm
                by_cases hb0 : b = 0
                · have hbq : ((b : Int) == 0) = true := by rw [beq_iff_eq]; omega
                  cases gg with
                  | false =>
                    have hm2 := hmk.out (by rw [hb.out]; omega) rfl
                    obtain ⟨f2, hr2, hN2⟩ := hN1.mark hr1 t htn
                    have bw2 : Below w4.heap.size w4 (W1.setCell (valAt gv t) (.bool true)) := bw1.setCell kG _
                    generalize valAt gv t = ga at *
                    replace hm2 := Lib.hid hm2
                    replace hr1 := Lib.hid hr1
                    replace hr2 := Lib.hid hr2
                    replace hb0 := Lib.hid hb0
                    go_upto_region 28 with fail
                    obtain ⟨W2, hW2⟩ : ∃ W2 : World, W2 = W1.setCell ga (.bool true) := ⟨_, rfl⟩
                    rw [← hW2] at hr2 bw2 ⊢
                    clear hW2 cA1 cG fG iG iA
                    have hOQ := hr2.out.ownI hN2.queue
                    go_wp2_with (at_builtin; refine wpl_app1 rfl _ _ rfl w4.heap.size qv (castI q) t hOQ rfl rfl (by rw [castI_len]; omega) bw2.size ?_)
                    intro qv' w7 ho7 b7 hal7
                    obtain ⟨f7, hr7, hN7⟩ := hN2.push hr2.out t ho7 hal7
                    replace hr7 := Lib.hid hr7
                    replace ho7 := Lib.hid ho7
                    clear hal7
                    go_wp2
                    go_roundw
                    case measure => simp [intOf]; omega
                    case rel => exact ⟨k + 1, updN inn t b, out, updN c v (k + 1), d, _, _, f7, qv', rfl, by go_num, by omega, hr7.out, bw2.trans b7, hN7, hm2.out, ⟨updN_same _ _ _, hdv⟩, hbd2.out⟩
                  | true =>
                    have hm2 := hno.out (fun _ => rfl)
                    replace hm2 := Lib.hid hm2
                    replace hr1 := Lib.hid hr1
                    replace hb0 := Lib.hid hb0
                    go_wp2
                    go_roundw
                    case measure => simp [intOf]; omega
                    case rel => exact ⟨k + 1, updN inn t b, out, updN c v (k + 1), d, gone, q, f1, qv, rfl, by go_num, by omega, hr1.out, bw1, hN1, hm2.out, ⟨updN_same _ _ _, hdv⟩, hbd2.out⟩
                · have hbq : ((b : Int) == 0) = false := by rw [beq_eq_false_iff_ne]; omega
                  have hm2 := hno.out (fun q => by rw [hb.out] at q; omega)
                  replace hm2 := Lib.hid hm2
                  replace hr1 := Lib.hid hr1
                  replace hb0 := Lib.hid hb0
                  go_wp2
                  go_roundw
                  case measure => simp [intOf]; omega
                  case rel => exact ⟨k + 1, updN inn t b, out, updN c v (k + 1), d, gone, q, f1, qv, rfl, by go_num, by omega, hr1.out, bw1, hN1, hm2.out, ⟨updN_same _ _ _, hdv⟩, hbd2.out⟩
              · obtain rfl : k = gx.length := by omega
                rw [← hal] at hcv
                replace hmid := Lib.hid hmid
                replace hbd := Lib.hid hbd
                replace hr := Lib.hid hr
                replace hal := Lib.hid hal
                go_wp2_with fail
                clear cRm hqlt
                go_loopw [9, 15] (fun qv kv wr => ∃ (k : Nat) (inn out c d : Nat → Nat) (gone : Nat → Bool) (q : List Nat) (f : Names) (qw : Value), qw = qv ∧ kv = .int .i64 k ∧ k ≤ hx.length ∧ Rows w4.heap.size wr f ∧ Below w4.heap.size w4 wr ∧ LvN f ov iv gv qw G.length out inn gone q ∧ Mid G.length (adjOf G) (adjOf H) inn out c d gone q (IsLive G.length (adjOf G)) i v ∧ (c v = (adjOf G v).length ∧ d v = k) ∧ ∀ t, t < G.length → inn t ≤ 262144 ∧ out t ≤ 262144) (fun _ kv _ => hx.length - (intOf kv).toNat)
                case atStart => exact ⟨0, inn, out, c, d, gone, q, f, qv, rfl, rfl, by omega, hr.out, bw, hN, hmid.out, ⟨hcv, hdv⟩, hbd.out⟩
                case round =>
                  clear hr bw hN hmid hcv hdv hbd
                  obtain ⟨k, inn, out, c, d, gone, q, f, qv, rfl, rfl, hk, hr, bw, hN, hmid, ⟨hcv, hdv⟩, hbd⟩ := hrel
                  obtain ⟨wo, rfl⟩ : ∃ wo : World, wo = wr := ⟨_, rfl⟩
                  have cRm := (bw.cell (World.block_lt_of_cell? _ _ cS0.out)).trans cS0.out
                  have hal : (adjOf H v).length = hx.length := by rw [hadjH.out]; simp
                  have hqlt := nodup_len G.length q hmid.peel.nodup hmid.peel.low
                  by_cases hlk : k < hx.length
                  · obtain ⟨t, ht⟩ : ∃ t, (adjOf H v)[k]? = some t := ⟨_, List.getElem?_eq_getElem (by omega)⟩
                    have hgt : hx.getD k 0 = (t : Int) ∧ t < G.length := by
                      have hg := hgpHv.out hx[k] (List.getElem_mem hlk)
                      have e := ht
                      rw [hadjH.out, List.getElem?_map, List.getElem?_eq_getElem hlk] at e
                      injection e with e
                      rw [List.getD_eq_getElem?_getD, List.getElem?_eq_getElem hlk, Option.getD_some]
                      omega
                    obtain ⟨hgd, htn⟩ := hgt
                    obtain ⟨h0, hmk, hno⟩ := hmid.swap.step (live_set hT.out.t hok.out).swap hdv ht htn
                    have hMo := hMH.out.below bw
                    have iT := fun w' => hMo.idx k hlk w'
                    have cT := hMo.cellD k hlk
                    rw [hgd] at cT
                    obtain ⟨iA, cA, fA, kA⟩ := tab_cell hr hN.outs t htn
                    obtain ⟨b, hb⟩ : ∃ b, out t = b + 1 := ⟨out t - 1, by omega⟩
                    have hbb := hbd t htn
                    have hb1 : out t - 1 = b := by omega
                    rw [hb1] at hmk hno
                    rw [hb] at cA
                    have hwr : IntKind.i64.wrap (b : Int) = (b : Int) := wrapK (by omega) (by omega)
                    have hcast : ((b + 1 : Nat) : Int) = (b : Int) + 1 := by omega
                    rw [hcast] at cA
                    obtain ⟨f1, hr1, hN1⟩ := hN.setOut hr t htn b
                    have bw1 : Below w4.heap.size w4 (wo.setCell (valAt ov t) (.int .i64 (b : Int))) := bw.setCell kA _
                    obtain ⟨_, cA1, _, _⟩ := tab_cell hr1 hN1.outs t htn
                    rw [updN_same] at cA1
                    obtain ⟨iG, cG, fG, kG⟩ := mark_cell hr1 hN1.gones t htn
                    have hbd2 : ∀ x, x < G.length → inn x ≤ 262144 ∧ updN out t b x ≤ 262144 := fun x hx => by
                      have := hbd x hx
                      by_cases e : x = t
                      · subst e; rw [updN_same]; omega
                      · rw [updN_other _ _ _ e]; exact this
                    replace hbd2 := Lib.hid hbd2
                    replace hbd := Lib.hid hbd
                    generalize valAt ov t = ta at *
                    generalize valAt mh k = ja at *
                    obtain ⟨gg, hgg⟩ : ∃ gg, gone t = gg := ⟨_, rfl⟩
                    rw [hgg] at cG hmk hno
                    replace hr := Lib.hid hr
                    replace hMo := Lib.hid hMo
                    replace hmid := Lib.hid hmid
                    replace ht := Lib.hid ht
                    replace hgd := Lib.hid hgd
                    replace hb := Lib.hid hb
                    replace hb1 := Lib.hid hb1
                    replace hcast := Lib.hid hcast
                    replace hgg := Lib.hid hgg
                    replace hmk := Lib.hid hmk
                    replace hno := Lib.hid hno
                    replace hal := Lib.hid hal
                    replace cRm0 := Lib.hid cRm
                    go_upto_region 34 with fail
                    obtain ⟨W1, hW1⟩ : ∃ W1 : World, W1 = wo.setCell ta (.int .i64 (b : Int)) := ⟨_, rfl⟩
                    rw [← hW1] at hr1 bw1 cA1 cG fG ⊢
                    clear hW1 cA fA cT iT cRm
                    by_cases hb0 : b = 0
                    · have hbq : ((b : Int) == 0) = true := by rw [beq_iff_eq]; omega
                      cases gg with
                      | false =>
                        have hm2 := hmk.out (by rw [hb.out]; omega) rfl
                        obtain ⟨f2, hr2, hN2⟩ := hN1.mark hr1 t htn
                        have bw2 : Below w4.heap.size w4 (W1.setCell (valAt gv t) (.bool true)) := bw1.setCell kG _
                        generalize valAt gv t = ga at *
                        replace hm2 := Lib.hid hm2
                        replace hr1 := Lib.hid hr1
                        replace hr2 := Lib.hid hr2
                        replace hb0 := Lib.hid hb0
                        go_upto_region 36 with fail
                        obtain ⟨W2, hW2⟩ : ∃ W2 : World, W2 = W1.setCell ga (.bool true) := ⟨_, rfl⟩
                        rw [← hW2] at hr2 bw2 ⊢
                        clear hW2 cA1 cG fG iG iA
                        have hOQ := hr2.out.ownI hN2.queue
                        go_wp2_with (at_builtin; refine wpl_app1 rfl _ _ rfl w4.heap.size qv (castI q) t hOQ rfl rfl (by rw [castI_len]; omega) bw2.size ?_)
                        intro qv' w7 ho7 b7 hal7
                        obtain ⟨f7, hr7, hN7⟩ := hN2.push hr2.out t ho7 hal7
                        replace hr7 := Lib.hid hr7
                        replace ho7 := Lib.hid ho7
                        clear hal7
                        go_wp2
                        go_roundw
                        case measure => simp [intOf]; omega
                        case rel => exact ⟨k + 1, inn, updN out t b, c, updN d v (k + 1), _, _, f7, qv', rfl, by go_num, by omega, hr7.out, bw2.trans b7, hN7, hm2.out.swap, ⟨hcv, updN_same _ _ _⟩, hbd2.out⟩
                      | true =>
                        have hm2 := hno.out (fun _ => rfl)
                        replace hm2 := Lib.hid hm2
                        replace hr1 := Lib.hid hr1
                        replace hb0 := Lib.hid hb0
                        go_wp2
                        go_roundw
                        case measure => simp [intOf]; omega
                        case rel => exact ⟨k + 1, inn, updN out t b, c, updN d v (k + 1), gone, q, f1, qv, rfl, by go_num, by omega, hr1.out, bw1, hN1, hm2.out.swap, ⟨hcv, updN_same _ _ _⟩, hbd2.out⟩
                    · have hbq : ((b : Int) == 0) = false := by rw [beq_eq_false_iff_ne]; omega
                      have hm2 := hno.out (fun q => by rw [hb.out] at q; omega)
                      replace hm2 := Lib.hid hm2
                      replace hr1 := Lib.hid hr1
                      replace hb0 := Lib.hid hb0
                      go_wp2
                      go_roundw
                      case measure => simp [intOf]; omega
                      case rel => exact ⟨k + 1, inn, updN out t b, c, updN d v (k + 1), gone, q, f1, qv, rfl, by go_num, by omega, hr1.out, bw1, hN1, hm2.out.swap, ⟨hcv, updN_same _ _ _⟩, hbd2.out⟩
                  · obtain rfl : k = hx.length := by omega
                    have hps2 := hmid.leave hcv (by rw [hdv, hal])
                    have hil2 := get_of hmid.cur
                    replace hps2 := Lib.hid hps2
                    replace hmid := Lib.hid hmid
                    replace hbd := Lib.hid hbd
                    replace hr := Lib.hid hr
                    replace hal := Lib.hid hal
                    go_wp2
                    go_roundw
                    case measure => simp [intOf]; omega
                    case rel => exact ⟨i + 1, inn, out, c, d, gone, q, f, qv, rfl, by go_num, by omega, hr.out, bw, hN, hps2.out, hbd.out⟩
          · obtain rfl : i = q.length := by omega
            have hend := hps.end_ hT.out.t hok.out
            have hR5 := hr.add (i := (5, 0)) (r' := rowI (.slice none 0 0) []) (Below.refl _ _) (OwnI.nil _ _) (fun k hk => by cases hk)
            have hg5 : upd f (5, 0) (some (rowI (.slice none 0 0) [])) (3, 0) = some (rowV 4 gv (tabB G.length gone)) := by rw [upd_ne _ _ (by simp)]; exact hN.gones
            have hl5 : upd f (5, 0) (some (rowI (.slice none 0 0) [])) (5, 0) = some (rowI (.slice none 0 0) (castI [])) := by rw [upd_same]; rfl
            generalize upd f (5, 0) (some (rowI (.slice none 0 0) [])) = f5 at hR5 hg5 hl5
            replace hend := Lib.hid hend
            replace hR5 := Lib.hid hR5
            replace hg5 := Lib.hid hg5
            replace hl5 := Lib.hid hl5
            replace hps := Lib.hid hps
            replace hbd := Lib.hid hbd
            replace hr := Lib.hid hr
            replace hOQ := Lib.hid hOQ
            go_wp2_with fail
            go_loopw [17, 18] (fun lv kv wr => ∃ (k : Nat) (f : Names) (lw : Value), lw = lv ∧ kv = .int .i64 k ∧ k ≤ G.length ∧ Rows w4.heap.size wr f ∧ Below w4.heap.size w4 wr ∧ f (3, 0) = some (rowV 4 gv (tabB G.length gone)) ∧ f (5, 0) = some (rowI lw (castI ((List.range k).filter fun t => !gone t)))) (fun _ kv _ => G.length - (intOf kv).toNat)
            case atStart => exact ⟨0, f5, _, rfl, rfl, by omega, hR5.out, bw, hg5.out, hl5.out⟩
            case round =>
              clear hR5 hg5 hl5 hr bw hN hOQ
              obtain ⟨k, f, lv, rfl, rfl, hk, hr, bw, hf3, hf5⟩ := hrel
              obtain ⟨wo, rfl⟩ : ∃ wo : World, wo = wr := ⟨_, rfl⟩
              have hOL := hr.ownI hf5
              have hll : ((List.range k).filter fun t => !gone t).length ≤ 10000 := by
                have := List.length_filter_le (fun t => !gone t) (List.range k)
                rw [List.length_range] at this; omega
              by_cases hlk : k < G.length
              · obtain ⟨iG, cG, fG, kG⟩ := mark_cell hr hf3 k hlk
                have hfn := filter_next (fun t => !gone t) k
                generalize valAt gv k = ga at *
                obtain ⟨gg, hgg⟩ : ∃ gg, gone k = gg := ⟨_, rfl⟩
                rw [hgg] at cG
                simp only [hgg] at hfn
                generalize (List.range k).filter (fun t => !gone t) = L at *
                cases gg with
                | true =>
                  rw [if_neg (by decide), List.append_nil] at hfn
                  rw [← hfn] at hf5
                  replace hfn := Lib.hid hfn
                  replace hf3 := Lib.hid hf3
                  replace hf5 := Lib.hid hf5
                  replace hr := Lib.hid hr
                  replace hOL := Lib.hid hOL
                  replace hgg := Lib.hid hgg
                  go_wp2
                  go_roundw
                  case measure => simp [intOf]; omega
                  case rel => exact ⟨k + 1, f, lv, rfl, by go_num, by omega, hr.out, bw, hf3.out, hf5.out⟩
                | false =>
                  rw [if_pos (by decide)] at hfn
                  replace hfn := Lib.hid hfn
                  replace hf3 := Lib.hid hf3
                  replace hf5 := Lib.hid hf5
                  replace hr := Lib.hid hr
                  replace hgg := Lib.hid hgg
                  go_wp2_with (at_builtin; refine wpl_app1 rfl _ _ rfl w4.heap.size lv (castI L) k hOL rfl rfl (by rw [castI_len]; omega) bw.size ?_)
                  intro lv' w7 ho7 b7 hal7
                  have R7 := row_push hr.out hf5.out k ho7 hal7
                  replace R7 := Lib.hid R7
                  replace ho7 := Lib.hid ho7
                  clear hal7
                  go_wp2
                  go_roundw
                  case measure => simp [intOf]; omega
                  case rel => exact ⟨k + 1, _, lv', rfl, by go_num, by omega, R7.out, bw.trans b7, (upd_ne _ _ (by simp)).trans hf3.out, by rw [upd_same, hfn.out]⟩
              · obtain rfl : k = G.length := by omega
                obtain ⟨⟨s0, s1, s2⟩, g0, g1, g2⟩ := hBx.out.keep bw hs4
                have bwe := b04.trans (bw.mono (Nat.le_of_lt hs4))
                replace hOL := Lib.hid hOL
                replace hr := Lib.hid hr
                replace hf3 := Lib.hid hf3
                replace hf5 := Lib.hid hf5
                go_wp2
                refine bodyPost_ret (v := .tuple #[lv, zErr]) (by simp [results, Tryd.results24, go_sem, s0, s1, s2]) rfl ⟨_, _, rfl, below_set3 bwe (by simp) _ _ _, ?_⟩
                rw [hck.out]
                exact ⟨rfl, ⟨(fun _ => ⟨_, hend.out, (hOL.out.set3 hs4 _ _ _).mono (Nat.le_of_lt hs4)⟩), (fun q => absurd rfl q)⟩⟩
end Go.Proofs.YtdldadgnggaopaaDoor

namespace Go.Proofs.YtdldadgnggaopaaDoor
open Go.RowKit
set_option maxRecDepth 100000

/-- Vertices, each led to by an arrow from the one ahead. -/
def ChainOk (G : List (List Int)) (u : List Nat) : Prop := ∀ i x, u[i]? = some x → x < G.length ∧ ∀ j y, i = j + 1 → u[j]? = some y → (x : Int) ∈ G.getD y []
theorem adj_mem {G : List (List Int)} (hok : GraphOk G) {y x : Nat} (hy : y < G.length) (h : x ∈ adjOf G y) : (x : Int) ∈ G.getD y [] := by
  obtain ⟨z, hz, rfl⟩ := List.mem_map.1 h
  have := hok y hy z hz
  rwa [Int.toNat_of_nonneg this.1]
theorem way_chain {G : List (List Int)} (hok : GraphOk G) {x y : Nat} {w : List Nat} (h : Way (adjOf G) x y w) (hx : x < G.length) : ChainOk G w := by
  induction h with
  | one x =>
    intro i z hz
    have hi := get_of hz
    simp only [List.length_cons, List.length_nil] at hi
    obtain rfl : i = 0 := by omega
    injection hz with hz; subst hz
    exact ⟨hx, fun j y e => by omega⟩
  | @cons x t y w ht h ih =>
    have htn := hok.lt x hx t ht
    have ih := ih htn
    intro i z hz
    cases i with
    | zero => injection hz with hz; subst hz; exact ⟨hx, fun j y e => by omega⟩
    | succ i =>
      have hz' : w[i]? = some z := hz
      refine ⟨(ih i z hz').1, fun j y e hy => ?_⟩
      have e : j = i := by omega
      subst e
      cases j with
      | zero =>
        injection hy with hy; subst hy
        obtain ⟨w', rfl⟩ := h.ne
        injection hz' with hz'; subst hz'
        exact adj_mem hok hx ht
      | succ j => exact (ih (j + 1) z hz').2 j y rfl hy
theorem ChainOk.dropLast {G : List (List Int)} {u : List Nat} (h : ChainOk G u) : ChainOk G u.dropLast := by
  have up : ∀ i x, u.dropLast[i]? = some x → u[i]? = some x := fun i x hx => by
    rw [List.getElem?_dropLast] at hx
    split at hx
    · exact hx
    · cases hx
  intro i x hx
  exact ⟨(h i x (up i x hx)).1, fun j y e hy => (h i x (up i x hx)).2 j y e (up j y hy)⟩
theorem ChainOk.nil (G : List (List Int)) : ChainOk G [] := fun i x hx => by simp at hx

end Go.Proofs.YtdldadgnggaopaaDoor

namespace Go.Proofs.YtdldadgnggaopaaDoor
open Go.RowKit
set_option maxRecDepth 100000

/-- What Path answers, as one list: the first of the shortest ways, or none. -/
def WayList (adj : Nat → List Nat) (a b : Nat) (u : List Nat) : Prop := (u ≠ [] ∧ IsFirst adj a b u) ∨ (u = [] ∧ ¬ Goes adj a b)
theorem FirstPost.list {w w' : World} {adj : Nat → List Nat} {a b : Nat} {x : Value} (h : FirstPost w adj a b x w') : ∃ u, WayList adj a b u ∧ OwnI w.heap.size w' x (castI u) := by
  rcases h with ⟨u, h1, h2⟩ | ⟨h1, rfl⟩
  · exact ⟨u, .inl ⟨by intro e; subst e; exact absurd h1.way.pos (by simp), h1⟩, h2⟩
  · exact ⟨[], .inr ⟨rfl, h1⟩, OwnI.nil _ _⟩
theorem WayList.goes {adj : Nat → List Nat} {a b : Nat} {u : List Nat} (h : WayList adj a b u) : u ≠ [] ↔ Goes adj a b := by
  rcases h with ⟨h1, h2⟩ | ⟨h1, h2⟩
  · exact ⟨fun _ => h2.way.goes, fun _ => h1⟩
  · exact ⟨fun q => absurd h1 q, fun q => absurd q h2⟩
theorem WayList.chain {G : List (List Int)} (hok : GraphOk G) {a b : Nat} {u : List Nat} (h : WayList (adjOf G) a b u) (ha : a < G.length) : ChainOk G u := by
  rcases h with ⟨_, h2⟩ | ⟨h1, _⟩
  · exact way_chain hok h2.way ha
  · subst h1; exact ChainOk.nil G
theorem WayList.len {G : List (List Int)} (hok : GraphOk G) {a b : Nat} {u : List Nat} (h : WayList (adjOf G) a b u) (ha : a < G.length) : u.length ≤ G.length := by
  have hc := h.chain hok ha
  rcases h with ⟨_, q⟩ | ⟨q, _⟩
  · exact nodup_len G.length u q.nodup (fun x hx => by
      obtain ⟨i, hi⟩ := List.mem_iff_getElem?.1 hx
      exact (hc i x hi).1)
  · subst q; simp
/-- The ends. -/
theorem way_ends {adj : Nat → List Nat} {x y : Nat} {w : List Nat} (h : Way adj x y w) : w[0]? = some x ∧ w[w.length - 1]? = some y := by
  induction h with
  | one x => exact ⟨rfl, rfl⟩
  | @cons x t y w ht h ih =>
    refine ⟨rfl, ?_⟩
    have := h.pos
    rw [List.length_cons, Nat.add_sub_cancel, ← ih.2]
    obtain ⟨n, hn⟩ : ∃ n, w.length = n + 1 := ⟨w.length - 1, by omega⟩
    rw [hn, Nat.add_sub_cancel]; rfl
/-- A way in the graph with the end doubled, its last vertex left away. -/
theorem wide_way {G : List (List Int)} (hok : GraphOk G) {v : Nat} {x e : Nat} {u : List Nat} (h : Way (adjOf (wideG G v)) x e u) (he : e = G.length) (hx : x < G.length) : ∃ y, y < G.length ∧ v ∈ adjOf G y ∧ Way (adjOf G) x y u.dropLast := by
  induction h with
  | one x => omega
  | @cons x t y w ht h ih =>
    rcases (wide_adj hok v hx t).1 ht with ⟨_, h1, h2⟩ | ⟨h1, h2⟩
    · obtain ⟨z, z1, z2, z3⟩ := ih he h2
      have := h.pos
      refine ⟨z, z1, z2, ?_⟩
      rw [List.dropLast_cons_of_ne_nil (by intro q; subst q; simp at this)]
      exact .cons h1 z3
    · subst h1
      refine ⟨x, hx, h2, ?_⟩
      cases h with
      | one => exact .one x
      | cons ht' _ => rw [wide_end] at ht'; cases ht'
/-- What Loop answers, as one list: a way from a to a vertex with an arrow back to a; or none. -/
def LoopList (G : List (List Int)) (a : Nat) (l : List Nat) : Prop := l = [] ∨ ∃ y, y < G.length ∧ a ∈ adjOf G y ∧ Way (adjOf G) a y l
theorem LoopWay.list {w w' : World} {G : List (List Int)} (hok : GraphOk G) {a : Nat} (ha : a < G.length) {x : Value} (h : LoopWay w G a x w') : ∃ l, LoopList G a l ∧ OwnI w.heap.size w' x (castI l) := by
  rcases h with ⟨u, h1, h2⟩ | ⟨_, rfl⟩
  · exact ⟨u.dropLast, .inr (wide_way hok h1.way rfl ha), h2⟩
  · exact ⟨[], .inl rfl, OwnI.nil _ _⟩
theorem LoopList.chain {G : List (List Int)} (hok : GraphOk G) {a : Nat} {l : List Nat} (h : LoopList G a l) (ha : a < G.length) : ChainOk G l := by
  rcases h with h | ⟨y, _, _, h⟩
  · subst h; exact ChainOk.nil G
  · exact way_chain hok h ha
end Go.Proofs.YtdldadgnggaopaaDoor

namespace Go.Proofs.YtdldadgnggaopaaDoor
open Go.RowKit
set_option maxRecDepth 100000

theorem WayList.unique {adj : Nat → List Nat} {a b : Nat} {u v : List Nat} (h : WayList adj a b u) (k : WayList adj a b v) : u = v := by
  rcases h with ⟨h1, h2⟩ | ⟨h1, h2⟩
  · rcases k with ⟨_, k2⟩ | ⟨_, k2⟩
    · exact h2.unique k2
    · exact absurd h2.way.goes k2
  · rcases k with ⟨_, k2⟩ | ⟨k1, _⟩
    · exact absurd k2.way.goes h2
    · rw [h1, k1]
theorem LiveList.len {n : Nat} {adj : Nat → List Nat} {L : List Nat} (h : LiveList n adj L) : L.length ≤ n :=
  nodup_len n L (h.sorted.imp (fun q => Nat.ne_of_lt q)) (fun x hx => ((h.mem x).1 hx).1)
theorem LoopWay.own {w w' : World} {G : List (List Int)} (hok : GraphOk G) {a : Nat} (ha : a < G.length) {x : Value} (h : LoopWay w G a x w') :
    ∃ l : List Nat, l.length ≤ G.length + 1 ∧ OwnI w.heap.size w' x (castI l) := by
  rcases h with ⟨u, h1, h2⟩ | ⟨h1, rfl⟩
  · refine ⟨u.dropLast, ?_, h2⟩
    have hc := way_chain (wideG_ok hok a) h1.way (by rw [wideG_len]; omega)
    have := nodup_len (G.length + 1) u h1.nodup (fun x hx => by
      obtain ⟨i, hi⟩ := List.mem_iff_getElem?.1 hx
      have := (hc i x hi).1
      rwa [wideG_len] at this)
    simp; omega
  · exact ⟨[], by simp, OwnI.nil _ _⟩

end Go.Proofs.YtdldadgnggaopaaDoor
