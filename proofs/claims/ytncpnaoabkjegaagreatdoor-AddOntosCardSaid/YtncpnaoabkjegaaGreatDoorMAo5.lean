/-
  Plain mathematics: breadth first from the pairs of equal nodes through the pairs that are apart; the first that is met again is met by a shortest way.
  Plain mathematics: the search of twins.meet as a function: what it meets is determined.
  Walk: rule.Step at a rule and a word of its symbols.
  Walks: forms.symbol, forms.behind$1.
  Walk: forms.made, with a function that holds two things.
  Walk: forms.made at a function that has captured one variable.
  Walks: forms.behind, forms.check, forms.wrong, forms.Compose.
  Walks: slices.Reverse (its contract off the shelf), word.Back.
  Walks: forms.Mirror and the function that it hands to forms.made.
  Walks: slices.Values, its iterator, slices.AppendSeq, slices.Collect, slices.Sorted over it (after the kit's worked examples GgSlicesIterAtTheDump and GgPosAtTheDump).
  Walks: slices.Sort (its contract off the shelf), slices.Sorted over slices.Values.
  Walks: slices.Index, forms.Rename and the function that it hands to forms.made.
  Plain mathematics: twins of a rule with the radius 0, how short twins are at least, and the determined result of twins.Finite.
  Pieces of a slice of ints: s[k:], s[k:l].
  Walks: forms.widened, forms.Widen and the function that they hand to forms.made.
  Walks: forms.Widen at a rule, pairs.working.
  Walk: twins.single.
  The memory of graph's search under names: its box, the marks, the two stacks; what a store, an append, a shorter stack does to it.
  Plain mathematics: breadth first: the first of the shortest ways.
  A graph in memory: lists of ints that are read; its arrows as plain numbers.
  Lists of ints of one's own: a row of slices, each a row of its own; what a new list, an append, a store does to them.
-/
import Derived.Test.YtncpnaoabkjegaaGreatDoorMAo4
import Derived.Ground.NamesProg
import Derived.Shelf.Slices.Cells
import Derived.RangeFuncBox
import Derived.RangeFuncLeaves
import Derived.Shelf.Abstract
import Derived.OwnWalkIn
import Derived.TacticsInMore
import Derived.LoopNIn
import Derived.LoopIn
import Derived.Maps.AppendAt
import Derived.Ground.SlgmProg
import Derived.Shelf.SlGeneric
import Derived.Shelf.SortM.Plain
import Derived.Shelf.SortM.SortNone
import Derived.Lib.SlKeysI
import Derived.Deep.DeepCutAuto
import Derived.BigQuiet
import Derived.Deep.QuietTactic
namespace Go.Proofs.YtncpnaoabkjegaaGreatDoor
/-- The search: the levels D, the queue q; the first i of it have been gone through, and of the next, v, the arrows to pre. -/
structure MIn (N : Nat) (adj : Nat → List Nat) (D : Nat → Nat) (q : List Nat) (i v : Nat) (pre : List Nat) : Prop where
 at_ : q[i]? = some v
 nodup : q.Nodup
 low : ∀ x ∈ q,x < N * N
 diag : ∀ x,x < N * N → Diag N x → x ∈ q ∧ D x = 0
 old : ∀ x,x < N * N → ¬ Diag N x → (x ∈ q ↔ 0 < D x)
 mono : ∀ (j k x y : Nat),j ≤ k → q[j]? = some x → q[k]? = some y → D x ≤ D y
 top : ∀ x ∈ q,D x ≤ D v + 1
 bnd : ∀ x ∈ q,D x ≤ q.length
 done : ∀ (k x : Nat),k < i → q[k]? = some x → ∀ t ∈ adj x,(¬ Diag N t → t ∈ q ∧ D t ≤ D x + 1) ∧ (Diag N t → Diag N x)
 now : ∀ t ∈ pre,(¬ Diag N t → t ∈ q ∧ D t ≤ D v + 1) ∧ (Diag N t → Diag N v)
/-- Between two of the queue: the first i have been gone through. -/
structure MOut (N : Nat) (adj : Nat → List Nat) (D : Nat → Nat) (q : List Nat) (i : Nat) : Prop where
 nodup : q.Nodup
 low : ∀ x ∈ q,x < N * N
 diag : ∀ x,x < N * N → Diag N x → x ∈ q ∧ D x = 0
 old : ∀ x,x < N * N → ¬ Diag N x → (x ∈ q ↔ 0 < D x)
 mono : ∀ (j k x y : Nat),j ≤ k → q[j]? = some x → q[k]? = some y → D x ≤ D y
 top : ∀ v : Nat,q[i]? = some v → ∀ x ∈ q,D x ≤ D v + 1
 bnd : ∀ x ∈ q,D x ≤ q.length
 done : ∀ (k x : Nat),k < i → q[k]? = some x → ∀ t ∈ adj x,(¬ Diag N t → t ∈ q ∧ D t ≤ D x + 1) ∧ (Diag N t → Diag N x)
section
variable {N : Nat} {adj : Nat → List Nat} {D : Nat → Nat} {q : List Nat} {i v : Nat} {pre : List Nat}
/-- The pairs of equal nodes, in order. -/
def diags (N : Nat) : List Nat:=(List.range N).map fun u => u * N + u
theorem mem_diags {N x : Nat} : x ∈ diags N ↔ ∃ u,u < N ∧ x = u * N + u:=by
 unfold diags; rw [List.mem_map]
 constructor
 ·rintro ⟨u,h,rfl⟩; exact ⟨u,List.mem_range.1 h,rfl⟩
 ·rintro ⟨u,h,rfl⟩; exact ⟨u,List.mem_range.2 h,rfl⟩
theorem MOut.init (N : Nat) (adj : Nat → List Nat) : MOut N adj (fun _ => 0) (diags N) 0:=by
 refine ⟨?_,fun x hx => ?_,fun x hx hd => ⟨mem_diags.2 ⟨x / N,div_lt_of hx,hd.eq⟩,rfl⟩,fun x hx hd => ⟨fun h => ?_,fun h => absurd h (by simp)⟩,fun _ _ _ _ _ _ _ => Nat.le_refl _,fun _ _ _ _ => by simp,fun _ _ => Nat.zero_le _,fun k x hk => by omega⟩
 ·unfold diags
  rw [List.nodup_iff_pairwise_ne,List.pairwise_map]
  refine List.pairwise_lt_range.imp_of_mem fun {a b} ha hb h e => ?_
  have hb:=List.mem_range.1 hb
  have:=Nat.mul_le_mul_right N (show a + 1 ≤ b by omega)
  rw [Nat.add_mul] at this
  omega
 ·obtain ⟨u,hu,rfl⟩:=mem_diags.1 hx
  exact pair_lt hu hu
 ·obtain ⟨u,hu,rfl⟩:=mem_diags.1 h
  exact absurd (diag_mk hu) hd
theorem MOut.enter (h : MOut N adj D q i) (hv : q[i]? = some v) : MIn N adj D q i v [] :=
 ⟨hv,h.nodup,h.low,h.diag,h.old,h.mono,h.top v hv,h.bnd,h.done,fun _ ht => by cases ht⟩
theorem MIn.leave (h : MIn N adj D q i v pre) (hp : pre = adj v) : MOut N adj D q (i + 1):=by
 subst hp
 refine ⟨h.nodup,h.low,h.diag,h.old,h.mono,fun y hy x hx => ?_,h.bnd,fun k x hk hx => ?_⟩
 ·have:=h.mono i (i + 1) v y (by omega) h.at_ hy
  have:=h.top x hx
  omega
 ·by_cases e : k = i
  ·subst e
   rw [h.at_] at hx; cases hx
   exact h.now
  ·exact h.done k x (by omega) hx
/-- An arrow that is passed over: to a pair of equal nodes from one, to one that has come up. -/
theorem MIn.skip (h : MIn N adj D q i v pre) {t : Nat} (ht : (Diag N t ∧ Diag N v) ∨ (¬ Diag N t ∧ t ∈ q)) : MIn N adj D q i v (pre ++ [t]):=by
 refine ⟨h.at_,h.nodup,h.low,h.diag,h.old,h.mono,h.top,h.bnd,h.done,fun s hs => ?_⟩
 rcases List.mem_append.1 hs with hs | hs
 ·exact h.now s hs
 ·cases List.mem_singleton.1 hs
  rcases ht with ⟨h1,h2⟩ | ⟨h1,h2⟩
  ·exact ⟨fun q => absurd h1 q,fun _ => h2⟩
  ·exact ⟨fun _ => ⟨h2,h.top _ h2⟩,fun q => absurd q h1⟩
/-- A new one. -/
theorem MIn.add (h : MIn N adj D q i v pre) {t : Nat} (htl : t < N * N) (ht : ¬ Diag N t) (hq : t ∉ q) : MIn N adj (updN D t (D v + 1)) (q ++ [t]) i v (pre ++ [t]):=by
 have hi : i < q.length:=(List.getElem?_eq_some_iff.1 h.at_).1
 have hvq : v ∈ q:=List.mem_of_getElem? h.at_
 have hvt : v ≠ t:=fun e => hq (by rw [← e]; exact hvq)
 have hD : ∀ x,x ∈ q → updN D t (D v + 1) x = D x:=fun x hx => updN_other _ _ _ (fun e => hq (by rw [← e]; exact hx))
 have hget : ∀ k x,(q ++ [t])[k]? = some x → (q[k]? = some x ∧ k < q.length) ∨ (k = q.length ∧ x = t):=fun k x hx => by
  rw [List.getElem?_append] at hx
  split at hx
  ·exact .inl ⟨hx,by assumption⟩
  ·right
   cases hk : k - q.length with
   | zero => rw [hk] at hx; simp at hx; exact ⟨by omega,hx.symm⟩
   | succ n => rw [hk] at hx; simp at hx
 refine ⟨by rw [List.getElem?_append_left hi]; exact h.at_,List.nodup_append.2 ⟨h.nodup,by simp,fun a ha b hb e => by cases List.mem_singleton.1 hb; subst e; exact hq ha⟩,fun x hx => ?_,fun x hx hd => ?_,fun x hx hd => ?_,fun j k x y hjk hx hy => ?_,fun x hx => ?_,fun x hx => ?_,fun k x hk hx s hs => ?_,fun s hs => ?_⟩
 ·rcases List.mem_append.1 hx with hx | hx
  ·exact h.low x hx
  ·cases List.mem_singleton.1 hx; exact htl
 ·obtain ⟨h1,h2⟩:=h.diag x hx hd
  exact ⟨List.mem_append_left _ h1,by rw [hD x h1]; exact h2⟩
 ·by_cases e : x = t
  ·subst e; rw [updN_same]; simp
  ·rw [updN_other _ _ _ e,← h.old x hx hd]; simp [e]
 ·rcases hget j x hx with ⟨a1,_⟩ | ⟨a1,rfl⟩
  ·rw [hD x (List.mem_of_getElem? a1)]
   rcases hget k y hy with ⟨b1,_⟩ | ⟨b1,rfl⟩
   ·rw [hD y (List.mem_of_getElem? b1)]; exact h.mono j k x y hjk a1 b1
   ·rw [updN_same]; exact h.top x (List.mem_of_getElem? a1)
  ·rcases hget k y hy with ⟨b1,b2⟩ | ⟨b1,rfl⟩
   ·omega
   ·exact Nat.le_refl _
 ·rw [updN_other D t (D v + 1) hvt]
  rcases List.mem_append.1 hx with hx | hx
  ·rw [hD x hx]; exact h.top x hx
  ·cases List.mem_singleton.1 hx; rw [updN_same]; exact Nat.le_refl _
 ·rw [List.length_append,List.length_singleton]
  rcases List.mem_append.1 hx with hx | hx
  ·rw [hD x hx]; have:=h.bnd x hx; omega
  ·cases List.mem_singleton.1 hx; rw [updN_same]; have:=h.bnd v hvq; omega
 ·rcases hget k x hx with ⟨a1,_⟩ | ⟨a1,rfl⟩
  ·rw [hD x (List.mem_of_getElem? a1)]
   obtain ⟨c1,c2⟩:=h.done k x hk a1 s hs
   exact ⟨fun q' => by
    obtain ⟨d1,d2⟩:=c1 q'
    exact ⟨List.mem_append_left _ d1,by rw [hD s d1]; exact d2⟩,c2⟩
  ·omega
 ·rw [updN_other D t (D v + 1) hvt]
  rcases List.mem_append.1 hs with hs | hs
  ·obtain ⟨c1,c2⟩:=h.now s hs
   exact ⟨fun q' => by
    obtain ⟨d1,d2⟩:=c1 q'
    exact ⟨List.mem_append_left _ d1,by rw [hD s d1]; exact d2⟩,c2⟩
  ·cases List.mem_singleton.1 hs
   exact ⟨fun _ => ⟨List.mem_append_right _ (by simp),by rw [updN_same]; exact Nat.le_refl _⟩,fun q' => absurd q' ht⟩
/-- Of a way, whose vertices are gone through as far as j, the next one lies in the queue. -/
theorem MOut.along (h : MOut N adj D q i) {u : List Nat} (hu : ApartWay N adj u) : ∀ j,j + 1 < u.length →
 (∃ k,k ≤ j ∧ u.getD k 0 ∈ q ∧ D (u.getD k 0) ≤ k ∧ ∀ m,m < i → q[m]? ≠ some (u.getD k 0)) ∨ (u.getD j 0 ∈ q ∧ D (u.getD j 0) ≤ j ∧ ∃ m,m < i ∧ q[m]? = some (u.getD j 0))
 | 0,h1 => by
  obtain ⟨a,b⟩:=h.diag _ (hu.low 0 (by omega)) hu.fst
  by_cases q' : ∃ m,m < i ∧ q[m]? = some (u.getD 0 0)
  ·exact .inr ⟨a,by omega,q'⟩
  ·exact .inl ⟨0,Nat.le_refl _,a,by omega,fun m hm e => q' ⟨m,hm,e⟩⟩
 | j + 1,h1 => by
  rcases h.along hu j (by omega) with ⟨k,k1,k2,k3,k4⟩ | ⟨_,a2,m,m1,m2⟩
  ·exact .inl ⟨k,by omega,k2,k3,k4⟩
  ·obtain ⟨c1,_⟩:=h.done m _ m1 m2 _ (hu.arr j (by omega))
   obtain ⟨d1,d2⟩:=c1 (hu.inn (j + 1) (by omega) h1)
   by_cases q' : ∃ m,m < i ∧ q[m]? = some (u.getD (j + 1) 0)
   ·exact .inr ⟨d1,by omega,q'⟩
   ·exact .inl ⟨j + 1,Nat.le_refl _,d1,by omega,fun m hm e => q' ⟨m,hm,e⟩⟩
/-- At the end of the queue: there is no such way. -/
theorem MOut.none (h : MOut N adj D q i) (hi : q.length ≤ i) (u : List Nat) : ¬ ApartWay N adj u:=fun hu => by
 have h3:=hu.len
 rcases h.along hu (u.length - 2) (by omega) with ⟨k,_,k2,_,k4⟩ | ⟨_,_,m,m1,m2⟩
 ·obtain ⟨m,hm⟩:=List.mem_iff_getElem?.1 k2
  have:=(List.getElem?_eq_some_iff.1 hm).1
  exact k4 m (by omega) hm
 ·obtain ⟨_,c2⟩:=h.done m _ m1 m2 _ (hu.arr (u.length - 2) (by omega))
  refine hu.inn (u.length - 2) (by omega) (by omega) (c2 ?_)
  rw [show u.length - 2 + 1 = u.length - 1 by omega]
  exact hu.lst
/-- Whoever is met from v: no way is shorter. -/
theorem MIn.best (h : MIn N adj D q i v pre) {u : List Nat} (hu : ApartWay N adj u) : D v + 3 ≤ u.length + 1:=by
 have h3:=hu.len
 have ho : MOut N adj D q i:=⟨h.nodup,h.low,h.diag,h.old,h.mono,fun y hy => by rw [h.at_] at hy; cases hy; exact h.top,h.bnd,h.done⟩
 rcases ho.along hu (u.length - 2) (by omega) with ⟨k,k1,k2,k3,k4⟩ | ⟨_,_,m,m1,m2⟩
 ·obtain ⟨m,hm⟩:=List.mem_iff_getElem?.1 k2
  have hmi : i ≤ m:=Nat.le_of_not_lt fun q' => k4 m q' hm
  have:=h.mono i m v _ hmi h.at_ hm
  omega
 ·obtain ⟨_,c2⟩:=h.done m _ m1 m2 _ (hu.arr (u.length - 2) (by omega))
  refine absurd (c2 ?_) (hu.inn (u.length - 2) (by omega) (by omega))
  rw [show u.length - 2 + 1 = u.length - 1 by omega]
  exact hu.lst
/-- From whom each came. -/
def CameOf (N : Nat) (adj : Nat → List Nat) (D : Nat → Nat) (q : List Nat) (came : Nat → Int) : Prop :=
 (∀ x,x < N * N → ((came x < 0 ↔ Diag N x ∨ x ∉ q) ∧ (came x < 0 → came x = -1))) ∧ ∀ x,x < N * N → 0 ≤ came x → ∃ p : Nat,came x = p ∧ p ∈ q ∧ x ∈ adj p ∧ D x = D p + 1
theorem CameOf.init (N : Nat) (adj : Nat → List Nat) : CameOf N adj (fun _ => 0) (diags N) (fun _ => -1):=by
 refine ⟨fun x hx => ⟨⟨fun _ => ?_,fun _ => (by show (-1 : Int) < 0; decide)⟩,fun _ => rfl⟩,fun x _ h => by simp at h⟩
 by_cases hd : Diag N x
 ·exact .inl hd
 ·right
  intro hm
  obtain ⟨u,hu,rfl⟩:=mem_diags.1 hm
  exact hd (diag_mk hu)
theorem CameOf.add (h : MIn N adj D q i v pre) {came : Nat → Int} (hc : CameOf N adj D q came) {t : Nat} (ht : ¬ Diag N t) (hq : t ∉ q) (ha : t ∈ adj v) : CameOf N adj (updN D t (D v + 1)) (q ++ [t]) (updN came t (v : Int)):=by
 have hvq : v ∈ q:=List.mem_of_getElem? h.at_
 have hvt : v ≠ t:=fun e => hq (by rw [← e]; exact hvq)
 refine ⟨fun x hx => ?_,fun x hx h0 => ?_⟩
 ·by_cases e : x = t
  ·subst e; rw [updN_same]
   exact ⟨⟨fun q' => by omega,fun q' => by rcases q' with q' | q'; exact absurd q' ht; exact absurd (List.mem_append_right _ (by simp)) q'⟩,fun q' => by omega⟩
  ·rw [updN_other _ _ _ e]
   obtain ⟨a,b⟩:=hc.1 x hx
   refine ⟨?_,b⟩
   rw [a]; simp [e]
 ·by_cases e : x = t
  ·subst e
   refine ⟨v,updN_same ..,List.mem_append_left _ hvq,ha,?_⟩
   rw [updN_same,updN_other _ _ _ hvt]
  ·rw [updN_other _ _ _ e] at h0 ⊢
   obtain ⟨p,p1,p2,p3,p4⟩:=hc.2 x hx h0
   refine ⟨p,p1,List.mem_append_left _ p2,p3,?_⟩
   rw [updN_other _ _ _ e,updN_other _ _ _ (fun e' => hq (by rw [← e']; exact p2))]
   exact p4
/-- The way back from u to a pair of equal nodes. -/
inductive BackWay (N : Nat) (adj : Nat → List Nat) (came : Nat → Int) : Nat → List Nat → Prop
 | stop (x : Nat) (h : came x = -1) (hd : Diag N x) : BackWay N adj came x [x]
 | step (x p : Nat) (c : List Nat) (h : came x = p) (hd : ¬ Diag N x) (ha : x ∈ adj p) (hp : p < N * N) (hc : BackWay N adj came p c) : BackWay N adj came x (x :: c)
theorem CameOf.back {came : Nat → Int} (hq : ∀ x ∈ q,x < N * N) (h0 : ∀ x ∈ q,¬ Diag N x → 0 < D x) (hc : CameOf N adj D q came) : ∀ n x,D x = n → x ∈ q → ∃ c,BackWay N adj came x c ∧ c.length ≤ n + 1
 | n,x,hn,hx => by
  obtain ⟨a,b⟩:=hc.1 x (hq x hx)
  by_cases hd : Diag N x
  ·exact ⟨[x],.stop x (b (a.2 (.inl hd))) hd,by simp⟩
  ·have h1 : 0 ≤ came x:=by
    apply Classical.byContradiction
    intro q'
    rcases a.1 (by omega) with q' | q'
    ·exact hd q'
    ·exact q' hx
   obtain ⟨p,p1,p2,p3,p4⟩:=hc.2 x (hq x hx) h1
   obtain ⟨c,c1,c2⟩:=CameOf.back hq h0 hc (n - 1) p (by omega) p2
   exact ⟨x :: c,.step x p c p1 hd p3 (hq p p2) c1,by simp; omega⟩
termination_by n => n
decreasing_by all_goals (have:=h0 x hx hd; omega)
theorem BackWay.ne {came : Nat → Int} {x : Nat} {c : List Nat} (h : BackWay N adj came x c) : ∃ c',c = x :: c':=by cases h <;> exact ⟨_,rfl⟩
theorem BackWay.next {came : Nat → Int} {x : Nat} {c : List Nat} (h : BackWay N adj came x c) (hx : x < N * N) : ∀ k y,c[k]? = some y → y < N * N ∧ ((k + 1 < c.length ∧ ∃ z,c[k + 1]? = some z ∧ came y = z) ∨ (k + 1 = c.length ∧ came y = -1)):=by
 induction h with
 | stop x h hd =>
  intro k y hy
  cases k with
  | zero => simp at hy; subst hy; exact ⟨hx,.inr ⟨rfl,h⟩⟩
  | succ k => simp at hy
 | step x p c hcm hnd ha hp hc ih =>
  intro k y hy
  obtain ⟨c',rfl⟩:=hc.ne
  cases k with
  | zero => simp at hy; subst hy; exact ⟨hx,.inl ⟨by simp,p,rfl,hcm⟩⟩
  | succ k =>
   have hy : (p :: c')[k]? = some y:=by simpa using hy
   obtain ⟨h1,h2⟩:=ih hp k y hy
   refine ⟨h1,h2.imp ?_ ?_⟩
   ·rintro ⟨a,z,b,d⟩; exact ⟨by simpa using a,z,by simpa using b,d⟩
   ·rintro ⟨a,b⟩; exact ⟨by simpa using a,b⟩
/-- The whole way, from its first vertex on. -/
theorem BackWay.way {came : Nat → Int} {x : Nat} {c : List Nat} (h : BackWay N adj came x c) (hx : x < N * N) :
 (∀ i,i < c.length → c.reverse.getD i 0 < N * N) ∧ (∀ i,i + 1 < c.length → c.reverse.getD (i + 1) 0 ∈ adj (c.reverse.getD i 0)) ∧ Diag N (c.reverse.getD 0 0) ∧ (∀ i,0 < i → i < c.length → ¬ Diag N (c.reverse.getD i 0)) ∧ c.reverse.getD (c.length - 1) 0 = x ∧ 0 < c.length:=by
 induction h with
 | stop x _ hd => exact ⟨fun i hi => by simp at hi; subst hi; simpa using hx,fun i hi => by simp at hi,by simpa using hd,fun i h1 h2 => by simp at h2; omega,by simp,by simp⟩
 | step x p c hcm hnd ha hp hc ih =>
  obtain ⟨i1,i2,i3,i4,i5,i6⟩:=ih hp
  have g1 : ∀ i,i < c.length → (x :: c).reverse.getD i 0 = c.reverse.getD i 0:=fun i hi => by
   rw [List.reverse_cons,List.getD_eq_getElem?_getD,List.getElem?_append_left (by simpa using hi)]; rfl
  have g2 : (x :: c).reverse.getD c.length 0 = x:=by
   rw [List.reverse_cons,List.getD_eq_getElem?_getD,List.getElem?_append_right (by simp)]; simp
  refine ⟨fun i hi => ?_,fun i hi => ?_,?_,fun i h1 h2 => ?_,?_,by simp⟩
  ·by_cases e : i < c.length
   ·rw [g1 i e]; exact i1 i e
   ·obtain rfl : i = c.length:=by simp at hi; omega
    rw [g2]; exact hx
  ·have hi : i + 1 < c.length + 1:=by simpa using hi
   rw [g1 i (by omega)]
   by_cases e : i + 1 < c.length
   ·rw [g1 _ e]; exact i2 i e
   ·obtain rfl : i = c.length - 1:=by omega
    rw [i5,show c.length - 1 + 1 = c.length by omega,g2]; exact ha
  ·rw [g1 0 i6]; exact i3
  ·by_cases e : i < c.length
   ·rw [g1 i e]; exact i4 i h1 e
   ·obtain rfl : i = c.length:=by simp at h2; omega
    rw [g2]; exact hnd
  ·rw [List.length_cons,Nat.add_sub_cancel,g2]
/-- What is met: a way of the kind, and none is shorter. -/
theorem MIn.met (h : MIn N adj D q i v pre) {came : Nat → Int} (hc : CameOf N adj D q came) {t : Nat} (hv : ¬ Diag N v) (ht : Diag N t) (htl : t < N * N) (ha : t ∈ adj v) :
 ∃ c,BackWay N adj came v c ∧ ApartWay N adj (c.reverse ++ [t]) ∧ (c.reverse ++ [t]).length = D v + 2 ∧ ∀ u,ApartWay N adj u → (c.reverse ++ [t]).length ≤ u.length:=by
 have hvq : v ∈ q:=List.mem_of_getElem? h.at_
 obtain ⟨c,hb,hl⟩:=hc.back h.low (fun x hx hd => (h.old x (h.low x hx) hd).1 hx) (D v) v rfl hvq
 obtain ⟨w1,w2,w3,w4,w5,w6⟩:=hb.way (h.low v hvq)
 have h2 : 2 ≤ c.length:=by
  obtain ⟨c',rfl⟩:=hb.ne
  cases hb with
  | stop _ _ hd => exact absurd hd hv
  | step _ p _ _ _ _ _ hc' => obtain ⟨_,rfl⟩:=hc'.ne; simp
 have g1 : ∀ i,i < c.length → (c.reverse ++ [t]).getD i 0 = c.reverse.getD i 0:=fun i hi => by
  rw [List.getD_eq_getElem?_getD,List.getElem?_append_left (by simpa using hi)]; rfl
 have g2 : (c.reverse ++ [t]).getD c.length 0 = t:=by
  rw [List.getD_eq_getElem?_getD,List.getElem?_append_right (by simp)]; simp
 have hL : (c.reverse ++ [t]).length = c.length + 1:=by simp
 have hw : ApartWay N adj (c.reverse ++ [t]):=by
  refine ⟨by omega,fun i hi => ?_,fun i hi => ?_,?_,?_,fun i h1 h2 => ?_⟩
  ·by_cases e : i < c.length
   ·rw [g1 i e]; exact w1 i e
   ·obtain rfl : i = c.length:=by omega
    rw [g2]; exact htl
  ·rw [g1 i (by omega)]
   by_cases e : i + 1 < c.length
   ·rw [g1 _ e]; exact w2 i e
   ·obtain rfl : i = c.length - 1:=by omega
    rw [w5,show c.length - 1 + 1 = c.length by omega,g2]; exact ha
  ·rw [g1 0 (by omega)]; exact w3
  ·rw [hL,Nat.add_sub_cancel,g2]; exact ht
  ·rw [g1 i (by omega)]; exact w4 i h1 (by omega)
 have hmin : ∀ u,ApartWay N adj u → D v + 2 ≤ u.length:=fun u hu => by have:=h.best hu; omega
 have:=hmin _ hw
 refine ⟨c,hb,hw,by omega,fun u hu => ?_⟩
 have:=hmin u hu
 omega
end
/-- One arrow. -/
def stepM (N v : Nat) (s : (Nat → Int) × List Nat) (t : Nat) : (Nat → Int) × List Nat:=if ¬ Diag N t ∧ s.1 t < 0 then (updN s.1 t (v : Int),s.2 ++ [t]) else s
def rowM (N : Nat) (adj : Nat → List Nat) (v : Nat) (s : (Nat → Int) × List Nat) (k : Nat) : (Nat → Int) × List Nat:=((adj v).take k).foldl (stepM N v) s
/-- The search behind its first j vertices. -/
def stM (N : Nat) (adj : Nat → List Nat) : Nat → (Nat → Int) × List Nat
 | 0 => (fun _ => -1,diags N)
 | j + 1 => match (stM N adj j).2[j]? with
  | some v => rowM N adj v (stM N adj j) (adj v).length
  | none => stM N adj j
theorem rowM_succ {N : Nat} {adj : Nat → List Nat} {v k t : Nat} {s : (Nat → Int) × List Nat} (h : (adj v)[k]? = some t) : rowM N adj v s (k + 1) = stepM N v (rowM N adj v s k) t:=by
 unfold rowM
 rw [List.take_add_one,h,List.foldl_append]; rfl
theorem stM_succ {N : Nat} {adj : Nat → List Nat} {j v : Nat} (h : (stM N adj j).2[j]? = some v) : stM N adj (j + 1) = rowM N adj v (stM N adj j) (adj v).length:=by
 rw [stM,h]
def NoHit (N : Nat) (adj : Nat → List Nat) (j : Nat) : Prop:=∀ v,(stM N adj j).2[j]? = some v → ∀ t ∈ adj v,Diag N t → Diag N v
/-- What is met. -/
def MeetIs (N : Nat) (adj : Nat → List Nat) (ws : List Nat) : Prop :=
 ∃ j v k t c,(stM N adj j).2[j]? = some v ∧ (adj v)[k]? = some t ∧ Diag N t ∧ ¬ Diag N v ∧ BackWay N adj (rowM N adj v (stM N adj j) k).1 v c ∧ ws = c.reverse ++ [t] ∧ (∀ i,i < j → NoHit N adj i) ∧ ∀ i x,i < k → (adj v)[i]? = some x → Diag N x → Diag N v
open Go.RowKit
set_option maxRecDepth 100000
theorem symbol_any (K R : Nat) (va : Option Addr) (vn vc : Nat) (T : List Int) (u : Value) (ys : List Int) (w : World) (h : IntsAt w (.slice va vn vc) T) (hr : RuleOk K R T) (hu : IntsAt w u ys) (hy : Syms K ys) (hyl : ys.length = 2 * R + 1) :
 Calls Tryz.prog 80 #[.agg #[.int .i64 K,.int .i64 R,.slice va vn vc],u] w (Ret1 (fun x _ => x = .int .i64 (T.getD (numW K ys) 0)) w):=by
 have hb0:=belowAlloc w (.cells #[.int .i64 K,.int .i64 R,.slice va vn vc] 24)
 have hR:=hr.r3
 have hk1:=hr.k1
 have hk4:=hr.k4
 have l1:=hu.len
 have hb7 : ys.length ≤ 7:=by omega
 have hnl : numW K ys < T.length:=by rw [hr.len,← hyl]; exact numW_lt ys hy
 generalize hy0 : T.getD (numW K ys) 0 = y0
 replace hy0:=Hd hy0
 replace hnl:=Hd hnl
 replace hyl:=Hd hyl
 replace h:=Hd (h.below hb0)
 replace hu:=Hd (hu.below hb0)
 replace hy:=Hd hy
 replace hr:=Hd hr
 obtain ⟨ua,un,uc,rfl⟩:=hu.out.shape
 go_enter Tryz.func80,Tryz.ntmps80
 go_wp2
 go_loop [5,10] (fun n i => ∃ j : Nat,j ≤ ys.length ∧ i = .int .i64 j ∧ n = .int .i64 (numW K (ys.take j))) (fun _ i => ys.length - (intOf i).toNat)
 case atStart => exact ⟨0,by omega,rfl,rfl⟩
 case round =>
  obtain ⟨j,hj,rfl,rfl⟩:=hrel
  by_cases hjl : j < ys.length
  ·have i1:=hu.out.idx j hjl
   have c1:=hu.out.cell j hjl
   have hx:=hy.out ys[j] (by simp)
   have hn : Hid (numW K (ys.take (j + 1)) = numW K (ys.take j) * K + ys[j].toNat):=by
    show _ = _
    rw [take_snoc ys j hjl,numW_snoc]
   have hn2 : numW K (ys.take j) ≤ 16384:=by
    have h1:=numW_lt (ys.take j) (fun x hx => hy.out x (List.mem_of_mem_take hx))
    have h2:=pw_le hk1 hk4 (i:=(ys.take j).length) (by simp; omega)
    omega
   generalize ys[j] = x at c1 hx hn
   generalize numW K (ys.take j) = N at hn hn2
   have hm1 : 0 ≤ (N : Int) * (K : Int):=Int.mul_nonneg (by omega) (by omega)
   have hm2 : (N : Int) * (K : Int) ≤ 65536:=by
    have : N * K ≤ 65536:=Nat.mul_le_mul hn2 hk4
    have h2:=Int.ofNat_le.2 this
    rw [Int.natCast_mul] at h2
    exact h2
   go_wp2
   go_round
   case rel => exact ⟨j + 1,by omega,by go_num,by rw [hn.out]; go_num⟩
   case measure => simp [intOf]; omega
  ·obtain rfl : j = ys.length:=by omega
   rw [List.take_length]
   have i2:=h.out.idx (numW K ys) hnl.out
   have c2:=h.out.cellD (numW K ys) hnl.out
   rw [hy0.out] at c2
   clear hy0 hnl
   generalize numW K ys = N at i2 c2
   go_wp2
   go_ret
   exact ⟨_,rfl,hb0,rfl⟩
/-- The table of a function of windows. -/
def madeP (K n : Nat) (s : List Int → Int) (m : Nat) : List Int:=(List.range m).map fun x => s (digs K n x)
theorem madeP_length (K n : Nat) (s : List Int → Int) (m : Nat) : (madeP K n s m).length = m:=by simp [madeP]
theorem madeP_set (K n : Nat) (s : List Int → Int) (m P : Nat) (h : m < P) : (madeP K n s m ++ List.replicate (P - m) (0 : Int)).set m (s (digs K n m)) = madeP K n s (m + 1) ++ List.replicate (P - (m + 1)) 0:=by
 rw [List.set_append_right _ _ (by rw [madeP_length]; exact Nat.le_refl _),madeP_length,Nat.sub_self,show P - m = (P - (m + 1)) + 1 by omega,List.replicate_succ,List.set_cons_zero,madeP,madeP,List.range_succ,List.map_append,List.append_assoc]
 rfl
set_option maxHeartbeats 800000 in
theorem made_two0 (K R F : Nat) (c1 c2 : Value) (s : List Int → Int) (w : World) (hk1 : 1 ≤ K) (hk4 : K ≤ 4) (hR : R ≤ 3)
 (eg : ∀ args w,(callFunc F args).run Tryz.prog w = .ok (.enter F args) w)
 (hF : ∀ (v : Value) (ys : List Int) (w' : World),Below w.heap.size w w' → IntsAt w' v ys → Syms K ys → ys.length = 2 * R + 1 → Calls Tryz.prog F #[v,c1,c2] w' (Ret1 (fun x _ => x = .int .i64 (s ys)) w')) :
 Calls Tryz.prog 76 #[.int .i64 K,.int .i64 R,.func (.func F) #[] #[c1,c2]] w (Ret1 (fun x w' => ∃ a n c,x = .agg #[.int .i64 K,.int .i64 R,.slice a n c] ∧ OwnI w.heap.size w' (.slice a n c) (madeP K (2 * R + 1) s (pw K (2 * R + 1)))) w):=by
 have hpl:=pw_le hk1 hk4 (i:=2 * R + 1) (by omega)
 replace hF:=Hd hF
 go_enter Tryz.func76,Tryz.ntmps76
 go_wp2_with fail
 refine (size_ok K R _ hk1 hk4 hR).mono ?_
 rintro e w' ⟨rfl,rfl⟩
 go_wp2_with fail
 have hb0:=belowAlloc w (.cells #[.int .i64 0,.int .i64 0,.slice none 0 0] 24)
 obtain ⟨tv,w1,hmk,ho1,hb1⟩:=run_makeI ((pw K (2 * R + 1) : Nat) : Int) (pw K (2 * R + 1)) (w.alloc (.cells #[.int .i64 0,.int .i64 0,.slice none 0 0] 24)) rfl (by omega)
 obtain ⟨ta,tn,tc,rfl⟩:=ho1.at.shape
 rw [hmk]
 simp only [Result.andThen]
 clear hmk
 generalize hN : 2 * R + 1 = N at *
 go_wp2_with fail
 obtain ⟨wv,w2,hmk2,ho2,hb2⟩:=run_makeI (2 * (R : Int) + 1) N (w1.alloc (.cells #[.int .i64 K,.int .i64 R,.slice ta tn tc] 24)) (by omega) (by omega)
 obtain ⟨wa,wn,wc,rfl⟩:=ho2.at.shape
 rw [hmk2]
 simp only [Result.andThen]
 clear hmk2
 obtain ⟨z0,z1,z2,-,-,-⟩:=cells3 hb2
 have lt:=(ho1.at.len)
 rw [List.length_replicate] at lt
 have hN7 : N ≤ 7:=by omega
 replace hN:=Hd hN
 have ltb : ∀ k,(Value.slice ta tn tc).ownBlock = some k → k < w1.heap.size:=fun k hk => (ho1.lt k hk).2
 have lwn:=ho2.at.len
 rw [List.length_replicate] at lwn
 have ho1':=Hd ((ho1.alloc (.cells #[.int .i64 K,.int .i64 R,.slice ta tn tc] 24)).below hb2)
 have zz:=Hd (And.intro z0 (And.intro z1 z2))
 have hbw:=Hd (hb1.trans ((Below.step (belowAlloc w1 (.cells #[.int .i64 K,.int .i64 R,.slice ta tn tc] 24)) hb2).mono hb1.size))
 replace ho2:=Hd ho2
 replace ltb:=Hd ltb
 have hsz1:=hb1.size
 simp at hsz1
 have hM : pw K N = pw K N:=rfl
 clear hM
 go_wp2
 go_loopw [32] (fun i wr => ∃ m : Nat,m ≤ pw K N ∧ i = .int .i64 m ∧ OwnI (w.heap.size + 1) wr (.slice ta tn tc) (madeP K N s m ++ List.replicate (pw K N - m) 0) ∧ (∃ p : List Int,p.length = N ∧ OwnI (w1.heap.size + 1) wr (.slice wa wn wc) p) ∧
  (wr.cell? ⟨w1.heap.size,0,none⟩ = some (.int .i64 K) ∧ wr.cell? ⟨w1.heap.size,1,none⟩ = some (.int .i64 R) ∧ wr.cell? ⟨w1.heap.size,2,none⟩ = some (.slice ta tn tc)) ∧
  Below (w.heap.size + 1) (w.alloc (.cells #[.int .i64 0,.int .i64 0,.slice none 0 0] 24)) wr) (fun i _ => pw K N - (intOf i).toNat)
 case atStart => exact ⟨0,by omega,rfl,by simpa [madeP] using ho1'.out,⟨List.replicate N 0,by simp,by simpa using ho2.out⟩,zz.out,by simpa using hbw.out⟩
 case round =>
  obtain ⟨m,hm,rfl,hT,⟨p,hp,hP⟩,hz,hbO⟩:=hrel
  obtain ⟨wo,rfl⟩ : ∃ wo : World,wo = wr:=⟨_,rfl⟩
  replace hz:=Hd hz
  replace hT:=Hd hT
  by_cases hml : m < pw K N
  ·have hsz2 : w1.heap.size < wo.heap.size:=World.block_lt_of_cell? _ _ hz.out.1
   have hK0 : ((K : Int) == 0) = false:=by rw [beq_eq_false_iff_ne]; omega
   have hK1 : ¬ (K : Int) = 0:=by omega
   have hK2 : (0 : Int) < K:=by omega
   go_wp2
   go_loopw [12,38] (fun x i wr => ∃ j : Nat,j ≤ N ∧ i = .int .i64 j ∧ x = .int .i64 (m / pw K j : Nat) ∧ OwnI (w1.heap.size + 1) wr (.slice wa wn wc) (p.take (N - j) ++ (digs K N m).drop (N - j)) ∧ Below (w1.heap.size + 1) wo wr) (fun _ i _ => N - (intOf i).toNat)
   case atStart => exact ⟨0,by omega,rfl,by simp [pw],by rw [Nat.sub_zero,List.drop_of_length_le (by rw [digs_length]; exact Nat.le_refl _),List.append_nil,List.take_of_length_le (by omega)]; exact hP,Below.refl _ _⟩
   case round =>
    obtain ⟨j,hj,rfl,rfl,hO,hbI⟩:=hrel
    obtain ⟨wi,rfl⟩ : ∃ wi : World,wi = wr:=⟨_,rfl⟩
    by_cases hjl : j < N
    ·have hXl : (p.take (N - j) ++ (digs K N m).drop (N - j)).length = N:=by simp [digs_length]; omega
     have i1 : ∀ w',(Instr.indexAt 22 (.slice wa wn wc) (.int .i64 ((N : Int) - 1 - (j : Int)))).run Tryz.prog w' = .ok (.pointer (some (valAt (.slice wa wn wc) (N - 1 - j)))) w':=by
      intro w'
      have:=hO.at.idxI ((N : Int) - 1 - (j : Int)) (by omega) (by rw [hXl]; omega) w'
      rwa [show ((N : Int) - 1 - (j : Int)).toNat = N - 1 - j by omega] at this
     have c1:=hO.at.cellD (N - 1 - j) (by rw [hXl]; omega)
     have f1:=hO.frz (N - 1 - j) (by rw [hXl]; omega)
     have hS:=hO.set (N - 1 - j) (by rw [hXl]; omega) ((m / pw K j % K : Nat) : Int)
     have hbS:=hO.setBelow hbI (N - 1 - j) (by rw [hXl]; omega) (.int .i64 ((m / pw K j % K : Nat) : Int))
     rw [digs_fill K N m j hjl p hp] at hS
     replace hS:=Hd hS
     replace hbS:=Hd hbS
     have hqd : m / pw K j / K = m / pw K (j + 1):=by rw [Nat.div_div_eq_div_mul,← pw_succ]
     replace hqd:=Hd hqd
     have hql : m / pw K j ≤ 16384:=Nat.le_trans (Nat.div_le_self _ _) (by omega)
     generalize (p.take (N - j) ++ (digs K N m).drop (N - j)).getD (N - 1 - j) 0 = y at c1
     clear hXl hO
     generalize m / pw K j = q at *
     rw [Int.natCast_emod] at hS hbS
     have hd0 : 0 ≤ (q : Int) / (K : Int):=Int.ediv_nonneg (by omega) (by omega)
     have hd1 : (q : Int) / (K : Int) ≤ 16384:=by
      have h1 : q / K ≤ q:=Nat.div_le_self _ _
      have h2 : q / K ≤ 16384:=by omega
      exact_mod_cast h2
     have hdw : IntKind.i64.wrap ((q : Int) / (K : Int)) = (q : Int) / (K : Int):=wrapK (by omega) (by omega)
     go_wp2
     go_roundw
     case rel => exact ⟨j + 1,by omega,by go_num,by rw [← hqd.out]; simp,hS.out,hbS.out⟩
     case measure => simp [intOf]; omega
    ·have hjN : j = N:=by omega
     subst hjN
     rw [Nat.sub_self,List.take_zero,List.drop_zero,List.nil_append] at hO
     have hbW : Below w.heap.size w wi:=((belowAlloc w _).trans (hbO.mono (by omega))).trans (hbI.mono (by omega))
     have hz2:=hbI.cell (p:=⟨w1.heap.size,2,none⟩) (by simp)
     have hTl : m < (madeP K j s m ++ List.replicate (pw K j - m) (0 : Int)).length:=by simp [madeP_length]; omega
     have hTi:=hT.out.belowB hbI (fun k hk => by have:=ltb.out k hk; omega)
     have i2:=hTi.at.idx m hTl
     have c2:=hTi.at.cellD m hTl
     have f2:=hTi.frz m hTl
     have b2:=hTi.at.blk m hTl
     have z2i:=hz2.trans hz.out.2.2
     have zbi : (⟨w1.heap.size,2,none⟩ : Addr).block < wi.heap.size:=World.block_lt_of_cell? _ _ z2i
     generalize (madeP K j s m ++ List.replicate (pw K j - m) (0 : Int)).getD m 0 = o at c2
     replace hTi:=Hd hTi
     replace hO:=Hd hO
     replace hbW:=Hd hbW
     replace hTl:=Hd hTl
     clear hz2
     have hvb : (valAt (.slice ta tn tc) m).block ≠ w1.heap.size:=by
      have:=ltb.out _ (hT.out.toV.blkB m (by simpa using hTl.out)).1
      omega
     have hdl : m + 1 ≤ pw K j:=hml
     go_wp2
     go_region_held3 (fun w' => w'.cell? ⟨w1.heap.size,2,none⟩ = some (.slice ta tn tc)) (go_keep)
      (first | (refine (hF.out _ (digs K j m) _ (by first | exact hbW.out.drew | exact hbW.out) (by first | exact hO.out.at.drew | exact hO.out.at) (digs_syms hk1 _ _) (by rw [digs_length])).mono ?_; rintro e w5 ⟨x5,rfl,hb5,rfl⟩; have y1:=(hb5.cell zbi).trans z2i; have y2:=(hb5.cell b2).trans c2; have y3:=(hb5.frozen b2).trans f2; have bb : Below wi.heap.size wi w5:=((Below.refl _ _).drew).trans hb5))
     have hT5:=(hTi.out.drew.below hb5).set m hTl.out (s (digs K j m))
     rw [madeP_set K j s m _ hml] at hT5
     have hO5:=(hO.out.drew.below hb5).setOther (hTi.out.drew.below hb5) (by
      intro e
      have e1:=(hT.out.toV.blkB m (by simpa using hTl.out)).1
      have e2:=(hO.out.lt _ (e.trans e1)).1
      have e3:=ltb.out _ e1
      omega) m hTl.out (.int .i64 (s (digs K j m)))
     have hB5:=((hbO.trans (hbI.mono (by omega))).trans (bb.mono (by omega))).setCell ((hTi.out.blkB m hTl.out)) (.int .i64 (s (digs K j m)))
     have x0:=(World.cell?_setCell_far w5 (valAt (.slice ta tn tc) m) ⟨w1.heap.size,0,none⟩ (.int .i64 (s (digs K j m))) hvb).trans (((bb.cell (p:=⟨w1.heap.size,0,none⟩) zbi)).trans ((hbI.cell (p:=⟨w1.heap.size,0,none⟩) (by simp)).trans hz.out.1))
     have x1:=(World.cell?_setCell_far w5 (valAt (.slice ta tn tc) m) ⟨w1.heap.size,1,none⟩ (.int .i64 (s (digs K j m))) hvb).trans (((bb.cell (p:=⟨w1.heap.size,1,none⟩) zbi)).trans ((hbI.cell (p:=⟨w1.heap.size,1,none⟩) (by simp)).trans hz.out.2.1))
     have x2:=(World.cell?_setCell_far w5 (valAt (.slice ta tn tc) m) ⟨w1.heap.size,2,none⟩ (.int .i64 (s (digs K j m))) hvb).trans y1
     have xx:=Hd (And.intro x0 (And.intro x1 x2))
     clear x0 x1 x2
     replace hT5:=Hd hT5
     replace hO5:=Hd hO5
     replace hB5:=Hd hB5
     go_wp2
     go_roundw
     case rel => exact ⟨m + 1,by omega,by go_num,hT5.out,⟨digs K j m,digs_length ..,hO5.out⟩,xx.out,hB5.out⟩
     case measure => simp [intOf]; omega
  ·obtain rfl : m = pw K N:=by omega
   rw [Nat.sub_self,List.replicate_zero,List.append_nil] at hT
   obtain ⟨z0,z1,z2⟩:=hz.out
   obtain ⟨y0,y1,y2,f0,f1,f2⟩:=cells3 (w:=w) (show Below (w.alloc (.cells #[.int .i64 0,.int .i64 0,.slice none 0 0] 24)).heap.size _ wo by simpa using hbO)
   replace hbO:=Hd hbO
   go_wp2
   refine bodyPost_ret (v:=.agg #[.int .i64 K,.int .i64 R,.slice ta tn tc]) (by simp [results,Tryz.results76,go_sem,y0,y1,y2]) rfl ⟨_,rfl,?_,ta,tn,tc,rfl,?_⟩
   ·exact (((belowAlloc w _).trans (hbO.out.mono (by omega))).setCell (by simp) _).setCell (by simp) _ |>.setCell (by simp) _
   ·rw [hN.out]; exact (((hT.out.setBelowBase (a:=⟨w.heap.size,0,none⟩) (by simp) _).setBelowBase (a:=⟨w.heap.size,1,none⟩) (by simp) _).setBelowBase (a:=⟨w.heap.size,2,none⟩) (by simp) _).mono (Nat.le_succ _)
theorem made_two (K R F : Nat) (c1 c2 : Value) (s : List Int → Int) (w : World) (hk1 : 1 ≤ K) (hk4 : K ≤ 4) (hR : R ≤ 3) (Ri : Int) (hRi : Ri = R)
 (eg : ∀ args w,(callFunc F args).run Tryz.prog w = .ok (.enter F args) w)
 (hF : ∀ (v : Value) (ys : List Int) (w' : World),Below w.heap.size w w' → IntsAt w' v ys → Syms K ys → ys.length = 2 * R + 1 → Calls Tryz.prog F #[v,c1,c2] w' (Ret1 (fun x _ => x = .int .i64 (s ys)) w')) :
 Calls Tryz.prog 76 #[.int .i64 K,.int .i64 Ri,.func (.func F) #[] #[c1,c2]] w (Ret1 (fun x w' => ∃ a n c,x = .agg #[.int .i64 K,.int .i64 R,.slice a n c] ∧ OwnI w.heap.size w' (.slice a n c) (madeP K (2 * R + 1) s (pw K (2 * R + 1)))) w):=by
 subst hRi
 exact made_two0 K R F c1 c2 s w hk1 hk4 hR eg hF
def sForms : ByteArray:=⟨#[102,111,114,109,115]⟩
theorem forms_check (r : Nat → Addr) (at_ : Int) (k R : Int) (va : Option Addr) (vn vc : Nat) (xs : List Int) (w : World) (hg : Glob r w) (h : IntsAt w (.slice va vn vc) xs) :
 Calls Tryz.prog 73 #[.int .i64 at_,.agg #[.int .i64 k,.int .i64 R,.slice va vn vc]] w (Ret1 (fun x w' => ErrIs r w' (under sForms at_ (checkP k R xs)) x) w):=by
 have hb0:=belowAlloc w (.cells #[.int .i64 k,.int .i64 R,.slice va vn vc] 24)
 replace hg:=Hd (hg.below hb0)
 replace h:=Hd (h.below hb0)
 go_enter Tryz.func73,Tryz.ntmps73
 go_wp2_with fail
 refine (check_any r k R _ xs _ hg.out h.out).mono ?_
 rintro e w1 ⟨x,rfl,hb,he⟩
 go_wp2_with fail
 refine (under_any r _ _ _ _ _ he).mono ?_
 rintro e w2 ⟨x,rfl,hb',he⟩
 go_wp2
 go_ret
 exact ⟨_,rfl,Below.step hb0 (Below.step hb hb'),he⟩
end Go.Proofs.YtncpnaoabkjegaaGreatDoor
namespace Go.Proofs.YtncpnaoabkjegaaGreatDoor
open Go.RowKit Go.Shelf
set_option maxRecDepth 100000
def Tryz.laysRev_ren : Go.Shelf.Ren:=⟨fun | 112 => 79 | n => n,fun | 28 => 22 | 3 => 3 | 4 => 4 | 0 => 0 | n => n,fun | n => n⟩
theorem Tryz.laysRev : Go.Proofs.Lays.n112 Tryz.prog Tryz.laysRev_ren:={
 mixed:=by kernel_rfl
 f112:=Tryz.func79.trans (congrArg some (by kernel_rfl))
 t0:=Tryz.underlying0
 a0:=Tryz.isAgg0
 z0:=Tryz.sizeOf0
 v0:=Tryz.zeroValue0
 t3:=Tryz.underlying3
 a3:=Tryz.isAgg3
 z3:=Tryz.sizeOf3
 v3:=Tryz.zeroValue3
 t4:=Tryz.underlying4
 a4:=Tryz.isAgg4
 z4:=Tryz.sizeOf4
 v4:=Tryz.zeroValue4
 t28:=Tryz.underlying22
 a28:=Tryz.isAgg22
 z28:=Tryz.sizeOf22
 v28:=Tryz.zeroValue22 }
theorem setCells_own {B g n cap : Nat} {w0 : World} : ∀ (zs : List Int) (o : Nat) (xs : List Int) (w : World),xs.length = n → o + zs.length ≤ n → OwnI B w (.slice (some ⟨g,0,none⟩) n cap) xs → Below B w0 w →
 OwnI B (w.setCells g o (zs.map (Value.int .i64))) (.slice (some ⟨g,0,none⟩) n cap) (xs.take o ++ zs ++ xs.drop (o + zs.length)) ∧ Below B w0 (w.setCells g o (zs.map (Value.int .i64)))
 | [],o,xs,w,_,_,h,hb => ⟨by simpa [World.setCells] using h,hb⟩
 | z :: r,o,xs,w,hn,ho,h,hb => by
  have hol : o < xs.length:=by simp at ho; omega
  have h1:=h.set o hol z
  have h2:=h.setBelow hb o hol (.int .i64 z)
  rw [valAt_row] at h1 h2
  have ih:=setCells_own r (o + 1) (xs.set o z) _ (by simpa using hn) (by simp at ho; omega) h1 h2
  have e : (xs.set o z).take (o + 1) ++ r ++ (xs.set o z).drop (o + 1 + r.length) = xs.take o ++ (z :: r) ++ xs.drop (o + (z :: r).length):=by
   rw [List.take_set,List.drop_set_of_lt (by omega)]
   rw [show (xs.take (o + 1)).set o z = xs.take o ++ [z] by rw [take_snoc xs o hol,List.set_append_right _ _ (by simp; omega)]; simp [show o - min o xs.length = 0 by omega]]
   simp [show o + 1 + r.length = o + (r.length + 1) by omega]
  rw [e] at ih
  exact ih
/-- slices.Reverse at a list of one's own. -/
theorem reverse_own (B : Nat) (v : Value) (xs : List Int) (w : World) (h : OwnI B w v xs) (hl : xs.length ≤ 9223372036854775807) :
 Calls Tryz.prog 79 #[v] w fun e w' => e = .returned (.tuple #[]) ∧ OwnI B w' v xs.reverse ∧ Below B w w':=by
 rcases h.2 with ⟨rfl,hn⟩ | ⟨g,cap,cur,rfl,hb,hg,hn,hm,hs,ht⟩
 ·obtain rfl:=List.length_eq_zero_iff.1 hn
  refine Calls.mono (Any.slices_Reverse_int_empty Tryz.laysRev none 0 w) ?_
  rintro e w' ⟨rfl,rfl⟩
  exact ⟨rfl,h,Below.refl _ _⟩
 ·refine Calls.mono (Any.slices_Reverse_int_cells Tryz.laysRev g 0 xs.length cap xs w (Nat.le_refl _) hl (fun j hj => ?_) (fun j hj => ?_)) ?_
  ·have:=h.at.cellD j hj
   rw [valAt_row] at this
   simpa using this
  ·have:=h.frz j hj
   rw [valAt_row] at this
   simpa using this
  ·rintro e w' ⟨rfl,q,rfl⟩
   rw [List.take_length]
   have:=setCells_own (w0:=w) xs.reverse 0 xs (w.drewN q) rfl (by simp) (h.drewN q) (below_drewN (Below.refl _ _) q)
   simp at this
   simpa using ⟨this.1,this.2⟩
end Go.Proofs.YtncpnaoabkjegaaGreatDoor
namespace Go.Proofs.YtncpnaoabkjegaaGreatDoor
open Go.RowKit
set_option maxRecDepth 100000
end Go.Proofs.YtncpnaoabkjegaaGreatDoor
namespace Go.Proofs.YtncpnaoabkjegaaGreatDoor
open Go.RowKit Go.Shelf
attribute [local go_sem] Oper.semAt_some
set_option maxRecDepth 100000
set_option maxHeartbeats 2000000 in
/-- The iterator of slices.Values: for every loop body that keeps what lay below n0. -/
theorem vals1_in (F : Fence) (n : Nat) (hF : F.fn 158) (hro : F.round = none) (hn : 1 ≤ n) (l Bs n0 : Nat) (v : Value) (zs : List Int) (J Jx : List Int → World → Prop)
 (hY : ∀ pre x W,J pre W → pre.length < zs.length → YieldAt F (n - 1) Tryz.prog l #[.int .i64 x] W fun e W' =>
   (e = .returned (.bool true) ∧ J (pre ++ [x]) W' ∧ Below n0 W W') ∨ (e = .returned (.bool false) ∧ Jx (pre ++ [x]) W'))
 (W : World) (hBs : W.cell? ⟨Bs,0,none⟩ = some v) (hv : IntsAt W v zs) (hb : ∀ i,i < zs.length → (valAt v i).block < n0) (h0 : J [] W) :
 CallsIn F n Tryz.prog 158 #[.func (.yield l) #[] #[],.pointer (some ⟨Bs,0,none⟩)] W fun e W' => (∃ u,e = .returned u) ∧
  ((∃ ys,ys = zs ∧ J ys W') ∨ (∃ pre,pre <+: zs ∧ Jx pre W')):=by
 have hlen:=hv.len
 have hmax:=hv.len_le
 replace hv:=Hd hv
 refine callsIn_of_wp Tryz.func158 rfl hF ?_ hro
 simp only [Tryz.ntmps158,List.size_toArray,List.length_cons,List.length_nil,Nat.reduceAdd,Nat.reduceSub,Array.replicate_succ,Array.replicate_zero,List.push_toArray,List.append_toArray,List.nil_append,List.cons_append]
 gi_wp2
 gi_loopw [7] (fun i wr => ∃ k : Nat,k ≤ zs.length ∧ i = .int .i64 k ∧ J (zs.take k) wr ∧ Below n0 W wr)
  (fun i _ => zs.length - (intOf i).toNat)
 case atStart => exact ⟨0,Nat.zero_le _,rfl,h0,Below.refl _ _⟩
 case round =>
  obtain ⟨k,hk,rfl,hJs,hnx⟩:=hrel
  by_cases hlt : k < zs.length
  ·have i1:=hv.out.idx k hlt
   have c1:=(hnx.cell (hb k hlt)).trans (hv.out.cell k hlt)
   have ht:=Hd (take_snoc zs k hlt)
   obtain ⟨x,hx⟩ : ∃ x,x = zs[k]:=⟨_,rfl⟩
   rw [← hx] at c1 ht
   clear hx
   obtain ⟨fn,tmps,assign,body,hy,hR⟩:=hY _ x wr hJs (by simp; omega)
   replace hJs:=Hd hJs
   gi_wp2
   refine hR.mono ?_
   rintro e W3 (⟨rfl,hJ3,hk3⟩ | ⟨rfl,hJx3⟩)
   ·replace hJ3:=Hd hJ3
    gi_wp2
    go_roundw
    case rel => exact ⟨k + 1,by omega,by go_num,by rw [ht.out]; exact hJ3.out,hnx.trans hk3⟩
    case measure => simp [intOf]; omega
   ·replace hJx3:=Hd hJx3
    gi_wp2
    refine bodyPost_ret (results_none rfl _ _ _) rfl ?_
    exact ⟨⟨_,rfl⟩,.inr ⟨_,by rw [← ht.out]; exact List.take_prefix _ _,hJx3.out⟩⟩
  ·obtain rfl : k = zs.length:=by omega
   rw [List.take_length] at hJs
   replace hJs:=Hd hJs
   gi_wp2
   go_end0
   exact ⟨⟨_,rfl⟩,.inl ⟨_,rfl,hJs.out⟩⟩
/-- slices.Values(s): the slice is boxed; the function value captures the box. -/
theorem vals_any (a : Option Addr) (n c : Nat) (w : World) :
 Calls Tryz.prog 82 #[.slice a n c] w fun e w' => e = .returned (.func (.func 158) #[] #[.pointer (some ⟨w.heap.size,0,none⟩)]) ∧ w.alloc (.cells #[.slice a n c] 22) = w':=by
 go_enter Tryz.func82,Tryz.ntmps82
 go_wp2
 go_ret
 exact ⟨rfl,rfl⟩
theorem vals_stops (F : Fence) (n : Nat) (hF : F.fn 158) (hro : F.round = none) (hn : 1 ≤ n) (Bs n0 : Nat) (v : Value) (zs : List Int) (w : World) (hBs : Bs < w.heap.size)
 (hc : w.cell? ⟨Bs,0,none⟩ = some v) (hv : IntsAt w v zs) (hb : ∀ i,i < zs.length → (valAt v i).block < n0) :
 SeqStopsK F n Tryz.prog 158 #[.pointer (some ⟨Bs,0,none⟩)] (fun x : Int => #[Value.int .i64 x]) (Below n0) (fun ys => ys = zs) (fun pre => pre <+: zs) zs.length w:=fun l J Jx W hW _ _ hY h0 =>
 vals1_in F n hF hro hn l Bs n0 v zs J Jx hY W ((hW.cell (p:=⟨Bs,0,none⟩) hBs).trans hc) (hv.below hW) hb h0
set_option maxHeartbeats 2000000 in
/-- slices.AppendSeq(nil, slices.Values(s)): a new list of the same numbers. -/
theorem appendSeq_in (F : Fence) (n : Nat) (hA : F.fn 204) (hV : F.fn 158) (hro : F.round = none) (hn : 3 ≤ n) (Bs : Nat) (v : Value) (zs : List Int) (hlen : zs.length ≤ 17592186044416) (w : World)
 (hBs : Bs < w.heap.size) (hc : w.cell? ⟨Bs,0,none⟩ = some v) (hv : IntsAt w v zs) :
 CallsIn F n Tryz.prog 204 #[.slice none 0 0,.func (.func 158) #[] #[.pointer (some ⟨Bs,0,none⟩)]] w fun e w' => ∃ x,e = .returned x ∧ OwnI w.heap.size w' x zs ∧ Below w.heap.size w w':=by
 have h1 : 1 ≤ n:=by omega
 obtain ⟨i0,hi,hz0,hz1,hz2⟩:=info_parts iInt
 refine callsIn_of_wp_marks Tryz.func204 rfl hA ?_ hro
 simp only [Tryz.ntmps204,List.size_toArray,List.length_cons,List.length_nil,Nat.reduceAdd,Nat.reduceSub,Array.replicate_succ,Array.replicate_zero,List.push_toArray,List.append_toArray,List.nil_append,List.cons_append]
 replace hv:=Hd hv
 gi_wp2
 have bO:=Boxed.new w 22 (.slice none 0 0)
 have hB0 : Below w.heap.size w (w.alloc (.cells #[.slice none 0 0] 22)):=(Below.refl _ w).alloc (Nat.le_refl _) _
 refine wpIn_rangeFunc_ownG hro h1 (gf:=158) (lb:=#[.pointer (some ⟨Bs,0,none⟩)]) rfl hV (enters_of Tryz.func158 (by kernel_rfl) rfl)
  (vals_stops F (n - 1) hV hro (by omega) Bs w.heap.size v zs _ (by simp; omega) ((hB0.cell (p:=⟨Bs,0,none⟩) hBs).trans hc) (hv.out.below hB0) (fun i hi => hv.out.blk i hi)) belowK_t (belowK_b (by simp)) (Below.refl _ _) (fun _ => rfl)
  (fun pre W => (∃ v,Boxed W w.heap.size 22 v ∧ W.ownsRow w.heap.size 3 1 v pre.length (pre.map (Value.int .i64)) ∧ (v = .slice none 0 0 ↔ pre = [])) ∧ Below w.heap.size w W)
  (fun _ _ _ => False)
  (OwnFrom.and (Own.from (holdsRow_own w.heap.size w.heap.size 22 3 1 (fun pre => pre.length) (fun pre => pre.map (Value.int .i64)) (fun pre v => v = .slice none 0 0 ↔ pre = [])) _) (ownFrom_below (Nat.le_refl _) (by simp)))
  (fun _ _ _ _ _ hs _ _ => hs)
  ⟨⟨_,bO,World.ownsRow_nil _ _ _ _,by simp⟩,hB0⟩
  (fun x => { tmps:=#[.slice none 0 0,.func (.func 158) #[] #[.pointer (some ⟨Bs,0,none⟩)],.pointer (some ⟨w.heap.size,0,none⟩),undef,.slice none 0 0,.int .i64 x,.func (.func 158) #[] #[.pointer (some ⟨Bs,0,none⟩)],.int .i64 x,undef,undef,undef,undef,undef],defers:=[] }) ?assign ?body ?done ?stop
 case assign =>
  intro l x W K hK
  gi_wp2
  exact hK
 case body =>
  rintro l pre x W ⟨⟨v,hv,hrow,hnil⟩,hB⟩ hlt
  have hc:=hv.cell
  gi_wp2_with (gi_at_builtin; refine wpListIn_append_own _ rfl _ _ 22 rfl w.heap.size 3 i0 (.int .i64 0) 1 8 uInts hi hz0 hz1 hz2 rfl (by decide) _ _ _ rfl (hrow.alloc _) ⟨W.heap.size,0,none⟩ 1 1 [.int .i64 x] rfl rfl (cell_one_new _ _ _) (by simp [Value.oneCell']) (by unfold maxLen; omega) (by omega) (by have:=hB.size; simp; omega) ?_; intro v' w1 hown' hgrow _; obtain ⟨g',cap',rfl⟩:=ownsRow_succ hown'; obtain ⟨hv1,hv2,hr2,hk2,hb2⟩:=hv.appended (by decide) hrow hB.size (Nat.le_refl _) hown' hgrow; have hc1:=hv1.cell; have hf1:=hv1.frozen)
  exact ⟨hk2.from _,hb2,⟨_,hv2,by simpa using hr2,by simp⟩,hB.trans hb2⟩
 case done =>
  rintro D ys W hD rfl ⟨⟨v,hv,hrow,hnil⟩,hB⟩ hK
  have hc:=hv.cell
  gi_wp2
  refine ⟨by simp,.inl ⟨_,_,rfl,run_takeDeferred hK,?_⟩⟩
  exact ⟨_,results_tmp rfl _ _ _,v,rfl,ownsRow_putObj hrow _ hK rfl,hB.trans (belowK_b (w:=w) (Nat.le_refl _) W D _ _ (by simp at hD; omega) hK rfl rfl)⟩
 case stop =>
  rintro D c pre W _ _ h _
  exact h.elim
theorem collect_any (Bs : Nat) (v : Value) (zs : List Int) (hlen : zs.length ≤ 17592186044416) (w : World) (hBs : Bs < w.heap.size) (hc : w.cell? ⟨Bs,0,none⟩ = some v) (hv : IntsAt w v zs) :
 Calls Tryz.prog 157 #[.func (.func 158) #[] #[.pointer (some ⟨Bs,0,none⟩)]] w (Ret1 (fun x w' => OwnI w.heap.size w' x zs) w):=by
 have hA:=(callsIn_wide (n:=6)).1 (appendSeq_in Fence.wide 6 trivial trivial rfl (by omega) Bs v zs hlen w hBs hc hv)
 go_enter Tryz.func157,Tryz.ntmps157
 go_wp2_with fail
 refine hA.mono ?_
 clear hA
 rintro e w1 ⟨x,rfl,ho,hb⟩
 replace ho:=Hd ho
 go_wp2
 go_ret
 exact ⟨_,rfl,hb,ho.out⟩
end Go.Proofs.YtncpnaoabkjegaaGreatDoor
namespace Go.Proofs.YtncpnaoabkjegaaGreatDoor
open Go.RowKit Go.Shelf Go.Sort
set_option maxRecDepth 100000
def Tryz.laysSort_ren : Go.Shelf.Ren:=⟨fun | 5 => 113 | 8 => 182 | 7 => 181 | 19 => 223 | 20 => 224 | 10 => 214 | 11 => 215 | 12 => 216 | 13 => 217 | 14 => 218 | 15 => 219 | 16 => 220 | 17 => 221 | 18 => 222 | 30 => 243 | 31 => 244 | 32 => 245 | 33 => 246 | 34 => 247 | 35 => 248 | 40 => 258 | n => n,fun | 23 => 22 | 25 => 3 | 3 => 3 | 32 => 252 | 22 => 22 | 0 => 0 | 44 => 283 | 46 => 272 | 4 => 4 | 36 => 277 | 35 => 276 | 41 => 264 | 5 => 5 | 9 => 9 | 53 => 304 | 57 => 308 | 63 => 317 | 64 => 318 | n => n,fun | n => n⟩
theorem Tryz.laysSort : Go.Proofs.SlLaysM.n5 Tryz.prog Tryz.laysSort_ren:={
 mixed:=by kernel_rfl
 f5:=⟨Tryz.f113.name,by decide,Tryz.func113.trans (congrArg some (by kernel_rfl))⟩
 f7:=⟨Tryz.f181.name,by decide,Tryz.func181.trans (congrArg some (by kernel_rfl))⟩
 f8:=Tryz.func182.trans (congrArg some (by kernel_rfl))
 f10:=⟨Tryz.f214.name,by decide,Tryz.func214.trans (congrArg some (by kernel_rfl))⟩
 f11:=⟨Tryz.f215.name,by decide,Tryz.func215.trans (congrArg some (by kernel_rfl))⟩
 f12:=⟨Tryz.f216.name,by decide,Tryz.func216.trans (congrArg some (by kernel_rfl))⟩
 f13:=⟨Tryz.f217.name,by decide,Tryz.func217.trans (congrArg some (by kernel_rfl))⟩
 f14:=⟨Tryz.f218.name,by decide,Tryz.func218.trans (congrArg some (by kernel_rfl))⟩
 f15:=⟨Tryz.f219.name,by decide,Tryz.func219.trans (congrArg some (by kernel_rfl))⟩
 f16:=⟨Tryz.f220.name,by decide,Tryz.func220.trans (congrArg some (by kernel_rfl))⟩
 f17:=⟨Tryz.f221.name,by decide,Tryz.func221.trans (congrArg some (by kernel_rfl))⟩
 f18:=⟨Tryz.f222.name,by decide,Tryz.func222.trans (congrArg some (by kernel_rfl))⟩
 f19:=Tryz.func223.trans (congrArg some (by kernel_rfl))
 f20:=Tryz.func224.trans (congrArg some (by kernel_rfl))
 f30:=⟨Tryz.f243.name,by decide,Tryz.func243.trans (congrArg some (by kernel_rfl))⟩
 f31:=Tryz.func244.trans (congrArg some (by kernel_rfl))
 f32:=Tryz.func245.trans (congrArg some (by kernel_rfl))
 f33:=⟨Tryz.f246.name,by decide,Tryz.func246.trans (congrArg some (by kernel_rfl))⟩
 f34:=⟨Tryz.f247.name,by decide,Tryz.func247.trans (congrArg some (by kernel_rfl))⟩
 f35:=⟨Tryz.f248.name,by decide,Tryz.func248.trans (congrArg some (by kernel_rfl))⟩
 f40:=⟨Tryz.f258.name,by decide,Tryz.func258.trans (congrArg some (by kernel_rfl))⟩
 t0:=Tryz.underlying0
 a0:=Tryz.isAgg0
 z0:=Tryz.sizeOf0
 v0:=Tryz.zeroValue0
 t3:=Tryz.underlying3
 a3:=Tryz.isAgg3
 z3:=Tryz.sizeOf3
 v3:=Tryz.zeroValue3
 t4:=Tryz.underlying4
 a4:=Tryz.isAgg4
 z4:=Tryz.sizeOf4
 v4:=Tryz.zeroValue4
 t5:=Tryz.underlying5
 a5:=Tryz.isAgg5
 z5:=Tryz.sizeOf5
 v5:=Tryz.zeroValue5
 t9:=Tryz.underlying9
 a9:=Tryz.isAgg9
 z9:=Tryz.sizeOf9
 v9:=Tryz.zeroValue9
 t22:=Tryz.underlying22
 a22:=Tryz.isAgg22
 z22:=Tryz.sizeOf22
 v22:=Tryz.zeroValue22
 t23:=Tryz.underlying22
 a23:=Tryz.isAgg22
 z23:=Tryz.sizeOf22
 v23:=Tryz.zeroValue22
 t25:=Tryz.underlying3
 a25:=Tryz.isAgg3
 z25:=Tryz.sizeOf3
 v25:=Tryz.zeroValue3
 t32:=Tryz.underlying252
 a32:=Tryz.isAgg252
 z32:=Tryz.sizeOf252
 v32:=Tryz.zeroValue252
 t35:=Tryz.underlying276
 a35:=Tryz.isAgg276
 z35:=Tryz.sizeOf276
 v35:=Tryz.zeroValue276
 t36:=Tryz.underlying277
 a36:=Tryz.isAgg277
 z36:=Tryz.sizeOf277
 v36:=Tryz.zeroValue277
 t41:=Tryz.underlying264
 a41:=Tryz.isAgg264
 z41:=Tryz.sizeOf264
 v41:=Tryz.zeroValue264
 t44:=Tryz.underlying283
 a44:=Tryz.isAgg283
 z44:=Tryz.sizeOf283
 v44:=Tryz.zeroValue283
 t46:=Tryz.underlying272
 a46:=Tryz.isAgg272
 z46:=Tryz.sizeOf272
 v46:=Tryz.zeroValue272
 t53:=Tryz.underlying304
 a53:=Tryz.isAgg304
 z53:=Tryz.sizeOf304
 v53:=Tryz.zeroValue304
 t57:=Tryz.underlying308
 a57:=Tryz.isAgg308
 z57:=Tryz.sizeOf308
 v57:=Tryz.zeroValue308
 t63:=Tryz.underlying317
 a63:=Tryz.isAgg317
 z63:=Tryz.sizeOf317
 v63:=Tryz.zeroValue317
 t64:=Tryz.underlying318
 a64:=Tryz.isAgg318
 z64:=Tryz.sizeOf318
 v64:=Tryz.zeroValue318 }
/-- Ascending. -/
def srt (xs : List Int) : List Int:=xs.mergeSort fun x y => decide (x ≤ y)
theorem srt_length (xs : List Int) : (srt xs).length = xs.length:=by simp [srt]
/-- slices.Sort at a list of one's own. -/
theorem sort_own (B : Nat) (v : Value) (xs : List Int) (w : World) (h : OwnI B w v xs) (hl : xs.length ≤ 17592186044416) (hB : B ≤ w.heap.size) :
 Calls Tryz.prog 113 #[v] w fun e w' => e = .returned (.tuple #[]) ∧ OwnI B w' v (srt xs) ∧ Below B w w':=by
 rcases h.2 with ⟨rfl,hn⟩ | ⟨g,cap,cur,rfl,hb,hg,hn,hcm,hs,ht⟩
 ·obtain rfl:=List.length_eq_zero_iff.1 hn
  refine Calls.mono (AnyM.slices_Sort_int_none Tryz.laysSort none 0 w) ?_
  rintro e w' ⟨rfl,rfl⟩
  exact ⟨rfl,by simpa [srt] using h,Below.refl _ _⟩
 ·have hlen : xs.length < 4611686018427387904:=by omega
  refine Calls.mono (AnyM.slices_Sort_int Tryz.laysSort g 0 cap xs w (holds_of_block_i hg (by simpa using ht)) (Array.getElem?_eq_some_iff.1 hg).1 hlen) ?_
  rintro e w' ⟨rfl,n,os,rfl⟩
  refine ⟨rfl,?_,(Below.refl _ _).grown (grownBy_sorted_i _) hB (fun j hj => by cases hj; exact hb)⟩
  have:=ownsRow_sorted_i (n:=n) (os:=os) (ts:=srt xs) (srt_length xs) hb hg hn hcm hs
  unfold OwnI
  rw [srt_length]
  exact this
theorem sorted_any (Bs : Nat) (v : Value) (zs : List Int) (hlen : zs.length ≤ 17592186044416) (w : World) (hBs : Bs < w.heap.size) (hc : w.cell? ⟨Bs,0,none⟩ = some v) (hv : IntsAt w v zs) :
 Calls Tryz.prog 81 #[.func (.func 158) #[] #[.pointer (some ⟨Bs,0,none⟩)]] w (Ret1 (fun x w' => OwnI w.heap.size w' x (srt zs)) w):=by
 have hA:=collect_any Bs v zs hlen w hBs hc hv
 go_enter Tryz.func81,Tryz.ntmps81
 go_wp2_with fail
 refine hA.mono ?_
 clear hA
 rintro e w1 ⟨x,rfl,hb,ho⟩
 have hs:=hb.size
 go_wp2_with fail
 refine (sort_own w.heap.size x zs _ ho hlen hs).mono ?_
 rintro e w2 ⟨rfl,ho2,hb2⟩
 replace ho2:=Hd ho2
 go_wp2
 go_ret
 exact ⟨_,rfl,hb.trans hb2,ho2.out⟩
end Go.Proofs.YtncpnaoabkjegaaGreatDoor
namespace Go.Proofs.YtncpnaoabkjegaaGreatDoor
open Go.RowKit
set_option maxRecDepth 100000
/-- The first place of x. -/
def invP (p : List Int) (x : Int) : Int:=idxOf (fun y => x == y) p
theorem index_any (v : Value) (xs : List Int) (x : Int) (w : World) (h : IntsAt w v xs) :
 Calls Tryz.prog 85 #[v,.int .i64 x] w fun e w' => e = .returned (.int .i64 (invP xs x)) ∧ w = w':=by
 have hlen:=h.len
 have hm:=h.len_le
 replace h:=Hd h
 go_enter Tryz.func85,Tryz.ntmps85
 go_wp2
 go_loop [8] (fun i => ∃ j : Nat,j ≤ xs.length ∧ i = .int .i64 j ∧ ∀ t (ht : t < xs.length),t < j → (x == xs[t]) = false) (fun i => xs.length - (intOf i).toNat)
 case atStart => exact ⟨0,by omega,rfl,fun t ht h => by omega⟩
 case round =>
  obtain ⟨j,hj,rfl,hne⟩:=hrel
  by_cases hjl : j < xs.length
  ·have i1:=h.out.idx j hjl
   have c1:=h.out.cell j hjl
   by_cases he : (x == xs[j]) = true
   ·have hr : Hid (invP xs x = j):=Hd (idxOf_at j hjl he (fun t ht htj => hne t ht htj))
    have he' : x = xs[j]:=by simpa using he
    rw [← he'] at c1
    clear he he'
    replace hne:=Hd hne
    go_wp2
    go_ret
    exact ⟨ret_int hr.out.symm,rfl⟩
   ·have hn : Hid (∀ t (ht : t < xs.length),t < j + 1 → (x == xs[t]) = false):=Hd (fun t ht htj => by
     by_cases e : t = j
     ·subst e; simpa using he
     ·exact hne t ht (by omega))
    have he' : (x == xs[j]) = false:=by simpa using he
    obtain ⟨y,hy⟩ : ∃ y,y = xs[j]:=⟨_,rfl⟩
    rw [← hy] at c1 he'
    clear he hne hy
    go_wp2
    go_round
    case rel => exact ⟨j + 1,by omega,by go_num,hn.out⟩
    case measure => simp [intOf]; omega
  ·have hr : Hid (invP xs x = -1):=Hd (idxOf_neg (fun y hy => by
    obtain ⟨t,ht,rfl⟩:=List.mem_iff_getElem.1 hy
    exact hne t ht (by omega)))
   replace hne:=Hd hne
   go_wp2
   go_ret
   exact ⟨ret_int hr.out.symm,rfl⟩
end Go.Proofs.YtncpnaoabkjegaaGreatDoor
namespace Go.Proofs.YtncpnaoabkjegaaGreatDoor
theorem invP_at {T : List Int} {j : Nat} (hj : j < T.length) : ∃ i : Nat,invP T (T.getD j 0) = i ∧ i ≤ j ∧ T.getD i 0 = T.getD j 0:=by
 have ej : T.getD j 0 = T[j]:=by simp [List.getD,hj]
 rw [ej]
 rcases idxOf_cases (fun y => T[j] == y) T with ⟨_,hn⟩ | ⟨k,hk,hkl,hp,hm⟩
 ·have:=hn _ (List.getElem_mem hj); simp at this
 ·refine ⟨k,hk,?_,?_⟩
  ·apply Classical.byContradiction
   intro e
   have:=hm j hj (by omega)
   simp at this
  ·simp only [List.getD,List.getElem?_eq_getElem hkl,Option.getD_some]
   exact (show T[j] = T[k] by simpa using hp).symm
/-- The first symbol whose image is that of a lower one. -/
def SingleIs (T : List Int) (x y : Nat) : Prop:=y < T.length ∧ invP T (T.getD y 0) = x ∧ x < y ∧ ∀ i,i < y → (i : Int) ≤ invP T (T.getD i 0)
theorem img0_get {K : Nat} {T a : List Int} {i : Nat} (hi : i < a.length) : (imgP K 0 T a).getD i 0 = T.getD (a.getD i 0).toNat 0:=by
 rw [imgP_getD K 0 T a i (by omega)]
 have e : (a.drop i).take (2 * 0 + 1) = [a.getD i 0]:=by
  rw [List.drop_eq_getElem_cons hi,show 2 * 0 + 1 = 0 + 1 from rfl,List.take_succ_cons,List.take_zero]
  simp [List.getD,hi]
 rw [e]
 simp [numW]
theorem SingleIs.twins {K : Nat} {T : List Int} {x y : Nat} (hK : T.length = K) (h : SingleIs T x y) : IsTwins K 0 T [(x : Int)] [(y : Int)]:=by
 obtain ⟨h1,h2,h3,h4⟩:=h
 have sx : Syms K [(x : Int)]:=fun z hz => by simp at hz; subst hz; omega
 have sy : Syms K [(y : Int)]:=fun z hz => by simp at hz; subst hz; omega
 refine ⟨sx,sy,rfl,by simp; omega,by simp,by simp,by simp,?_⟩
 have he : T.getD x 0 = T.getD y 0:=by
  obtain ⟨i,i1,i2,i3⟩:=invP_at h1
  rw [h2] at i1
  obtain rfl : x = i:=by omega
  exact i3
 refine List.ext_getElem (by rw [imgP_length,imgP_length]; rfl) fun i h1 h2 => ?_
 rw [imgP_length] at h1
 have hi : i = 0:=by simp at h1; omega
 subst hi
 have g1:=img0_get (K:=K) (T:=T) (a:=[(x : Int)]) (i:=0) (by simp)
 have g2:=img0_get (K:=K) (T:=T) (a:=[(y : Int)]) (i:=0) (by simp)
 simp [List.getD] at g1 g2 he
 have l1 : 0 < (imgP K 0 T [(x : Int)]).length:=by rw [imgP_length]; simp
 have l2 : 0 < (imgP K 0 T [(y : Int)]).length:=by rw [imgP_length]; simp
 simp [List.getElem?_eq_getElem l1] at g1
 simp [List.getElem?_eq_getElem l2] at g2
 rw [g1,g2]
 exact he
theorem twins_pos {K R : Nat} {T a b : List Int} (h : IsTwins K R T a b) : 1 ≤ a.length:=by
 have hl:=h.len
 have hn:=h.ne
 rcases a with _ | ⟨x,a⟩
 ·cases b with
  | nil => exact absurd rfl hn
  | cons _ _ => simp at hl
 ·simp
theorem no_single {K : Nat} {T : List Int} (hK : T.length = K) (h : ∀ i,i < T.length → (i : Int) ≤ invP T (T.getD i 0)) (a b : List Int) : ¬ IsTwins K 0 T a b:=by
 intro t
 apply t.ne
 have hinj : ∀ i j,i < T.length → j < T.length → T.getD i 0 = T.getD j 0 → i ≤ j:=fun i j hi hj e => by
  obtain ⟨p,p1,p2,_⟩:=invP_at hj
  have:=h i hi
  rw [e,p1] at this
  omega
 refine List.ext_getElem t.len fun i h1 h2 => ?_
 have e:=congrArg (fun l => l.getD i 0) t.img
 simp only [img0_get h1,img0_get h2] at e
 simp only [List.getD,List.getElem?_eq_getElem h1,List.getElem?_eq_getElem h2,Option.getD_some] at e
 have s1:=t.sa _ (List.getElem_mem h1)
 have s2:=t.sb _ (List.getElem_mem h2)
 have l1:=hinj a[i].toNat b[i].toNat (by omega) (by omega) e
 have l2:=hinj b[i].toNat a[i].toNat (by omega) (by omega) e.symm
 omega
/-- Twins are longer than both their ends. -/
theorem IsTwins.long {K R : Nat} {T a b : List Int} (h : IsTwins K R T a b) : 4 * R + 1 ≤ a.length:=by
 apply Classical.byContradiction
 intro hl
 apply h.ne
 have hlen:=h.len
 have hlow:=h.low
 refine List.ext_getElem? fun i => ?_
 by_cases hi : i < 2 * R
 ·have:=congrArg (·[i]?) h.front
  simpa [List.getElem?_take,hi] using this
 ·by_cases hi2 : i < a.length
  ·have:=congrArg (·[i - (a.length - 2 * R)]?) h.back
   simp only [List.getElem?_drop] at this
   rw [show a.length - 2 * R + (i - (a.length - 2 * R)) = i by omega,show b.length - 2 * R + (i - (a.length - 2 * R)) = i by omega] at this
   exact this
  ·rw [List.getElem?_eq_none (by omega),List.getElem?_eq_none (by omega)]
/-- What twins.Finite tells, determined by the rule. -/
def FinIs (K R : Nat) (T a b : List Int) : Prop :=
 (R = 0 ∧ ∃ x y,SingleIs T x y ∧ a = [(x : Int)] ∧ b = [(y : Int)]) ∨
 (R ≠ 0 ∧ ∃ ws,MeetIs (pw K (2 * R)) (pairL K (pw K (2 * R)) T) ws ∧ a = alongW K (2 * R) (· / pw K (2 * R)) ws ∧ b = alongW K (2 * R) (· % pw K (2 * R)) ws)
open Go.RowKit
theorem IntsAt.piece {w : World} {a : Option Addr} {cap : Nat} {xs : List Int} (h : IntsAt w (.slice a xs.length cap) xs) (k l : Nat) (hk : k ≤ l) (hl : l ≤ xs.length) :
 IntsAt w (sliced a k l cap 1) ((xs.take l).drop k):=by
 obtain ⟨a',cap',e,h1,h2,h3,h4⟩:=h
 injection e with e1 _ e3
 subst e1 e3
 have hlen : ((xs.take l).drop k).length = l - k:=by simp; omega
 refine ⟨if cap = k then a else a.map (·.add (k * 1)),cap - k,by rw [hlen]; rfl,by rw [hlen]; omega,by omega,?_,fun i hi => ?_⟩
 ·intro hn
  by_cases hc : cap = k
  ·omega
  ·rw [if_neg hc] at hn
   have:=h3 (Option.map_eq_none_iff.1 hn)
   omega
 ·rw [hlen] at hi
  have hc : ¬ cap = k:=by omega
  show w.cell? (valAt (.slice (if cap = k then a else a.map (·.add (k * 1))) _ _) i) = _
  rw [if_neg hc]
  cases a with
  | none => have:=h3 rfl; omega
  | some p =>
   have h5:=h4 (k + i) (by omega)
   simp only [valAt] at h5
   show w.cell? ((p.add (k * 1)).add i) = _
   rw [Nat.mul_one,show (p.add k).add i = p.add (k + i) by unfold Addr.add; by_cases hk0 : k = 0 <;> by_cases hi0 : i = 0 <;> simp [hk0,hi0,Nat.add_assoc],h5]
   simp
/-- s[k:]. -/
theorem IntsAt.post {w : World} {v : Value} {xs : List Int} (h : IntsAt w v xs) (k : Nat) (hk : k ≤ xs.length) :
 ∃ u,(∀ w',(Instr.slice 22 v (some (.int .i64 k)) none none).run Tryz.prog w' = .ok u w') ∧ IntsAt w u (xs.drop k):=by
 have h':=h
 obtain ⟨a,cap,rfl,_⟩:=h'
 refine ⟨sliced a k xs.length cap 1,fun w' => ?_,?_⟩
 ·rw [run_slice_l w' 22 a xs.length cap uIntsE .i64 k (by omega) (by omega),eInts,sInt]
  rfl
 ·have:=h.piece k xs.length hk (Nat.le_refl _)
  rwa [List.take_length] at this
/-- s[k:l]. -/
theorem IntsAt.mid {w : World} {v : Value} {xs : List Int} (h : IntsAt w v xs) (k l : Nat) (hk : k ≤ l) (hl : l ≤ xs.length) :
 ∃ u,(∀ w',(Instr.slice 22 v (some (.int .i64 k)) (some (.int .i64 l)) none).run Tryz.prog w' = .ok u w') ∧ IntsAt w u ((xs.take l).drop k):=by
 have h':=h
 obtain ⟨a,cap,rfl,h1,_⟩:=h'
 refine ⟨sliced a k l cap 1,fun w' => ?_,h.piece k l hk hl⟩
 rw [run_slice_lh w' 22 a xs.length cap uIntsE .i64 .i64 k l (by omega) (by omega) (by omega),eInts,sInt]
 rfl
/-- s[:l]. -/
theorem IntsAt.front {w : World} {v : Value} {xs : List Int} (h : IntsAt w v xs) (l : Nat) (hl : l ≤ xs.length) :
 ∃ u,(∀ w',(Instr.slice 22 v none (some (.int .i64 l)) none).run Tryz.prog w' = .ok u w') ∧ IntsAt w u (xs.take l):=by
 have h':=h
 obtain ⟨a,cap,rfl,h1,_⟩:=h'
 refine ⟨sliced a 0 l cap 1,fun w' => ?_,?_⟩
 ·rw [run_slice_h w' 22 a xs.length cap uIntsE .i64 l (by omega) (by omega),eInts,sInt]
  rfl
 ·have:=h.piece 0 l (Nat.zero_le _) hl
  simpa using this
set_option maxRecDepth 100000
set_option maxHeartbeats 1000000 in
theorem widened1_any (K R d : Nat) (va : Option Addr) (vn vc : Nat) (T : List Int) (p q : Nat) (v : Value) (ys : List Int) (w : World)
 (h : IntsAt w (.slice va vn vc) T) (hr : RuleOk K R T) (hv : IntsAt w v ys) (hy : Syms K ys) (hyl : ys.length = 2 * (R + d) + 1)
 (hRd : R + d ≤ 3)
 (x0 : w.cell? ⟨p,0,none⟩ = some (.int .i64 K)) (x1 : w.cell? ⟨p,1,none⟩ = some (.int .i64 R)) (x2 : w.cell? ⟨p,2,none⟩ = some (.slice va vn vc)) (x3 : w.cell? ⟨q,0,none⟩ = some (.int .i64 d)) :
 Calls Tryz.prog 155 #[v,.pointer (some ⟨p,0,none⟩),.pointer (some ⟨q,0,none⟩)] w (Ret1 (fun x _ => x = .int .i64 (T.getD (numW K ((ys.drop d).take (2 * R + 1))) 0)) w):=by
 have lv:=hv.len
 obtain ⟨u,hu,hiu⟩:=hv.mid d (ys.length - d) (by omega) (by omega)
 have eL : (ys.take (ys.length - d)).drop d = (ys.drop d).take (2 * R + 1):=by
  rw [List.drop_take]; congr 1; omega
 rw [eL] at hiu
 have hD : (ys.length : Int) - (d : Int) = ((ys.length - d : Nat) : Int):=by omega
 have hle : ys.length ≤ 7:=by omega
 have hsy : Syms K ((ys.drop d).take (2 * R + 1)):=syms_take (syms_drop hy _) _
 have hsl : ((ys.drop d).take (2 * R + 1)).length = 2 * R + 1:=by simp; omega
 generalize hY : T.getD (numW K ((ys.drop d).take (2 * R + 1))) 0 = Y
 generalize (ys.drop d).take (2 * R + 1) = zs at *
 obtain ⟨e,hee⟩ : ∃ e,ys.length - d = e:=⟨_,rfl⟩
 rw [hee] at hD hu
 have he7 : e ≤ 7:=by omega
 have hwe : IntKind.i64.wrap (e : Int) = e:=wrapK (by omega) (by omega)
 obtain ⟨L,hL⟩ : ∃ L,ys.length = L:=⟨_,rfl⟩
 rw [hL] at lv hD hle
 have hd3 : d ≤ 3:=by omega
 replace hY:=Hd hY
 replace h:=Hd h
 replace hv:=Hd hv
 replace hy:=Hd hy
 replace hsy:=Hd hsy
 replace hsl:=Hd hsl
 replace hyl:=Hd hyl
 replace hr:=Hd hr
 replace hiu:=Hd hiu
 replace hL:=Hd hL
 clear hee eL
 go_enter Tryz.func155,Tryz.ntmps155
 go_upto_region 1 with fail
 refine wp_region_plan (fun w' => w'.cell? ⟨p,0,none⟩ = some (.int .i64 K) ∧ w'.cell? ⟨p,1,none⟩ = some (.int .i64 R) ∧ w'.cell? ⟨p,2,none⟩ = some (.slice va vn vc) ∧ w'.cell? ⟨q,0,none⟩ = some (.int .i64 d)) 9 [(0,true),(1,true),(2,true),(3,true),(4,true),(5,true),(6,true),(7,true),(8,false)] (by kernel_rfl) (by kernel_rfl) ?_
 have hS : w.drew.cell? ⟨p,0,none⟩ = some (.int .i64 K) ∧ w.drew.cell? ⟨p,1,none⟩ = some (.int .i64 R) ∧ w.drew.cell? ⟨p,2,none⟩ = some (.slice va vn vc) ∧ w.drew.cell? ⟨q,0,none⟩ = some (.int .i64 d):=⟨x0,x1,x2,x3⟩
 refine pqY 5 hS ?_
 refine pqY 6 hS ?_
 refine pqY 7 hS ?_
 refine pqY 8 hS ?_
 refine pqY 9 hS ?_
 refine pqY 10 hS ?_
 refine pqY 11 hS ?_
 refine pqY 12 hS ?_
 refine headC rfl (fun KK hK => ?_)
 go_simp
 refine (symbol_any K R va vn vc T u zs _ h.out.drew hr.out hiu.out.drew hsy.out hsl.out).mono ?_
 rintro e w1 ⟨x,rfl,b1,rfl⟩
 rw [hY.out]
 have hS1 : w1.cell? ⟨p,0,none⟩ = some (.int .i64 K) ∧ w1.cell? ⟨p,1,none⟩ = some (.int .i64 R) ∧ w1.cell? ⟨p,2,none⟩ = some (.slice va vn vc) ∧ w1.cell? ⟨q,0,none⟩ = some (.int .i64 d):=⟨cell_keep b1 hS.1,cell_keep b1 hS.2.1,cell_keep b1 hS.2.2.1,cell_keep b1 hS.2.2.2⟩
 refine hK _ _ hS1 ?_
 clear hK KK
 refine head0 ?_
 simp only [List.drop_succ_cons,List.drop_zero]
 clear hS hS1
 go_wp2
 refine NoPanic.normal ?_
 go_wp2
 go_ret
 exact ⟨_,rfl,Below.step ((Below.refl _ _).drew) b1,rfl⟩
theorem eg_widened1 (args : Array Value) (w : World) : (callFunc 155 args).run Tryz.prog w = .ok (.enter 155 args) w:=by kernel_rfl
theorem madeP_wide (K R d : Nat) (T : List Int) : madeP K (2 * (R + d) + 1) (fun ys => T.getD (numW K ((ys.drop d).take (2 * R + 1))) 0) (pw K (2 * (R + d) + 1)) = wideT K R d T:=rfl
set_option maxHeartbeats 1000000 in
theorem widened_any (K R d : Nat) (va : Option Addr) (vn vc : Nat) (T : List Int) (w : World) (h : IntsAt w (.slice va vn vc) T) (hr : RuleOk K R T) (hRd : R + d ≤ 3) (Ri : Int) (hRi : Ri = ((R + d : Nat) : Int)) :
 Calls Tryz.prog 74 #[.agg #[.int .i64 K,.int .i64 R,.slice va vn vc],.int .i64 Ri] w (Ret1 (fun x w' => ∃ a n c,x = .agg #[.int .i64 K,.int .i64 ((R + d : Nat) : Int),.slice a n c] ∧ OwnI w.heap.size w' (.slice a n c) (wideT K R d T)) w):=by
 have b0:=Below.step (belowAlloc w (.cells #[.int .i64 K,.int .i64 R,.slice va vn vc] 24)) (belowAlloc _ (.cells #[.int .i64 0,.int .i64 0,.slice none 0 0] 24))
 have b3:=Below.step b0 (belowAlloc _ (.cells #[.int .i64 d] 3))
 have q1 : Box3 (((w.alloc (.cells #[.int .i64 K,.int .i64 R,.slice va vn vc] 24)).alloc (.cells #[.int .i64 0,.int .i64 0,.slice none 0 0] 24)).alloc (.cells #[.int .i64 d] 3)) w.heap.size (.int .i64 K) (.int .i64 R) (.slice va vn vc):=by simp [Box3,go_sem]
 have q2 : Box3 (((w.alloc (.cells #[.int .i64 K,.int .i64 R,.slice va vn vc] 24)).alloc (.cells #[.int .i64 0,.int .i64 0,.slice none 0 0] 24)).alloc (.cells #[.int .i64 d] 3)) (w.heap.size + 1) (.int .i64 0) (.int .i64 0) (.slice none 0 0):=by simp [Box3,go_sem]
 have q3 : (((w.alloc (.cells #[.int .i64 K,.int .i64 R,.slice va vn vc] 24)).alloc (.cells #[.int .i64 0,.int .i64 0,.slice none 0 0] 24)).alloc (.cells #[.int .i64 d] 3)).cell? ⟨w.heap.size + 2,0,none⟩ = some (.int .i64 d):=by simp [go_sem]
 have hk1:=hr.k1
 have hk4:=hr.k4
 have hR3:=hr.r3
 have hsub : Ri - (R : Int) = (d : Int):=by omega
 have hRi3 : 0 ≤ Ri ∧ Ri ≤ 3:=by omega
 have h3:=h.below b3
 obtain ⟨W3,hW3⟩ : ∃ W3 : World,W3 = ((w.alloc (.cells #[.int .i64 K,.int .i64 R,.slice va vn vc] 24)).alloc (.cells #[.int .i64 0,.int .i64 0,.slice none 0 0] 24)).alloc (.cells #[.int .i64 d] 3):=⟨_,rfl⟩
 have s3 : W3.heap.size = w.heap.size + 3:=by rw [hW3]; simp
 rw [← hW3] at b3 q1 q2 q3 h3
 replace hRi:=Hd hRi
 replace hr:=Hd hr
 replace hW3:=Hd hW3
 replace s3:=Hd s3
 replace q2:=Hd q2
 replace h3:=Hd h3
 go_enter Tryz.func74,Tryz.ntmps74
 go_wp2_with fail
 rw [← hW3.out]
 refine (made_two K (R + d) _ (.pointer (some ⟨w.heap.size,0,none⟩)) (.pointer (some ⟨w.heap.size + 2,0,none⟩)) (fun ys => T.getD (numW K ((ys.drop d).take (2 * R + 1))) 0) W3 hk1 hk4 hRd Ri hRi.out eg_widened1 (fun v ys w' hB hv hy hyl => by
  have q11:=q1.below hB
  exact widened1_any K R d va vn vc T _ _ v ys w' (h3.out.below hB) hr.out hv hy hyl hRd q11.1.1 q11.1.2.1 q11.1.2.2 (cell_keep hB q3))).mono ?_
 rintro e w4 ⟨x,rfl,b4,a,n,c,rfl,ho⟩
 rw [madeP_wide] at ho
 obtain ⟨⟨y0,y1,y2⟩,f0,f1,f2⟩:=q2.out.below b4
 replace ho:=Hd ho
 clear q1 q3
 go_wp2
 refine bodyPost_ret (v:=.agg #[.int .i64 K,.int .i64 ((R + d : Nat) : Int),.slice a n c]) (by simp [results,Tryz.results74,go_sem,y0,y1,y2]) rfl ⟨_,rfl,below_set3 (Below.step b3 b4) (Nat.le_succ _) _ _ _,a,n,c,rfl,?_⟩
 have:=s3.out
 exact (((ho.out.setBelowBase (a:=⟨w.heap.size + 1,0,none⟩) (by simp; omega) _).setBelowBase (a:=⟨w.heap.size + 1,1,none⟩) (by simp; omega) _).setBelowBase (a:=⟨w.heap.size + 1,2,none⟩) (by simp; omega) _).mono (by omega)
set_option maxHeartbeats 1000000 in
theorem fwiden_ok (r : Nat → Addr) (K R d : Nat) (va : Option Addr) (vn vc : Nat) (T : List Int) (w : World) (hg : Glob r w) (h : IntsAt w (.slice va vn vc) T) (hr : RuleOk K R T) (hRd : R + d ≤ 3) (Ri : Int) (hRi : Ri = ((R + d : Nat) : Int)) :
 Calls Tryz.prog 180 #[.agg #[.int .i64 K,.int .i64 R,.slice va vn vc],.int .i64 Ri] w (Ret2 (fun x y w' => y = .nilIface ∧ ∃ a n c,x = .agg #[.int .i64 K,.int .i64 ((R + d : Nat) : Int),.slice a n c] ∧ OwnI w.heap.size w' (.slice a n c) (wideT K R d T)) w):=by
 have b0:=Below.step (belowAlloc w (.cells #[.int .i64 K,.int .i64 R,.slice va vn vc] 24)) (belowAlloc _ (.cells #[.int .i64 0,.int .i64 0,.slice none 0 0] 24))
 have q2 : Box3 ((w.alloc (.cells #[.int .i64 K,.int .i64 R,.slice va vn vc] 24)).alloc (.cells #[.int .i64 0,.int .i64 0,.slice none 0 0] 24)) (w.heap.size + 1) (.int .i64 0) (.int .i64 0) (.slice none 0 0):=by simp [Box3,go_sem]
 have q1 : Box3 ((w.alloc (.cells #[.int .i64 K,.int .i64 R,.slice va vn vc] 24)).alloc (.cells #[.int .i64 0,.int .i64 0,.slice none 0 0] 24)) w.heap.size (.int .i64 K) (.int .i64 R) (.slice va vn vc):=by simp [Box3,go_sem]
 have hk1:=hr.k1
 have hk4:=hr.k4
 have hR3:=hr.r3
 have hck:=Hd hr.check
 have h1 : R ≤ Ri:=by omega
 have h2 : Ri ≤ 3:=by omega
 have h1d : decide (Ri < (R : Int)) = false:=by simp; omega
 have h2d : decide ((3 : Int) < Ri) = false:=by simp; omega
 replace hRi:=Hd hRi
 replace hg:=Hd (hg.below b0)
 replace h:=Hd (h.below b0)
 replace hr:=Hd hr
 replace q1:=Hd q1
 replace q2:=Hd q2
 go_enter Tryz.func180,Tryz.ntmps180
 go_wp2_with fail
 refine (forms_check r _ K R va vn vc T _ hg.out h.out).mono ?_
 rintro e w1 ⟨x,rfl,hb,he⟩
 rw [hck.out] at he
 obtain rfl:=ErrIs.none_eq he
 have q11:=q1.out.below hb
 obtain ⟨⟨z0,z1,z2⟩,-,-,-⟩:=q11
 have s1:=hb.size
 simp only [World.size_alloc] at s1
 replace s1:=Hd s1
 go_wp2_with fail
 refine (widened_any K R d va vn vc T w1 (h.out.below hb) hr.out hRd Ri hRi.out).mono ?_
 rintro e w2 ⟨x,rfl,b2,a,n,c,rfl,ho⟩
 obtain ⟨⟨y0,y1,y2⟩,f0,f1,f2⟩:=q2.out.below (Below.step hb b2)
 replace ho:=Hd ho
 clear z0 z1 z2
 go_wp2
 refine bodyPost_ret (v:=.tuple #[.agg #[.int .i64 K,.int .i64 ((R + d : Nat) : Int),.slice a n c],.nilIface]) (by simp [results,Tryz.results180,go_sem,y0,y1,y2]) rfl ⟨_,_,rfl,below_set3 (Below.step b0 (Below.step hb b2)) (Nat.le_succ _) _ _ _,rfl,a,n,c,rfl,?_⟩
 have:=s1.out
 exact (((ho.out.setBelowBase (a:=⟨w.heap.size + 1,0,none⟩) (by simp; omega) _).setBelowBase (a:=⟨w.heap.size + 1,1,none⟩) (by simp; omega) _).setBelowBase (a:=⟨w.heap.size + 1,2,none⟩) (by simp; omega) _).mono (by omega)
/-- The working rule's radius and table. -/
def wkR (R : Nat) : Nat:=if R = 0 then 1 else R
def wkT (K R : Nat) (T : List Int) : List Int:=if R = 0 then wideT K 0 1 T else T
theorem wk_ok {K R : Nat} {T : List Int} (h : RuleOk K R T) : RuleOk K (wkR R) (wkT K R T):=by
 unfold wkR wkT
 by_cases e : R = 0
 ·subst e; rw [if_pos rfl,if_pos rfl]; exact wideT_ok (d:=1) h (by decide)
 ·rw [if_neg e,if_neg e]; exact h
theorem wk_pos (R : Nat) : 1 ≤ wkR R:=by unfold wkR; split <;> omega
theorem wk_small {K R : Nat} {T : List Int} (h : RuleOk K R T) (hl : T.length ≤ 256) : (wkT K R T).length ≤ 256:=by
 unfold wkT
 by_cases e : R = 0
 ·subst e; rw [if_pos rfl,wideT_length]
  have h4:=h.k4
  have : pw K 3 ≤ pw 4 3:=Nat.pow_le_pow_left h4 3
  have e4 : pw 4 3 = 64:=by decide
  have : pw K (2 * (0 + 1) + 1) = pw K 3:=rfl
  omega
 ·rw [if_neg e]; exact hl
/-- A small rule's working rule has at most 81 nodes. -/
theorem nodes_le {K R : Nat} {T : List Int} (h : RuleOk K R T) (hR : 1 ≤ R) (hl : T.length ≤ 256) : pw K (2 * R) ≤ 81:=by
 have h1:=h.k1
 have h4:=h.k4
 have h3:=h.r3
 rw [h.len] at hl
 have hK : K = 1 ∨ K = 2 ∨ K = 3 ∨ K = 4:=by omega
 have hR' : R = 1 ∨ R = 2 ∨ R = 3:=by omega
 rcases hK with rfl | rfl | rfl | rfl <;> rcases hR' with rfl | rfl | rfl <;> revert hl <;> decide
set_option maxHeartbeats 1000000 in
theorem working_ok (r : Nat → Addr) (K R : Nat) (va : Option Addr) (vn vc : Nat) (T : List Int) (w : World) (hg : Glob r w) (h : IntsAt w (.slice va vn vc) T) (hr : RuleOk K R T) (hl : T.length ≤ 256) :
 Calls Tryz.prog 111 #[.agg #[.int .i64 K,.int .i64 R,.slice va vn vc]] w (Ret2 (fun x y w' => y = .nilIface ∧ ∃ a n c,x = .agg #[.int .i64 K,.int .i64 (wkR R),.slice a n c] ∧ IntsAt w' (.slice a n c) (wkT K R T)) w):=by
 have b0:=Below.step (belowAlloc w (.cells #[.int .i64 K,.int .i64 R,.slice va vn vc] 24)) (belowAlloc _ (.cells #[.int .i64 0,.int .i64 0,.slice none 0 0] 24))
 have q2 : Box3 ((w.alloc (.cells #[.int .i64 K,.int .i64 R,.slice va vn vc] 24)).alloc (.cells #[.int .i64 0,.int .i64 0,.slice none 0 0] 24)) (w.heap.size + 1) (.int .i64 0) (.int .i64 0) (.slice none 0 0):=by simp [Box3,go_sem]
 have q1 : Box3 ((w.alloc (.cells #[.int .i64 K,.int .i64 R,.slice va vn vc] 24)).alloc (.cells #[.int .i64 0,.int .i64 0,.slice none 0 0] 24)) w.heap.size (.int .i64 K) (.int .i64 R) (.slice va vn vc):=by simp [Box3,go_sem]
 have hs:=Hd (smallP_small hr hl)
 have h0:=Hd h
 have hs0 : w.heap.size + 1 < ((w.alloc (.cells #[.int .i64 K,.int .i64 R,.slice va vn vc] 24)).alloc (.cells #[.int .i64 0,.int .i64 0,.slice none 0 0] 24)).heap.size:=by simp
 replace hg:=Hd (hg.below b0)
 replace h:=Hd (h.below b0)
 replace hr:=Hd hr
 replace q1:=Hd q1
 replace q2:=Hd q2
 replace hs0:=Hd hs0
 by_cases hR : R = 0
 ·have e1 : wkR R = R + 1:=by unfold wkR; rw [if_pos hR,hR]
  have e2 : wkT K R T = wideT K R 1 T:=by unfold wkT; rw [if_pos hR,hR]
  have hRq : ((R : Int) == 0) = true:=by simp [hR]
  rw [e1,e2]
  replace hR:=Hd hR
  clear e1 e2
  go_enter Tryz.func111,Tryz.ntmps111
  go_wp2_with fail
  refine (small_any r K R va vn vc T _ hg.out h.out).mono ?_
  rintro e w1 ⟨x,rfl,b1,he⟩
  rw [hs.out] at he
  obtain rfl:=ErrIs.none_eq he
  have q11:=q1.out.below b1
  obtain ⟨⟨z0,z1,z2⟩,-,-,-⟩:=q11
  go_wp2_with fail
  refine (fwiden_ok r K R 1 va vn vc T w1 (hg.out.below b1) (h.out.below b1) hr.out (by have:=hR.out; omega) 1 (by have:=hR.out; simp [this])).mono ?_
  rintro e w2 ⟨x,y,rfl,b2,rfl,a,n,c,rfl,ho⟩
  obtain ⟨⟨y0,y1,y2⟩,f0,f1,f2⟩:=q2.out.below (Below.step b1 b2)
  replace ho:=Hd ho
  clear z0 z1 z2
  go_wp2
  refine bodyPost_ret (v:=.tuple #[.agg #[.int .i64 K,.int .i64 ((R + 1 : Nat) : Int),.slice a n c],.nilIface]) (by simp [results,Tryz.results111,go_sem,y0,y1,y2]) rfl ⟨_,_,rfl,below_set3 (Below.step b0 (Below.step b1 b2)) (Nat.le_succ _) _ _ _,rfl,a,n,c,rfl,?_⟩
  have s1:=hs0.out
  have s2:=b1.size
  exact (((ho.out.setBelowBase (a:=⟨w.heap.size + 1,0,none⟩) (Nat.lt_of_lt_of_le s1 s2) _).setBelowBase (a:=⟨w.heap.size + 1,1,none⟩) (Nat.lt_of_lt_of_le s1 s2) _).setBelowBase (a:=⟨w.heap.size + 1,2,none⟩) (Nat.lt_of_lt_of_le s1 s2) _).at
 ·have e1 : wkR R = R:=by unfold wkR; rw [if_neg hR]
  have e2 : wkT K R T = T:=by unfold wkT; rw [if_neg hR]
  have hRq : ((R : Int) == 0) = false:=by rw [beq_eq_false_iff_ne]; omega
  have hR' : ¬ (R : Int) = 0:=by omega
  rw [e1,e2]
  clear e1 e2
  go_enter Tryz.func111,Tryz.ntmps111
  go_wp2_with fail
  refine (small_any r K R va vn vc T _ hg.out h.out).mono ?_
  rintro e w1 ⟨x,rfl,b1,he⟩
  rw [hs.out] at he
  obtain rfl:=ErrIs.none_eq he
  have q11:=q1.out.below b1
  obtain ⟨⟨z0,z1,z2⟩,-,-,-⟩:=q11
  obtain ⟨⟨y0,y1,y2⟩,f0,f1,f2⟩:=q2.out.below b1
  have b01:=Below.step b0 b1
  have hTW:=h0.out.below (below_set3 b01 (Nat.le_succ _) (.int .i64 K) (.int .i64 R) (.slice va vn vc))
  replace hTW:=Hd hTW
  go_wp2
  refine bodyPost_ret (v:=.tuple #[.agg #[.int .i64 K,.int .i64 R,.slice va vn vc],.nilIface]) (by simp [results,Tryz.results111,go_sem,y0,y1,y2]) rfl ⟨_,_,rfl,below_set3 b01 (Nat.le_succ _) _ _ _,rfl,va,vn,vc,rfl,hTW.out⟩
/-- What single leaves. -/
def SinglePost (w : World) (T : List Int) (x y : Value) (w' : World) : Prop :=
 (∃ a b,SingleIs T a b ∧ OwnI w.heap.size w' x [(a : Int)] ∧ OwnI w.heap.size w' y [(b : Int)] ∧ (x.ownBlock = none ∨ x.ownBlock ≠ y.ownBlock)) ∨
 (x = .slice none 0 0 ∧ y = .slice none 0 0 ∧ ∀ i,i < T.length → (i : Int) ≤ invP T (T.getD i 0))
set_option maxHeartbeats 1000000 in
theorem single_any (k R : Int) (va : Option Addr) (vn vc : Nat) (T : List Int) (w : World) (h : IntsAt w (.slice va vn vc) T) :
 Calls Tryz.prog 51 #[.agg #[.int .i64 k,.int .i64 R,.slice va vn vc]] w (Ret2 (SinglePost w T) w):=by
 have b0:=belowAlloc w (.cells #[.int .i64 k,.int .i64 R,.slice va vn vc] 24)
 have q : Box3 (w.alloc (.cells #[.int .i64 k,.int .i64 R,.slice va vn vc] 24)) w.heap.size (.int .i64 k) (.int .i64 R) (.slice va vn vc):=by simp [Box3,go_sem]
 have hlen:=h.len
 have hm:=h.len_le
 replace h:=Hd (h.below b0)
 obtain ⟨⟨y0,y1,y2⟩,-,-,-⟩:=q
 go_enter Tryz.func51,Tryz.ntmps51
 go_wp2
 obtain ⟨W,hW⟩ : ∃ W : World,W = w.alloc (.cells #[.int .i64 k,.int .i64 R,.slice va vn vc] 24):=⟨_,rfl⟩
 rw [← hW] at y0 y1 y2 b0 h ⊢
 replace hW:=Hd hW
 go_loop [10] (fun jv => ∃ j : Nat,j ≤ T.length ∧ jv = .int .i64 j ∧ ∀ i,i < j → (i : Int) ≤ invP T (T.getD i 0)) (fun jv => T.length - (intOf jv).toNat)
 case atStart => exact ⟨0,by omega,rfl,fun i hi => absurd hi (Nat.not_lt_zero _)⟩
 case round =>
  obtain ⟨j,hj,rfl,hno0⟩:=hrel
  have hno : ∀ i,i < j → (i : Int) ≤ invP T (T.getD i 0):=fun i hi => by have:=hno0 i hi; omega
  clear hno0
  replace hno:=Hd hno
  by_cases hjl : j < T.length
  ·have i1:=fun w' => h.out.idx j hjl w'
   have c1:=h.out.cellD j hjl
   obtain ⟨z,hz⟩ : ∃ z,T.getD j 0 = z:=⟨_,rfl⟩
   rw [hz] at c1
   obtain ⟨p,hp1,hp2,hp3⟩:=invP_at hjl
   rw [hz] at hp1
   have hIx:=index_any (.slice va vn vc) T z W h.out
   rw [hp1] at hIx
   generalize valAt (.slice va vn vc) j = ja at *
   have hjl2:=Hd hjl
   replace hIx:=Hd hIx
   replace hz:=Hd hz
   replace hp1:=Hd hp1
   replace hp3:=Hd hp3
   by_cases hpj : p < j
   ·have hpd : decide (p < j) = true:=decide_eq_true hpj
    have hpd2 : decide ((p : Int) < (j : Int)) = true:=decide_eq_true (by omega)
    have hpj2:=Hd hpj
    go_wp2_with (go_at_call 85; refine hIx.out.mono ?_; rintro e w' ⟨rfl,rfl⟩)
    have bA:=belowAlloc W (.cells #[.int .i64 p] 3)
    have hoA:=OwnI.lit W.heap.size W (Nat.le_refl _) [(p : Int)] (by simp [maxLen]) #[.int .i64 (p : Int)] rfl 1 rfl
    have bB:=belowAlloc (W.alloc (.cells #[.int .i64 p] 3)) (.cells #[.int .i64 j] 3)
    have hoB:=OwnI.lit (W.alloc (.cells #[.int .i64 p] 3)).heap.size (W.alloc (.cells #[.int .i64 p] 3)) (Nat.le_refl _) [(j : Int)] (by simp [maxLen]) #[.int .i64 (j : Int)] rfl 1 rfl
    have hs:=b0.size
    go_ret2
    refine ⟨_,_,rfl,b0.trans ((bA.trans (bB.mono bA.size)).mono hs),.inl ⟨p,j,⟨hjl2.out,by rw [hz.out]; exact hp1.out,hpj2.out,hno.out⟩,(hoA.below bB).mono hs,(show OwnI W.heap.size _ (Value.slice (some ⟨W.heap.size + 1,0,none⟩) 1 1) _ from (by simpa using hoB.mono bA.size)).mono hs,.inr ?_⟩⟩
    simp [Value.ownBlock]
   ·have hpe : p = j:=by omega
    subst hpe
    go_wp2_with (go_at_call 85; refine hIx.out.mono ?_; rintro e w' ⟨rfl,rfl⟩)
    have hj1:=hjl2.out
    go_round
    case measure => simp [intOf]; omega
    case rel =>
     refine ⟨p + 1,by omega,by go_num,fun i hi => ?_⟩
     by_cases e : i = p
     ·subst e; rw [hz.out,hp1.out]; omega
     ·exact hno.out i (by omega)
  ·obtain rfl : j = T.length:=by omega
   go_wp2
   go_ret2
   exact ⟨_,_,rfl,b0,.inr ⟨rfl,rfl,hno.out⟩⟩
/-- The first n values of a function. -/
def tab (n : Nat) (f : Nat → Nat) : List Int:=(List.range n).map fun (v : Nat) => (f v : Int)
def tabI (n : Nat) (f : Nat → Int) : List Int:=(List.range n).map f
theorem tab_len (n : Nat) (f : Nat → Nat) : (tab n f).length = n:=by simp [tab]
theorem tabI_len (n : Nat) (f : Nat → Int) : (tabI n f).length = n:=by simp [tabI]
theorem tabI_get (n : Nat) (f : Nat → Int) (v : Nat) (hv : v < n) : (tabI n f).getD v 0 = f v:=by simp [tabI,List.getD,hv]
theorem tab_get (n : Nat) (f : Nat → Nat) (v : Nat) (hv : v < n) : (tab n f).getD v 0 = (f v : Int):=by simp [tab,List.getD,hv]
theorem tabI_upd (n : Nat) (f : Nat → Int) (v : Nat) (a : Int) : (tabI n f).set v a = tabI n (updN f v a):=by
 apply List.ext_getElem
 ·simp [tabI]
 ·intro i h1 h2
  simp only [tabI,List.getElem_set,List.getElem_map,List.getElem_range,updN]
  by_cases e : v = i
  ·rw [if_pos e,if_pos e.symm]
  ·rw [if_neg e,if_neg (fun q => e q.symm)]
theorem tab_upd (n : Nat) (f : Nat → Nat) (v a : Nat) : (tab n f).set v (a : Int) = tab n (updN f v a):=by
 have h:=tabI_upd n (fun x => (f x : Int)) v a
 show (tabI n fun x => (f x : Int)).set v (a : Int) = _
 rw [h]
 unfold tab tabI
 apply List.map_congr_left
 intro x _
 by_cases e : x = v
 ·subst e; rw [updN_same,updN_same]
 ·rw [updN_other _ _ _ e,updN_other _ _ _ e]
/-- The stacks' cells. -/
def flatF (calls : List Nat) (idx : Nat → Nat) : List Value:=calls.reverse.flatMap fun (v : Nat) => [.int .i64 (v : Int),.int .i64 (idx v : Int)]
def upI (l : List Nat) : List Int:=l.reverse.map fun (v : Nat) => (v : Int)
theorem upI_len (l : List Nat) : (upI l).length = l.length:=by simp [upI]
theorem upI_cons (v : Nat) (l : List Nat) : upI (v :: l) = upI l ++ [(v : Int)]:=by simp [upI]
theorem flatF_cons (v : Nat) (l : List Nat) (idx : Nat → Nat) : flatF (v :: l) idx = flatF l idx ++ [.int .i64 (v : Int),.int .i64 (idx v : Int)]:=by simp [flatF]
theorem flatF_len (l : List Nat) (idx : Nat → Nat) : (flatF l idx).length = l.length * 2:=by
 induction l with
 | nil => rfl
 | cons v l ih => rw [flatF_cons,List.length_append,ih]; simp; omega
theorem flatF_congr {l : List Nat} {f g : Nat → Nat} (h : ∀ v ∈ l,f v = g v) : flatF l f = flatF l g:=by
 induction l with
 | nil => rfl
 | cons v l ih => rw [flatF_cons,flatF_cons,ih fun x hx => h x (List.mem_cons_of_mem _ hx),h v List.mem_cons_self]
/-- A row one element shorter. -/
theorem Rows.shrink {B : Nat} {w : World} {f : Names} {i : Nat × Nat} {E : TypeId} {size m g cap : Nat} {xs : List Value} (h : Rows B w f) (hi : f i = some ⟨E,size,.slice (some ⟨g,0,none⟩) (m + 1) cap,m + 1,xs⟩) :
 Rows B w (upd f i (some ⟨E,size,.slice (some ⟨g,0,none⟩) m cap,m,xs.take (m * size)⟩)):=by
 refine h.grown hi ⟨rfl,rfl,rfl,Nat.le_refl _,fun _ _ _ => rfl⟩ ?_ (.inl rfl)
 have ho : w.ownsRow B E size (.slice (some ⟨g,0,none⟩) (m + 1) cap) (m + 1) xs:=h.1 i _ hi
 have hl:=ho.1
 have hms : m * size ≤ (m + 1) * size:=Nat.mul_le_mul_right _ (by omega)
 rcases ho.2 with ⟨e,_⟩ | ⟨g',cap',cur,e,hB,hg,hn,hm,hs,ht⟩
 ·cases e
 ·injection e with e1 e2 e3
  injection e1 with e1
  injection e1 with e1
  subst e1; subst e3
  refine ⟨by show (xs.take (m * size)).length = m * size; rw [List.length_take,hl]; omega,.inr ⟨g,cap,cur,rfl,hB,hg,by show m ≤ cap; omega,hm,hs,?_⟩⟩
  show cur.toList.take (m * size) = xs.take (m * size)
  rw [← ht,List.take_take,Nat.min_eq_left hms]
/-- append of one frame. -/
theorem run_appF (w : World) (B : Nat) (ty : TypeId) (v : Value) (m : Nat) (xs : List Value) (hown : w.ownsRow B 312 2 v m xs)
 (b : Nat) (y0 y1 : Int) (hys : ∀ (j : Nat) (u : Value),([Value.int .i64 y0,.int .i64 y1] : List Value)[j]? = some u → w.cell? ((⟨b,0,none⟩ : Addr).add j) = some u) (hlen : m < 1000000) (hB : B ≤ w.heap.size) :
 ∃ g n' c' w',(Builtin.append_ #[290,290] ty #[v,.slice (some ⟨b,0,none⟩) 1 1]).run Tryz.prog w = .ok (.slice (some ⟨g,0,none⟩) n' c') w' ∧ n' = m + 1 ∧ w'.ownsRow B 312 2 (.slice (some ⟨g,0,none⟩) (m + 1) c') (m + 1) (xs ++ [.int .i64 y0,.int .i64 y1]) ∧
  ((v.ownBlock = some g ∧ w.grownBy w' v.ownBlock) ∨ (g = w.heap.size ∧ w.grownBy w' none)):=by
 have ht : Tryz.prog.underlying 290 = some (.slice 312):=by kernel_rfl
 obtain ⟨i,hi,hz0,hz1,hz2⟩ : ∃ i,Tryz.prog.info? 312 = some i ∧ i.zero = some (.agg #[.int .i64 0,.int .i64 0]) ∧ i.size = 2 ∧ i.bytes = 16:=by
  have : (Tryz.prog.info? 312).map (fun i => (i.zero,i.size,i.bytes)) = some (some (.agg #[.int .i64 0,.int .i64 0]),2,16):=by kernel_rfl
  cases h : Tryz.prog.info? 312 with
  | none => rw [h] at this; cases this
  | some i => rw [h] at this; simp at this; exact ⟨i,rfl,this.1,this.2.1,this.2.2⟩
 have hzc : (Value.agg #[.int .i64 0,.int .i64 0]).cells = #[.int .i64 0,.int .i64 0]:=by rfl
 have hxl:=hown.1
 have big : ∀ (old : Nat),old < m + 1 →
  (w.drew.alloc (.cells (xs.toArray ++ [Value.int .i64 y0,.int .i64 y1].toArray ++ Builtin.zeroCells (Value.agg #[.int .i64 0,.int .i64 0]).cells (grownCap w (m + 1) old 312 - (m + 1))) 312)).ownsRow B 312 2 (.slice (some ⟨w.heap.size,0,none⟩) (m + 1) (grownCap w (m + 1) old 312)) (m + 1) (xs ++ [.int .i64 y0,.int .i64 y1]):=by
  intro old ho
  have hge:=grownCap_ge w (m + 1) old 312
  have hcm : grownCap w (m + 1) old 312 ≤ maxLen:=grownCap_le_maxLen w _ old 312 (by unfold maxLen; omega)
  refine ⟨by simp [hxl]; omega,.inr ⟨w.heap.size,_,_,rfl,hB,heap_alloc_new w.drew _,hge,hcm,?_,?_⟩⟩
  ·simp only [Array.size_append,List.size_toArray,size_zeroCells,hzc,hxl]
   simp
   omega
  ·simp only [Array.toList_append]
   exact List.take_left' (by simp [hxl]; omega)
 have grw : ∀ (oo : Obj),w.grownBy (w.drew.alloc oo) none:=fun oo => ⟨rfl,rfl,rfl,by simp,fun k hk _ => Below.heap_alloc w.drew oo k hk⟩
 rcases hown.2 with ⟨rfl,hn⟩ | ⟨g,cap,cur,rfl,hbg,hg,hnc,hcm,hcs,htake⟩
 ·subst hn
  obtain rfl:=List.length_eq_zero_iff.1 (show xs.length = 0 by omega)
  have hr:=run_append_nil (P:=Tryz.prog) w 290 ty 312 i _ ht hi hz0 ⟨b,0,none⟩ 1 1 [.int .i64 y0,.int .i64 y1] (by rw [hz1]; rfl) hys (by omega) (by omega) (by rw [hz2]; decide)
  have hbg:=big 0 (by omega)
  simp only [List.nil_append,Array.empty_append,Nat.zero_add] at hbg hr
  exact ⟨_,_,_,_,hr,rfl,by simpa using hbg,.inr ⟨rfl,grw _⟩⟩
 ·by_cases hroom : m + 1 ≤ cap
  ·have hr:=run_append_room (P:=Tryz.prog) w 290 ty 312 i ht hi g m cap cur hg ⟨b,0,none⟩ 1 1 [.int .i64 y0,.int .i64 y1] (by rw [hz1]; rfl) hys (by simp [Value.oneCell']) hroom (by rw [hz1,hcs]; simp; omega)
   refine ⟨_,_,_,_,hr,rfl,⟨by simp [hxl]; omega,.inr ⟨g,cap,_,rfl,hbg,setRow_heap w g cur _ 312 _ hg,hroom,hcm,?_,?_⟩⟩,.inl ⟨rfl,⟨rfl,rfl,rfl,by simp,fun k _ hk => setRow_other w g k _ (fun e => hk (by simp [Value.ownBlock,e]))⟩⟩⟩
   ·simp only [List.size_toArray,List.length_append,List.length_take,List.length_drop,Array.length_toList,hz1,hcs]
    simp
    omega
   ·rw [hz1,htake]
    exact List.take_left' (by simp [hxl]; omega)
  ·have holds : ∀ j u,xs[j]? = some u → w.cell? ((⟨g,0,none⟩ : Addr).add j) = some u:=World.ownsRow.cells hown (g:=g) rfl
   have hr:=run_append_grow (P:=Tryz.prog) w 290 ty 312 i _ ht hi hz0 ⟨g,0,none⟩ m cap xs (by rw [hz1]; exact hxl) holds ⟨b,0,none⟩ 1 1 [.int .i64 y0,.int .i64 y1] (by rw [hz1]; rfl) hys (by omega) (by omega) (by
    rw [hz2]
    exact growslice_fits (by omega) (by
     calc (m + 1) * 16 ≤ 1000000 * 16:=Nat.mul_le_mul_right _ hlen
      _ ≤ _:=by decide))
   exact ⟨_,_,_,_,hr,rfl,big cap (by omega),.inr ⟨rfl,grw _⟩⟩
/-- append(s, frame) in the text's order. -/
theorem wpl_appF {w : World} {ops : Array Oper} {rest : List Oper} {o : Oper} {a : Act} {Q : Exit → Act → World → Prop} (hgd : o.guard = none) (s x : Operand)
 (ho : o.op = .call { callee:=.builtin .append,args:=#[s,x],argTypes:=#[290,290] })
 (B : Nat) (v : Value) (m : Nat) (xs : List Value) (y0 y1 : Int) (b : Nat) (hown : w.ownsRow B 312 2 v m xs) (hs : a.eval s = v) (hx : a.eval x = .slice (some ⟨b,0,none⟩) 1 1) (hb : b = w.heap.size)
 (hlen : m < 1000000) (hB : B ≤ w.heap.size)
 (h : ∀ g c w',w'.ownsRow B 312 2 (.slice (some ⟨g,0,none⟩) (m + 1) c) (m + 1) (xs ++ [.int .i64 y0,.int .i64 y1]) → ((v.ownBlock = some g ∧ w.grownBy w' v.ownBlock) ∨ (w.heap.size ≤ g ∧ w.grownBy w' none)) → wpList Tryz.prog ops Q rest (a.put o.dst (.slice (some ⟨g,0,none⟩) (m + 1) c)) w') :
 wpList Tryz.prog ops Q (o :: rest) a (w.alloc (.cells #[.int .i64 y0,.int .i64 y1] 312)):=by
 subst hb
 refine wpList_plain hgd fun K hK => ?_
 have hcells : ∀ (j : Nat) (u : Value),([Value.int .i64 y0,.int .i64 y1] : List Value)[j]? = some u → (w.alloc (.cells #[.int .i64 y0,.int .i64 y1] 312)).cell? ((⟨w.heap.size,0,none⟩ : Addr).add j) = some u:=by
  intro j u hj
  have hn:=heap_alloc_new w (.cells #[.int .i64 y0,.int .i64 y1] 312)
  match j,hj with
  | 0,hj => simp at hj; subst hj; simp only [World.cell?,Addr.add,if_true]; rw [hn]; rfl
  | 1,hj => simp at hj; subst hj; simp only [World.cell?,Addr.add,show ¬ (1 = 0) by decide,if_false]; rw [hn]; rfl
  | j + 2,hj => simp at hj
 obtain ⟨g,n',c',w',hr,rfl,h2,h3⟩:=run_appF (w.alloc (.cells #[.int .i64 y0,.int .i64 y1] 312)) B o.type v m xs (World.ownsRow.alloc hown _) w.heap.size y0 y1 hcells hlen (by simp; omega)
 unfold Oper.wp execOp
 simp only [ho,resolve,invoke,builtin,Sem.run_bind,Sem.run_pure,Result.andThen_ok,List.map_toArray,List.map_cons,List.map_nil,hs,hx]
 rw [hr]
 have hal : ∀ row,w.grownBy (w.alloc (.cells #[.int .i64 y0,.int .i64 y1] 312)) row:=fun row => World.grownBy_alloc w _ row
 rcases h3 with ⟨hv,hg⟩ | ⟨hk,hg⟩
 ·exact hK _ _ (h g c' w' h2 (.inl ⟨hv,(hal v.ownBlock).trans hg⟩))
 ·exact hK _ _ (h g c' w' h2 (.inr ⟨by rw [hk]; simp,(hal none).trans hg⟩))
/-- What the names name. -/
structure SN (f : Names) (d : Nat) (nv lv fv pv ov cv : Value) (n : Nat) (S : TS) : Prop where
 box : f (0,0) = some ⟨292,7,.slice (some ⟨d,0,none⟩) 1 1,1,[nv,lv,fv,ov,pv,cv,.int .i64 S.time]⟩
 low : f (1,0) = some (rowI lv (tab n S.low))
 fnd : f (2,0) = some (rowI fv (tab n S.found))
 opn : f (3,0) = some (rowI ov (upI S.opn))
 part : f (4,0) = some (rowI pv (tabI n S.part))
 calls : f (5,0) = some ⟨312,2,cv,S.calls.length,flatF S.calls S.idx⟩
section
variable {B : Nat} {w : World} {f : Names} {d : Nat} {nv lv fv pv ov cv : Value} {n : Nat} {S : TS}
theorem SN.cell (h : SN f d nv lv fv pv ov cv n S) (hr : Rows B w f) (k : Nat) (hk : k < 7) : w.cell? ⟨d,k,none⟩ = [nv,lv,fv,ov,pv,cv,.int .i64 S.time][k]? :=
 hr.cell h.box (g:=d) (cap:=1) rfl k (by simp; omega)
theorem SN.frz (h : SN f d nv lv fv pv ov cv n S) (hr : Rows B w f) (k : Nat) : w.frozen? ⟨d,k,none⟩ = false:=hr.frozen h.box (g:=d) (cap:=1) rfl k
theorem SN.base (h : SN f d nv lv fv pv ov cv n S) (hr : Rows B w f) : B ≤ d:=(hr.lt h.box d rfl).1
/-- s.time = t. -/
theorem SN.setTime (h : SN f d nv lv fv pv ov cv n S) (hr : Rows B w f) (t : Nat) : ∃ f',Rows B (w.setCell ⟨d,6,none⟩ (.int .i64 t)) f' ∧ SN f' d nv lv fv pv ov cv n { S with time:=t }:=by
 refine ⟨_,hr.set h.box (g:=d) (cap:=1) rfl 6 (.int .i64 t),⟨upd_same _ _ _,?_,?_,?_,?_,?_⟩⟩
 ·rw [upd_ne _ _ (by simp)]; exact h.low
 ·rw [upd_ne _ _ (by simp)]; exact h.fnd
 ·rw [upd_ne _ _ (by simp)]; exact h.opn
 ·rw [upd_ne _ _ (by simp)]; exact h.part
 ·rw [upd_ne _ _ (by simp)]; exact h.calls
/-- s.low[v] = t. -/
theorem SN.setLow (h : SN f d nv lv fv pv ov cv n S) (hr : Rows B w f) (v : Nat) (hv : v < n) (t : Nat) : ∃ f',Rows B (w.setCell (valAt lv v) (.int .i64 t)) f' ∧ SN f' d nv lv fv pv ov cv n { S with low:=updN S.low v t }:=by
 have hs:=hr.setI h.low v (by rw [tab_len]; exact hv) (t : Int)
 rw [tab_upd] at hs
 refine ⟨_,hs,⟨?_,upd_same _ _ _,?_,?_,?_,?_⟩⟩
 ·rw [upd_ne _ _ (by simp)]; exact h.box
 ·rw [upd_ne _ _ (by simp)]; exact h.fnd
 ·rw [upd_ne _ _ (by simp)]; exact h.opn
 ·rw [upd_ne _ _ (by simp)]; exact h.part
 ·rw [upd_ne _ _ (by simp)]; exact h.calls
/-- s.found[v] = t. -/
theorem SN.setFound (h : SN f d nv lv fv pv ov cv n S) (hr : Rows B w f) (v : Nat) (hv : v < n) (t : Nat) : ∃ f',Rows B (w.setCell (valAt fv v) (.int .i64 t)) f' ∧ SN f' d nv lv fv pv ov cv n { S with found:=updN S.found v t }:=by
 have hs:=hr.setI h.fnd v (by rw [tab_len]; exact hv) (t : Int)
 rw [tab_upd] at hs
 refine ⟨_,hs,⟨?_,?_,upd_same _ _ _,?_,?_,?_⟩⟩
 ·rw [upd_ne _ _ (by simp)]; exact h.box
 ·rw [upd_ne _ _ (by simp)]; exact h.low
 ·rw [upd_ne _ _ (by simp)]; exact h.opn
 ·rw [upd_ne _ _ (by simp)]; exact h.part
 ·rw [upd_ne _ _ (by simp)]; exact h.calls
/-- s.part[v] = t. -/
theorem SN.setPart (h : SN f d nv lv fv pv ov cv n S) (hr : Rows B w f) (v : Nat) (hv : v < n) (t : Int) : ∃ f',Rows B (w.setCell (valAt pv v) (.int .i64 t)) f' ∧ SN f' d nv lv fv pv ov cv n { S with part:=updN S.part v t }:=by
 have hs:=hr.setI h.part v (by rw [tabI_len]; exact hv) t
 rw [tabI_upd] at hs
 refine ⟨_,hs,⟨?_,?_,?_,?_,upd_same _ _ _,?_⟩⟩
 ·rw [upd_ne _ _ (by simp)]; exact h.box
 ·rw [upd_ne _ _ (by simp)]; exact h.low
 ·rw [upd_ne _ _ (by simp)]; exact h.fnd
 ·rw [upd_ne _ _ (by simp)]; exact h.opn
 ·rw [upd_ne _ _ (by simp)]; exact h.calls
theorem grown_via {w' : World} {row : Option Nat} (hg : w.grownBy w' row ∨ w.grownBy w' none) : w.grownBy w' row:=by
 rcases hg with h | h
 ·exact h
 ·exact ⟨h.os,h.tape,h.output,h.size,fun k hk _ => h.block k hk (by simp)⟩
/-- s.open = append(s.open, v). -/
theorem SN.pushOpen (h : SN f d nv lv fv pv ov cv n S) (hr : Rows B w f) (hBw : B ≤ w.heap.size) {w1 : World} {ov' : Value} (v : Nat) (ho : OwnI B w1 ov' (upI S.opn ++ [(v : Int)]))
 (hal : (roomOf ov' = roomOf ov ∧ w.grownBy w1 ov.ownBlock) ∨ (∃ k,ov'.ownBlock = some k ∧ w.heap.size ≤ k ∧ w.grownBy w1 none)) :
 (∀ k,k < 7 → w1.cell? ⟨d,k,none⟩ = [nv,lv,fv,ov,pv,cv,.int .i64 S.time][k]?) ∧ (∀ k,w1.frozen? ⟨d,k,none⟩ = false) ∧ Below B w (w1.setCell ⟨d,3,none⟩ ov') ∧ ∃ f',Rows B (w1.setCell ⟨d,3,none⟩ ov') f' ∧ SN f' d nv lv fv pv ov' cv n { S with opn:=v :: S.opn }:=by
 have hO:=hr.ownI h.opn
 have hg : w.grownBy w1 ov.ownBlock:=grown_via (hal.imp (·.2) (fun ⟨_,_,_,q⟩ => q))
 have hob : ov'.ownBlock = ov.ownBlock ∨ ∃ k,ov'.ownBlock = some k ∧ w.heap.size ≤ k:=by
  rcases hal with ⟨q,_⟩ | ⟨k,h1,h2,_⟩
  ·obtain ⟨a1,n1,c1,e1⟩:=hO.at.shape
   obtain ⟨a2,n2,c2,e2⟩:=ho.at.shape
   exact .inl (ownBlock_of_room e1 e2 q)
  ·exact .inr ⟨k,h1,h2⟩
 have h1:=hr.grown (r':=rowI ov' (upI S.opn ++ [(v : Int)])) h.opn hg ho hob
 have hb : upd f (3,0) (some (rowI ov' (upI S.opn ++ [(v : Int)]))) (0,0) = some ⟨292,7,.slice (some ⟨d,0,none⟩) 1 1,1,[nv,lv,fv,ov,pv,cv,.int .i64 S.time]⟩:=by rw [upd_ne _ _ (by simp)]; exact h.box
 refine ⟨fun k hk => h1.cell hb (g:=d) (cap:=1) rfl k (by simpa using hk),fun k => h1.frozen hb (g:=d) (cap:=1) rfl k,((Below.refl _ _).grown hg hBw (fun k hk => (hO.lt k hk).1)).setCell (h.base hr) _,_,h1.set hb (g:=d) (cap:=1) rfl 3 ov',⟨upd_same _ _ _,?_,?_,?_,?_,?_⟩⟩
 ·rw [upd_ne _ _ (by simp),upd_ne _ _ (by simp)]; exact h.low
 ·rw [upd_ne _ _ (by simp),upd_ne _ _ (by simp)]; exact h.fnd
 ·rw [upd_ne _ _ (by simp),upd_same,upI_cons]
 ·rw [upd_ne _ _ (by simp),upd_ne _ _ (by simp)]; exact h.part
 ·rw [upd_ne _ _ (by simp),upd_ne _ _ (by simp)]; exact h.calls
/-- s.calls = append(s.calls, frame{v, 0}). -/
theorem SN.pushCalls (h : SN f d nv lv fv pv ov cv n S) (hr : Rows B w f) (hBw : B ≤ w.heap.size) {w1 : World} {g c : Nat} (v : Nat) (hv : v ∉ S.calls)
 (ho : w1.ownsRow B 312 2 (.slice (some ⟨g,0,none⟩) (S.calls.length + 1) c) (S.calls.length + 1) (flatF S.calls S.idx ++ [.int .i64 (v : Int),.int .i64 0]))
 (hal : (cv.ownBlock = some g ∧ w.grownBy w1 cv.ownBlock) ∨ (w.heap.size ≤ g ∧ w.grownBy w1 none)) :
 (∀ k,k < 7 → w1.cell? ⟨d,k,none⟩ = [nv,lv,fv,ov,pv,cv,.int .i64 S.time][k]?) ∧ (∀ k,w1.frozen? ⟨d,k,none⟩ = false) ∧ Below B w (w1.setCell ⟨d,5,none⟩ (.slice (some ⟨g,0,none⟩) (S.calls.length + 1) c)) ∧
   ∃ f',Rows B (w1.setCell ⟨d,5,none⟩ (.slice (some ⟨g,0,none⟩) (S.calls.length + 1) c)) f' ∧ SN f' d nv lv fv pv ov (.slice (some ⟨g,0,none⟩) (S.calls.length + 1) c) n { S with calls:=v :: S.calls,idx:=updN S.idx v 0 }:=by
 have hg : w.grownBy w1 cv.ownBlock:=grown_via (hal.imp (·.2) (·.2))
 have hob : (Value.slice (some ⟨g,0,none⟩) (S.calls.length + 1) c).ownBlock = cv.ownBlock ∨ ∃ k,(Value.slice (some ⟨g,0,none⟩) (S.calls.length + 1) c).ownBlock = some k ∧ w.heap.size ≤ k:=by
  rcases hal with ⟨q,_⟩ | ⟨q,_⟩
  ·exact .inl q.symm
  ·exact .inr ⟨g,rfl,q⟩
 have h1:=hr.grown (r':=⟨312,2,.slice (some ⟨g,0,none⟩) (S.calls.length + 1) c,S.calls.length + 1,flatF S.calls S.idx ++ [Value.int .i64 (v : Int),Value.int .i64 0]⟩) h.calls hg (show Row.own B w1 ⟨_,_,_,_,_⟩ from ho) hob
 have hb : upd f (5,0) (some ⟨312,2,.slice (some ⟨g,0,none⟩) (S.calls.length + 1) c,S.calls.length + 1,flatF S.calls S.idx ++ [Value.int .i64 (v : Int),Value.int .i64 0]⟩) (0,0) = some ⟨292,7,.slice (some ⟨d,0,none⟩) 1 1,1,[nv,lv,fv,ov,pv,cv,.int .i64 S.time]⟩:=by rw [upd_ne _ _ (by simp)]; exact h.box
 refine ⟨fun k hk => h1.cell hb (g:=d) (cap:=1) rfl k (by simpa using hk),fun k => h1.frozen hb (g:=d) (cap:=1) rfl k,((Below.refl _ _).grown hg hBw (fun k hk => (hr.lt h.calls k hk).1)).setCell (h.base hr) _,_,h1.set hb (g:=d) (cap:=1) rfl 5 (.slice (some ⟨g,0,none⟩) (S.calls.length + 1) c),⟨upd_same _ _ _,?_,?_,?_,?_,?_⟩⟩
 ·rw [upd_ne _ _ (by simp),upd_ne _ _ (by simp)]; exact h.low
 ·rw [upd_ne _ _ (by simp),upd_ne _ _ (by simp)]; exact h.fnd
 ·rw [upd_ne _ _ (by simp),upd_ne _ _ (by simp)]; exact h.opn
 ·rw [upd_ne _ _ (by simp),upd_ne _ _ (by simp)]; exact h.part
 ·rw [upd_ne _ _ (by simp),upd_same]
  simp only [flatF_cons,updN_same,List.length_cons]
  rw [flatF_congr (f:=updN S.idx v 0) (g:=S.idx) (fun x hx => updN_other _ _ _ (fun e => hv (by rw [← e]; exact hx)))]
  rfl
/-- s.open = s.open[:len(s.open)-1]. -/
theorem SN.popOpen {v : Nat} {r : List Nat} {g c : Nat} (h : SN f d nv lv fv pv (.slice (some ⟨g,0,none⟩) (r.length + 1) c) cv n S) (he : S.opn = v :: r) (hr : Rows B w f) :
 ∃ f',Rows B (w.setCell ⟨d,3,none⟩ (.slice (some ⟨g,0,none⟩) r.length c)) f' ∧ SN f' d nv lv fv pv (.slice (some ⟨g,0,none⟩) r.length c) cv n { S with opn:=r }:=by
 have ho:=h.opn
 rw [he] at ho
 have ho' : f (3,0) = some ⟨3,1,.slice (some ⟨g,0,none⟩) (r.length + 1) c,r.length + 1,(upI (v :: r)).map (Value.int .i64)⟩:=by
  rw [ho]; simp [rowI,upI_len]
 have h1:=hr.shrink ho'
 have hx : ((upI (v :: r)).map (Value.int .i64)).take (r.length * 1) = (upI r).map (Value.int .i64):=by
  rw [upI_cons,List.map_append,Nat.mul_one]; exact List.take_left' (by simp [upI_len])
 rw [hx] at h1
 refine ⟨_,h1.set (i:=(0,0)) (by rw [upd_ne _ _ (by simp)]; exact h.box) (g:=d) (cap:=1) rfl 3 (.slice (some ⟨g,0,none⟩) r.length c),⟨upd_same _ _ _,?_,?_,?_,?_,?_⟩⟩
 ·rw [upd_ne _ _ (by simp),upd_ne _ _ (by simp)]; exact h.low
 ·rw [upd_ne _ _ (by simp),upd_ne _ _ (by simp)]; exact h.fnd
 ·rw [upd_ne _ _ (by simp),upd_same]; simp [upI_len]
 ·rw [upd_ne _ _ (by simp),upd_ne _ _ (by simp)]; exact h.part
 ·rw [upd_ne _ _ (by simp),upd_ne _ _ (by simp)]; exact h.calls
/-- s.calls = s.calls[:len(s.calls)-1]. -/
theorem SN.popCalls {v : Nat} {r : List Nat} {g c : Nat} (h : SN f d nv lv fv pv ov (.slice (some ⟨g,0,none⟩) (r.length + 1) c) n S) (he : S.calls = v :: r) (hr : Rows B w f) :
 ∃ f',Rows B (w.setCell ⟨d,5,none⟩ (.slice (some ⟨g,0,none⟩) r.length c)) f' ∧ SN f' d nv lv fv pv ov (.slice (some ⟨g,0,none⟩) r.length c) n { S with calls:=r }:=by
 have ho:=h.calls
 rw [he] at ho
 have h1:=hr.shrink ho
 have hx : (flatF (v :: r) S.idx).take (r.length * 2) = flatF r S.idx:=by
  rw [flatF_cons]; exact List.take_left' (flatF_len _ _)
 rw [hx] at h1
 refine ⟨_,h1.set (i:=(0,0)) (by rw [upd_ne _ _ (by simp)]; exact h.box) (g:=d) (cap:=1) rfl 5 (.slice (some ⟨g,0,none⟩) r.length c),⟨upd_same _ _ _,?_,?_,?_,?_,?_⟩⟩
 ·rw [upd_ne _ _ (by simp),upd_ne _ _ (by simp)]; exact h.low
 ·rw [upd_ne _ _ (by simp),upd_ne _ _ (by simp)]; exact h.fnd
 ·rw [upd_ne _ _ (by simp),upd_ne _ _ (by simp)]; exact h.opn
 ·rw [upd_ne _ _ (by simp),upd_ne _ _ (by simp)]; exact h.part
 ·rw [upd_ne _ _ (by simp),upd_same]
/-- f.i = i at the topmost frame. -/
theorem SN.bump {v : Nat} {r : List Nat} {g c : Nat} (h : SN f d nv lv fv pv ov (.slice (some ⟨g,0,none⟩) (r.length + 1) c) n S) (he : S.calls = v :: r) (hv : v ∉ r) (hr : Rows B w f) (i : Nat) :
 ∃ f',Rows B (w.setCell ⟨g,r.length * 2 + 1,none⟩ (.int .i64 (i : Int))) f' ∧ SN f' d nv lv fv pv ov (.slice (some ⟨g,0,none⟩) (r.length + 1) c) n { S with idx:=updN S.idx v i }:=by
 have ho:=h.calls
 rw [he] at ho
 have hs:=hr.set ho (g:=g) (cap:=c) rfl (r.length * 2 + 1) (.int .i64 (i : Int))
 refine ⟨_,hs,⟨?_,?_,?_,?_,?_,?_⟩⟩
 ·rw [upd_ne _ _ (by simp)]; exact h.box
 ·rw [upd_ne _ _ (by simp)]; exact h.low
 ·rw [upd_ne _ _ (by simp)]; exact h.fnd
 ·rw [upd_ne _ _ (by simp)]; exact h.opn
 ·rw [upd_ne _ _ (by simp)]; exact h.part
 ·rw [upd_same,he]
  simp only [flatF_cons,updN_same,List.length_cons]
  rw [List.set_append_right _ _ (by rw [flatF_len]; omega),flatF_len,show r.length * 2 + 1 - r.length * 2 = 1 by omega,
   flatF_congr (f:=updN S.idx v i) (g:=S.idx) (fun x hx => updN_other _ _ _ (fun e => hv (by rw [← e]; exact hx)))]
  rfl
/-- The topmost frame, and the one below it. -/
theorem SN.callTop {v : Nat} {r : List Nat} {g c : Nat} (h : SN f d nv lv fv pv ov (.slice (some ⟨g,0,none⟩) (r.length + 1) c) n S) (he : S.calls = v :: r) (hr : Rows B w f) :
 w.cell? ⟨g,r.length * 2,none⟩ = some (.int .i64 (v : Int)) ∧ w.cell? ⟨g,r.length * 2 + 1,none⟩ = some (.int .i64 (S.idx v : Int)) ∧ w.frozen? ⟨g,r.length * 2 + 1,none⟩ = false:=by
 have ho:=h.calls
 rw [he] at ho
 refine ⟨?_,?_,hr.frozen ho (g:=g) (cap:=c) rfl _⟩
 ·rw [hr.cell ho (g:=g) (cap:=c) rfl _ (by simp only [List.length_cons]; omega),flatF_cons,List.getElem?_append_right (by rw [flatF_len]; omega),flatF_len,Nat.sub_self]; rfl
 ·rw [hr.cell ho (g:=g) (cap:=c) rfl _ (by simp; omega),flatF_cons,List.getElem?_append_right (by rw [flatF_len]; omega),flatF_len,show r.length * 2 + 1 - r.length * 2 = 1 by omega]; rfl
/-- The value that holds the stack of calls, the open stack. -/
theorem row_shape {E : TypeId} {size m : Nat} {v : Value} {xs : List Value} (h : w.ownsRow B E size v m xs) (hm : 0 < m) : ∃ g c,v = .slice (some ⟨g,0,none⟩) m c ∧ m ≤ c:=by
 rcases h.2 with ⟨_,e⟩ | ⟨g,cap,cur,e,_,_,hn,_⟩
 ·omega
 ·exact ⟨g,cap,e,hn⟩
theorem SN.callsShape (h : SN f d nv lv fv pv ov cv n S) (hr : Rows B w f) (hc : S.calls ≠ []) : ∃ g c,cv = .slice (some ⟨g,0,none⟩) S.calls.length c ∧ S.calls.length ≤ c :=
 row_shape (hr.1 _ _ h.calls) (List.length_pos_iff.2 hc)
theorem SN.opnShape (h : SN f d nv lv fv pv ov cv n S) (hr : Rows B w f) (hc : S.opn ≠ []) : ∃ g c,ov = .slice (some ⟨g,0,none⟩) S.opn.length c ∧ S.opn.length ≤ c:=by
 have:=row_shape (hr.1 _ _ h.opn) (by show 0 < (upI S.opn).length; rw [upI_len]; exact List.length_pos_iff.2 hc)
 obtain ⟨g,c,e,e2⟩:=this
 have e : ov = .slice (some ⟨g,0,none⟩) (upI S.opn).length c:=e
 have e2 : (upI S.opn).length ≤ c:=e2
 rw [upI_len] at e e2
 exact ⟨g,c,e,e2⟩
theorem SN.opnNil {adj : Nat → List Nat} (_h : SN f d nv lv fv pv ov cv n S) (hI : TInv n adj S) (hc : S.calls = []) : S.opn = []:=hI.opn_nil hc
/-- The length of the stack of calls. -/
theorem SN.callsLen (h : SN f d nv lv fv pv ov cv n S) (hr : Rows B w f) : ∃ a c,cv = .slice a S.calls.length c:=by
 rcases (hr.1 _ _ h.calls).2 with ⟨e,e2⟩ | ⟨g,cap,cur,e,_⟩
 ·have e2 : S.calls.length = 0:=e2
  have e : cv = .slice none 0 0:=e
  exact ⟨none,0,by rw [e,e2]⟩
 ·exact ⟨_,_,e⟩
end
end Go.Proofs.YtncpnaoabkjegaaGreatDoor
namespace Go.Proofs.YtncpnaoabkjegaaGreatDoor
/-- w is a way from x to y. -/
inductive Way (adj : Nat → List Nat) : Nat → Nat → List Nat → Prop
 | one (x : Nat) : Way adj x x [x]
 | cons {x t y : Nat} {w : List Nat} (ht : t ∈ adj x) (h : Way adj t y w) : Way adj x y (x :: w)
theorem Way.goes {adj : Nat → List Nat} {x y : Nat} {w : List Nat} (h : Way adj x y w) : Goes adj x y:=by
 induction h with
 | one => exact .refl _
 | cons ht _ ih => exact (Goes.one ht).trans ih
theorem Way.snoc {adj : Nat → List Nat} {x y z : Nat} {w : List Nat} (h : Way adj x y w) (hz : z ∈ adj y) : Way adj x z (w ++ [z]):=by
 induction h with
 | one => exact .cons hz (.one _)
 | cons ht _ ih => exact .cons ht (ih hz)
theorem Goes.way {adj : Nat → List Nat} {x y : Nat} (h : Goes adj x y) : ∃ w,Way adj x y w:=by
 induction h with
 | refl => exact ⟨_,.one _⟩
 | step _ hz ih => obtain ⟨w,hw⟩:=ih; exact ⟨_,hw.snoc hz⟩
theorem Way.ne {adj : Nat → List Nat} {x y : Nat} {w : List Nat} (h : Way adj x y w) : ∃ w',w = x :: w':=by
 cases h with
 | one => exact ⟨_,rfl⟩
 | cons => exact ⟨_,rfl⟩
theorem Way.pos {adj : Nat → List Nat} {x y : Nat} {w : List Nat} (h : Way adj x y w) : 0 < w.length:=by
 obtain ⟨w',rfl⟩:=h.ne; simp
/-- The order of words. -/
def lexLe : List Nat → List Nat → Prop
 | [],_ => True
 | _ :: _,[] => False
 | a :: l,b :: m => a < b ∨ (a = b ∧ lexLe l m)
theorem lexLe_refl : ∀ l,lexLe l l
 | [] => trivial
 | _ :: l => .inr ⟨rfl,lexLe_refl l⟩
/-- w is the first of the shortest ways from x to y. -/
structure IsFirst (adj : Nat → List Nat) (x y : Nat) (w : List Nat) : Prop where
 way : Way adj x y w
 short : ∀ u,Way adj x y u → w.length ≤ u.length
 least : ∀ u,Way adj x y u → u.length = w.length → lexLe w u
theorem IsFirst.tail {adj : Nat → List Nat} {x y t : Nat} {w : List Nat} (h : IsFirst adj x y (x :: t :: w)) : IsFirst adj t y (t :: w):=by
 obtain ⟨ht,hw⟩ : t ∈ adj x ∧ Way adj t y (t :: w):=by
  have h1:=h.way
  cases h1 with
  | cons ht h2 => obtain ⟨w',e⟩:=h2.ne; injection e with e1 e2; subst e1; exact ⟨ht,h2⟩
 refine ⟨hw,fun u hu => ?_,fun u hu hl => ?_⟩
 ·have:=h.short _ (.cons ht hu); simp only [List.length_cons] at this ⊢; omega
 ·have:=h.least _ (.cons ht hu) (by simp only [List.length_cons] at hl ⊢; omega)
  exact (this.resolve_left (Nat.lt_irrefl _)).2
/-- The ends that stand in a way are the same, and each piece behind is a way. -/
theorem Way.mem {adj : Nat → List Nat} {x y : Nat} {w : List Nat} (h : Way adj x y w) : ∀ z ∈ w,∃ u,Way adj z y u ∧ u.length ≤ w.length:=by
 induction h with
 | one => intro z hz; cases List.mem_singleton.1 hz; exact ⟨_,.one _,Nat.le_refl _⟩
 | cons ht h ih =>
  intro z hz
  rcases List.mem_cons.1 hz with rfl | hz
  ·exact ⟨_,.cons ht h,Nat.le_refl _⟩
  ·obtain ⟨u,h1,h2⟩:=ih z hz; exact ⟨u,h1,by simp only [List.length_cons]; omega⟩
/-- No vertex twice. -/
theorem IsFirst.nodup {adj : Nat → List Nat} {x y : Nat} {w : List Nat} (h : IsFirst adj x y w) : w.Nodup:=by
 induction w generalizing x with
 | nil => exact List.nodup_nil
 | cons a w ih =>
  obtain ⟨w',e⟩:=h.way.ne
  injection e with e1 e2
  subst e1; subst e2
  cases w with
  | nil => simp
  | cons t w =>
   refine List.nodup_cons.2 ⟨fun hm => ?_,ih h.tail⟩
   obtain ⟨u,h1,h2⟩:=h.tail.way.mem _ hm
   have:=h.short u h1
   simp only [List.length_cons] at this h2; omega
/-- The queue, where everything came from, and with which place's help (par), how far (dist). -/
structure BBase (adj : Nat → List Nat) (a : Nat) (came : Nat → Int) (q : List Nat) (par dist : Nat → Nat) (b i : Nat) : Prop where
 hd : q[0]? = some a
 nodup : q.Nodup
 cameIff : ∀ x,0 ≤ came x ↔ x ∈ q
 low : ∀ x,-1 ≤ came x
 root : came a = a
 dist0 : dist a = 0
 parLt : ∀ (j x : Nat),0 < j → q[j]? = some x → par j < b ∧ par j < j ∧ ∃ p,q[par j]? = some p ∧ came x = (p : Int) ∧ x ∈ adj p ∧ dist x = dist p + 1
 mono : ∀ (j k x y : Nat),0 < j → j < k → q[j]? = some x → q[k]? = some y → par j ≤ par k ∧ (par j = par k → x < y)
 distMono : ∀ (j k x y : Nat),j ≤ k → q[j]? = some x → q[k]? = some y → dist x ≤ dist y
 closed : ∀ p x,p < i → q[p]? = some x → ∀ t ∈ adj x,∃ j,q[j]? = some t ∧ (0 < j → par j ≤ p)
/-- Between two rounds. -/
abbrev BOut (adj : Nat → List Nat) (a : Nat) (came : Nat → Int) (q : List Nat) (par dist : Nat → Nat) (i : Nat) : Prop:=BBase adj a came q par dist i i
/-- Within a round: l is what is left of v's arrows, from the least on. -/
structure BIn (adj : Nat → List Nat) (a : Nat) (came : Nat → Int) (q : List Nat) (par dist : Nat → Nat) (i v : Nat) (l : List Nat) : Prop where
 base : BBase adj a came q par dist (i + 1) i
 cur : q[i]? = some v
 sub : ∀ t ∈ l,t ∈ adj v
 sorted : l.Pairwise (· ≤ ·)
 seen : ∀ t ∈ adj v,t ∈ l ∨ ∃ j,q[j]? = some t ∧ (0 < j → par j ≤ i)
 new : ∀ j x,0 < j → q[j]? = some x → par j = i → ∀ t ∈ l,x ≤ t
variable {adj : Nat → List Nat} {a : Nat} {came : Nat → Int} {q : List Nat} {par dist : Nat → Nat} {b i v : Nat} {l : List Nat}
theorem get_of {q : List Nat} {j x : Nat} (h : q[j]? = some x) : j < q.length:=by
 by_cases e : j < q.length
 ·exact e
 ·rw [List.getElem?_eq_none (by omega)] at h; cases h
theorem get_inj {q : List Nat} (hn : q.Nodup) {j k x : Nat} (h : q[j]? = some x) (h2 : q[k]? = some x) : j = k:=by
 have h1:=get_of h
 exact (List.getElem?_inj h1 hn).1 (h.trans h2.symm)
theorem BBase.enter (h : BOut adj a came q par dist i) (hv : q[i]? = some v) (hl : ∀ t,t ∈ l ↔ t ∈ adj v) (hs : l.Pairwise (· ≤ ·)) : BIn adj a came q par dist i v l:=by
 refine ⟨⟨h.hd,h.nodup,h.cameIff,h.low,h.root,h.dist0,fun j x hj hx => ?_,h.mono,h.distMono,h.closed⟩,hv,fun t ht => (hl t).1 ht,hs,fun t ht => .inl ((hl t).2 ht),fun j x hj hx hp => ?_⟩
 ·obtain ⟨h1,h2,h3⟩:=h.parLt j x hj hx
  exact ⟨by omega,h2,h3⟩
 ·have:=(h.parLt j x hj hx).1; omega
theorem BIn.leave (h : BIn adj a came q par dist i v []) : BOut adj a came q par dist (i + 1):=by
 refine ⟨h.base.hd,h.base.nodup,h.base.cameIff,h.base.low,h.base.root,h.base.dist0,h.base.parLt,h.base.mono,h.base.distMono,fun p x hp hx t ht => ?_⟩
 by_cases e : p = i
 ·subst e
  rw [h.cur] at hx; cases hx
  exact (h.seen t ht).resolve_left (by simp)
 ·exact h.base.closed p x (by omega) hx t ht
/-- An arrow to a vertex that is there. -/
theorem BIn.old {t : Nat} (h : BIn adj a came q par dist i v (t :: l)) (ht : 0 ≤ came t) : BIn adj a came q par dist i v l:=by
 refine ⟨h.base,h.cur,fun x hx => h.sub x (List.mem_cons_of_mem _ hx),(List.pairwise_cons.1 h.sorted).2,fun x hx => ?_,fun j x hj hx hp y hy => h.new j x hj hx hp y (List.mem_cons_of_mem _ hy)⟩
 rcases h.seen x hx with q1 | q1
 ·rcases List.mem_cons.1 q1 with e | e
  ·subst e
   obtain ⟨j,hj⟩:=List.mem_iff_getElem?.1 ((h.base.cameIff x).1 ht)
   refine .inr ⟨j,hj,fun hj0 => ?_⟩
   have:=(h.base.parLt j x hj0 hj).1; omega
  ·exact .inl e
 ·exact .inr q1
/-- An arrow to a new one. -/
theorem BIn.add {t : Nat} (h : BIn adj a came q par dist i v (t :: l)) (ht : came t < 0) :
 BIn adj a (updN came t (v : Int)) (q ++ [t]) (updN par q.length i) (updN dist t (dist v + 1)) i v l:=by
 have hB:=h.base
 have htq : t ∉ q:=fun hm => by have:=(hB.cameIff t).2 hm; omega
 have hil:=get_of h.cur
 have hga : ∀ j x,(q ++ [t])[j]? = some x → q[j]? = some x ∧ j < q.length ∧ x ≠ t ∨ j = q.length ∧ x = t:=fun j x hx => by
  by_cases e : j < q.length
  ·rw [List.getElem?_append_left e] at hx
   exact .inl ⟨hx,e,fun e2 => htq (by rw [← e2]; exact List.mem_of_getElem? hx)⟩
  ·rw [List.getElem?_append_right (by omega)] at hx
   by_cases e2 : j = q.length
   ·rw [e2] at hx; simp at hx; exact .inr ⟨e2,hx.symm⟩
   ·rw [List.getElem?_eq_none (by simp; omega)] at hx; cases hx
 have hgo : ∀ {j x},q[j]? = some x → (q ++ [t])[j]? = some x:=fun {j x} hx => by rw [List.getElem?_append_left (get_of hx)]; exact hx
 have hne : ∀ x,x ∈ q → x ≠ t:=fun x hx e => htq (by rw [← e]; exact hx)
 have hvt : v ≠ t:=hne v (List.mem_of_getElem? h.cur)
 have po : ∀ j,j < q.length → updN par q.length i j = par j:=fun j hj => updN_other _ _ _ (by omega)
 have dq : ∀ x,x ∈ q → updN dist t (dist v + 1) x = dist x:=fun x hx => updN_other _ _ _ (hne x hx)
 have haq : a ∈ q:=List.mem_of_getElem? hB.hd
 have hdle : ∀ x,x ∈ q → dist x ≤ dist v + 1:=fun x hx => by
  obtain ⟨j,hj⟩:=List.mem_iff_getElem?.1 hx
  by_cases e : 0 < j
  ·obtain ⟨h1,h2,p,h3,h4,h5,h6⟩:=hB.parLt j x e hj
   have:=hB.distMono (par j) i p v (by omega) h3 h.cur
   omega
  ·have : j = 0:=by omega
   subst this; rw [hB.hd] at hj; cases hj; have:=hB.dist0; omega
 refine ⟨⟨hgo hB.hd,?_,fun x => ?_,fun x => ?_,?_,?_,fun j x hj hx => ?_,fun j k x y hj hjk hx hy => ?_,fun j k x y hjk hx hy => ?_,fun p x hp hx t' ht' => ?_⟩,hgo h.cur,fun x hx => h.sub x (List.mem_cons_of_mem _ hx),(List.pairwise_cons.1 h.sorted).2,fun x hx => ?_,fun j x hj hx hp y hy => ?_⟩
 ·exact List.nodup_append.2 ⟨hB.nodup,by simp,fun x hx y hy => by cases List.mem_singleton.1 hy; exact hne x hx⟩
 ·by_cases e : x = t
  ·subst e; rw [updN_same]; simp
  ·rw [updN_other _ _ _ e,hB.cameIff]; simp [e]
 ·by_cases e : x = t
  ·subst e; rw [updN_same]; omega
  ·rw [updN_other _ _ _ e]; exact hB.low x
 ·rw [updN_other _ _ _ (hne a haq)]; exact hB.root
 ·rw [dq a haq]; exact hB.dist0
 ·rcases hga j x hx with ⟨h1,h2,h3⟩ | ⟨rfl,rfl⟩
  ·obtain ⟨p1,p2,p,p3,p4,p5,p6⟩:=hB.parLt j x hj h1
   rw [po j h2,updN_other _ _ _ h3,dq x (List.mem_of_getElem? h1)]
   exact ⟨p1,p2,p,hgo p3,p4,p5,by rw [dq p (List.mem_of_getElem? p3)]; exact p6⟩
  ·rw [updN_same,updN_same,updN_same]
   exact ⟨by omega,hil,v,hgo h.cur,rfl,h.sub _ List.mem_cons_self,by rw [dq v (List.mem_of_getElem? h.cur)]⟩
 ·rcases hga j x hx with ⟨h1,h2,h3⟩ | ⟨rfl,rfl⟩
  ·rcases hga k y hy with ⟨k1,k2,k3⟩ | ⟨rfl,rfl⟩
   ·rw [po j h2,po k k2]; exact hB.mono j k x y hj hjk h1 k1
   ·rw [po j h2,updN_same]
    have:=(hB.parLt j x hj h1).1
    exact ⟨by omega,fun e => by have:=h.new j x hj h1 e y List.mem_cons_self; omega⟩
  ·rcases hga k y hy with ⟨k1,k2,k3⟩ | ⟨rfl,rfl⟩ <;> omega
 ·rcases hga k y hy with ⟨k1,k2,k3⟩ | ⟨rfl,rfl⟩
  ·rcases hga j x hx with ⟨h1,h2,h3⟩ | ⟨rfl,rfl⟩
   ·rw [dq x (List.mem_of_getElem? h1),dq y (List.mem_of_getElem? k1)]; exact hB.distMono j k x y hjk h1 k1
   ·omega
  ·rcases hga j x hx with ⟨h1,h2,h3⟩ | ⟨h1,rfl⟩
   ·rw [dq x (List.mem_of_getElem? h1),updN_same]; exact hdle x (List.mem_of_getElem? h1)
   ·exact Nat.le_refl _
 ·rcases hga p x hx with ⟨h1,h2,h3⟩ | ⟨h1,rfl⟩
  ·obtain ⟨j,j1,j2⟩:=hB.closed p x hp h1 t' ht'
   exact ⟨j,hgo j1,fun hj => by rw [po j (get_of j1)]; exact j2 hj⟩
  ·omega
 ·by_cases e : x = t
  ·subst e; exact .inr ⟨q.length,by simp,fun _ => by rw [updN_same]; exact Nat.le_refl _⟩
  ·rcases h.seen x hx with q1 | ⟨j,j1,j2⟩
   ·exact .inl ((List.mem_cons.1 q1).resolve_left e)
   ·exact .inr ⟨j,hgo j1,fun hj => by rw [po j (get_of j1)]; exact j2 hj⟩
 ·rcases hga j x hx with ⟨h1,h2,h3⟩ | ⟨rfl,rfl⟩
  ·rw [po j h2] at hp; exact h.new j x hj h1 hp y (List.mem_cons_of_mem _ hy)
  ·exact (List.pairwise_cons.1 h.sorted).1 y hy
theorem BBase.init (adj : Nat → List Nat) (a : Nat) : BOut adj a (updN (fun _ => (-1 : Int)) a (a : Int)) [a] (fun _ => 0) (fun _ => 0) 0:=by
 have hg : ∀ j x,[a][j]? = some x → j = 0 ∧ x = a:=fun j x hx => by
  cases j with
  | zero => simp at hx; exact ⟨rfl,hx.symm⟩
  | succ j => simp at hx
 refine ⟨rfl,by simp,fun x => ?_,fun x => ?_,updN_same _ _ _,rfl,fun j x hj hx => ?_,fun j k x y hj hjk hx hy => ?_,fun j k x y hjk hx hy => Nat.le_refl _,fun p x hp => by omega⟩
 ·by_cases e : x = a
  ·subst e; rw [updN_same]; simp
  ·rw [updN_other _ _ _ e]; simp [e]
 ·by_cases e : x = a
  ·subst e; rw [updN_same]; omega
  ·rw [updN_other _ _ _ e]; omega
 ·have:=(hg j x hx).1; omega
 ·have:=(hg j x hx).1; have:=(hg k y hy).1; omega
/-- A way along which each vertex came from the one ahead of it. -/
inductive Tree (came : Nat → Int) (q : List Nat) (adj : Nat → List Nat) : Nat → Nat → List Nat → Prop
 | one (x : Nat) (hx : x ∈ q) : Tree came q adj x x [x]
 | cons {x t y : Nat} {w : List Nat} (jx jt : Nat) (hx : q[jx]? = some x) (ht : q[jt]? = some t) (h0 : 0 < jt) (hp : came t = (x : Int)) (h : Tree came q adj t y w) : Tree came q adj x y (x :: w)
theorem BBase.parent (h : BOut adj a came q par dist i) {jx jt x t : Nat} (hx : q[jx]? = some x) (ht : q[jt]? = some t) (h0 : 0 < jt) (hp : came t = (x : Int)) : par jt = jx ∧ jx < i ∧ jx < jt ∧ t ∈ adj x ∧ dist t = dist x + 1:=by
 obtain ⟨h1,h2,p,h3,h4,h5,h6⟩:=h.parLt jt t h0 ht
 have e : p = x:=by rw [hp] at h4; omega
 subst e
 have:=get_inj h.nodup h3 hx
 exact ⟨this,by omega,by omega,h5,h6⟩
theorem Tree.way (h : BOut adj a came q par dist i) {x y : Nat} {w : List Nat} (ht : Tree came q adj x y w) : Way adj x y w:=by
 induction ht with
 | one => exact .one _
 | cons jx jt hx ht h0 hp _ ih => exact .cons (h.parent hx ht h0 hp).2.2.2.1 ih
theorem Tree.distEq (h : BOut adj a came q par dist i) {x y : Nat} {w : List Nat} (ht : Tree came q adj x y w) : dist y + 1 = dist x + w.length:=by
 induction ht with
 | one => rfl
 | cons jx jt hx ht h0 hp _ ih => have:=(h.parent hx ht h0 hp).2.2.2.2; simp only [List.length_cons]; omega
theorem Tree.last {x y : Nat} {w : List Nat} (ht : Tree came q adj x y w) : y ∈ q:=by
 induction ht with
 | one _ hx => exact hx
 | cons _ _ _ _ _ _ _ ih => exact ih
theorem Tree.le (h : BOut adj a came q par dist i) {x y : Nat} {w : List Nat} (ht : Tree came q adj x y w) : ∀ {j k : Nat},q[j]? = some x → q[k]? = some y → j ≤ k:=by
 induction ht with
 | one => intro j k hj hk; exact Nat.le_of_eq (get_inj h.nodup hj hk)
 | cons jx jt hx ht h0 hp _ ih =>
  intro j k hj hk
  have h1:=(h.parent hx ht h0 hp).2.2.1
  have h2:=ih ht hk
  have:=get_inj h.nodup hj hx
  omega
/-- No way to a vertex of the queue is shorter than how far it is. -/
theorem BBase.far (h : BOut adj a came q par dist i) {x y : Nat} {u : List Nat} (hu : Way adj x y u) (hx : x ∈ q) (hy : y ∈ q) : dist y + 1 ≤ dist x + u.length:=by
 induction hu with
 | one => simp
 | @cons x t y w ht hu ih =>
  obtain ⟨jx,hjx⟩:=List.mem_iff_getElem?.1 hx
  have hl:=hu.pos
  simp only [List.length_cons]
  by_cases hi : jx < i
  ·obtain ⟨jt,h1,h2⟩:=h.closed jx x hi hjx t ht
   have:=ih (List.mem_of_getElem? h1) hy
   have hd : dist t ≤ dist x + 1:=by
    by_cases h0 : 0 < jt
    ·obtain ⟨_,_,p,p1,_,_,p2⟩:=h.parLt jt t h0 h1
     have:=h.distMono _ _ _ _ (h2 h0) p1 hjx
     omega
    ·have : jt = 0:=by omega
     subst this; rw [h.hd] at h1; cases h1; have:=h.dist0; omega
   omega
  ·obtain ⟨jy,hjy⟩:=List.mem_iff_getElem?.1 hy
   by_cases h0 : 0 < jy
   ·obtain ⟨p0,_,p,p1,_,_,p2⟩:=h.parLt jy y h0 hjy
    have:=h.distMono _ _ _ _ (show par jy ≤ jx by omega) p1 hjx
    omega
   ·have : jy = 0:=by omega
    subst this; rw [h.hd] at hjy; cases hjy; have:=h.dist0; omega
/-- From an earlier place a way is longer. -/
theorem BBase.longer (h : BOut adj a came q par dist i) {x y b : Nat} {u w : List Nat} (hu : Way adj x b u) (ht : Tree came q adj y b w) {jx jy : Nat} (hjx : q[jx]? = some x) (hjy : q[jy]? = some y) (hlt : jx < jy) : w.length < u.length:=by
 induction hu generalizing y w jx jy with
 | one => have:=ht.le h hjy hjx; omega
 | @cons x x' b u' hx' hu ih =>
  cases ht with
  | one => have:=hu.pos; simp only [List.length_cons,List.length_nil]; omega
  | cons jy2 jt hy2 hjt h0 hp ht =>
   obtain ⟨e1,e2,e3,_,_⟩:=h.parent hy2 hjt h0 hp
   have e4:=get_inj h.nodup hjy hy2
   obtain ⟨jx',k1,k2⟩:=h.closed jx x (by omega) hjx x' hx'
   have : jx' < jt:=by
    by_cases q1 : jx' < jt
    ·exact q1
    ·exfalso
     by_cases q2 : jx' = jt
     ·rw [q2] at k2; have:=k2 h0; omega
     ·have:=(h.mono jt jx' _ _ h0 (by omega) hjt k1).1
      have:=k2 (by omega); omega
   have:=ih ht k1 hjt this
   simp only [List.length_cons]; omega
/-- Of all ways of its length the tree's is the first. -/
theorem BBase.lex (h : BOut adj a came q par dist i) {x b : Nat} {u w : List Nat} (hu : Way adj x b u) (ht : Tree came q adj x b w) (hl : u.length = w.length) : lexLe w u:=by
 induction hu generalizing w with
 | one =>
  cases ht with
  | one => exact lexLe_refl _
  | cons _ _ _ _ _ _ ht => cases ht <;> simp at hl
 | @cons x x' b u' hx' hu ih =>
  cases ht with
  | one => have:=hu.pos; simp only [List.length_cons,List.length_nil] at hl; omega
  | @cons _ t _ w' jx jt hjx hjt h0 hp ht =>
   obtain ⟨e1,e2,e3,_,_⟩:=h.parent hjx hjt h0 hp
   have hl' : u'.length = w'.length:=by simpa using hl
   by_cases e : x' = t
   ·subst e; exact .inr ⟨rfl,ih ht hl'⟩
   ·refine .inr ⟨rfl,?_⟩
    obtain ⟨jx',k1,k2⟩:=h.closed jx x e2 hjx x' hx'
    have hne : jx' ≠ jt:=fun q1 => by subst q1; rw [k1] at hjt; injection hjt with q2; exact e q2
    have hge : jt < jx':=by
     by_cases q1 : jx' < jt
     ·have:=h.longer hu ht k1 hjt q1; omega
     ·omega
    have hm:=h.mono jt jx' t x' h0 hge hjt k1
    have:=k2 (by omega)
    have hlt:=hm.2 (by omega)
    obtain ⟨_,rfl⟩:=hu.ne
    obtain ⟨_,rfl⟩:=(ht.way h).ne
    exact .inl hlt
theorem BBase.first (h : BOut adj a came q par dist i) {b : Nat} {w : List Nat} (ht : Tree came q adj a b w) : IsFirst adj a b w :=
 ⟨ht.way h,fun u hu => by
   have h1:=h.far hu (List.mem_of_getElem? h.hd) ht.last
   have h2:=ht.distEq h
   omega,fun u hu hl => h.lex hu ht hl⟩
/-- What isn't in the queue at the end can't be reached. -/
theorem BBase.none (h : BOut adj a came q par dist i) (hi : q.length ≤ i) {b : Nat} (hb : came b < 0) : ¬ Goes adj a b:=fun hg => by
 have:=Goes.closed (P:=fun x => x ∈ q) (fun x hx t ht => by
  obtain ⟨j,hj⟩:=List.mem_iff_getElem?.1 hx
  obtain ⟨k,hk,_⟩:=h.closed j x (by have:=get_of hj; omega) hj t ht
  exact List.mem_of_getElem? hk) hg (List.mem_of_getElem? h.hd)
 have:=(h.cameIff b).2 this
 omega
open Go.RowKit
/-- v is a slice of slices that reads the lists G. -/
def ListsAt (w : World) (v : Value) (G : List (List Int)) : Prop :=
 ∃ vs : List Value,ValsAt w v vs ∧ vs.length = G.length ∧ ∀ i,i < G.length → IntsAt w (vAt vs i) (G.getD i [])
theorem ListsAt.below {w w' : World} {v : Value} {G : List (List Int)} (h : ListsAt w v G) (hb : Below w.heap.size w w') : ListsAt w' v G:=by
 obtain ⟨vs,h1,h2,h3⟩:=h
 exact ⟨vs,h1.below hb,h2,fun i hi => (h3 i hi).below hb⟩
theorem ListsAt.drewN {w : World} {v : Value} {G : List (List Int)} (h : ListsAt w v G) (n : Nat) : ListsAt (w.drewN n) v G:=h
theorem ListsAt.len {w : World} {v : Value} {G : List (List Int)} (h : ListsAt w v G) (ty : TypeId) (w' : World) :
 (Builtin.len_ #[76] ty #[v]).run Tryz.prog w' = .ok (.int .i64 G.length) w':=by
 obtain ⟨vs,h1,h2,h3⟩:=h
 rw [h1.len oneLists,h2]
theorem ListsAt.shape {w : World} {v : Value} {G : List (List Int)} (h : ListsAt w v G) : ∃ a c,v = .slice a G.length c:=by
 obtain ⟨vs,⟨a,c,e,_⟩,h2,_⟩:=h
 exact ⟨a,c,by rw [e,h2]⟩
theorem ListsAt.row {w : World} {v : Value} {G : List (List Int)} (h : ListsAt w v G) (x : Nat) (hx : x < G.length) :
 ∃ mv,(∀ w',(Instr.indexAt 76 v (.int .i64 x)).run Tryz.prog w' = .ok (.pointer (some (valAt v x))) w') ∧ w.cell? (valAt v x) = some mv ∧ IntsAt w mv (G.getD x []):=by
 obtain ⟨vs,h1,h2,h3⟩:=h
 exact ⟨vAt vs x,fun w' => h1.idx oneLists x (by omega) w',h1.cellV x (by omega),h3 x hx⟩
/-- Where an arrow leads. -/
def adjOf (G : List (List Int)) (v : Nat) : List Nat:=(G.getD v []).map Int.toNat
/-- All arrows lead to vertices. -/
def GraphOk (G : List (List Int)) : Prop:=∀ v,v < G.length → ∀ t ∈ G.getD v [],0 ≤ t ∧ t < G.length
theorem adjOf_len (G : List (List Int)) (v : Nat) : (adjOf G v).length = (G.getD v []).length:=by simp [adjOf]
theorem GraphOk.lt {G : List (List Int)} (h : GraphOk G) : ∀ v,v < G.length → ∀ t ∈ adjOf G v,t < G.length:=by
 intro v hv t ht
 obtain ⟨i,hi,rfl⟩:=List.mem_map.1 ht
 have:=h v hv i hi
 omega
theorem GraphOk.get {G : List (List Int)} (h : GraphOk G) {v : Nat} (hv : v < G.length) {i : Nat} (hi : i < (G.getD v []).length) : (G.getD v []).getD i 0 = ((adjOf G v).getD i 0 : Int):=by
 have hm : (G.getD v [])[i] ∈ G.getD v []:=List.getElem_mem hi
 have:=h v hv _ hm
 simp only [adjOf,List.getD_eq_getElem?_getD (l:=List.map _ _),List.getElem?_map,List.getElem?_eq_getElem hi,Option.map_some,Option.getD_some]
 rw [List.getD_eq_getElem?_getD,List.getElem?_eq_getElem hi,Option.getD_some]
 omega
set_option maxRecDepth 100000
/-- The lists of a function. -/
def rowsOf (n : Nat) (F : Nat → List Int) : List (List Int):=(List.range n).map F
theorem rowsOf_len (n : Nat) (F : Nat → List Int) : (rowsOf n F).length = n:=by simp [rowsOf]
theorem rowsOf_get (n : Nat) (F : Nat → List Int) (u : Nat) (hu : u < n) : (rowsOf n F).getD u [] = F u:=by simp [rowsOf,List.getD,hu]
theorem vAt_set_same {l : List Value} {k : Nat} {g : Value} (h : k < l.length) : vAt (l.set k g) k = g:=by simp [vAt,List.getD,h]
theorem vAt_set_ne {l : List Value} {k t : Nat} {g : Value} (h : t ≠ k) : vAt (l.set k g) t = vAt l t:=by
 simp [vAt,List.getD,Ne.symm h]
/-- What the names name: the outer row, the lists. -/
structure WN (f : Names) (ov : Value) (vals : List Value) (n : Nat) (F : Nat → List Int) : Prop where
 outer : f (1,0) = some (rowV 22 ov vals)
 len : vals.length = n
 rows : ∀ u,u < n → f (2,u) = some (rowI (vAt vals u) (F u))
section
variable {B : Nat} {w : World} {f : Names} {ov : Value} {vals : List Value} {n : Nat} {F : Nat → List Int}
theorem WN.lists (h : WN f ov vals n F) (hr : Rows B w f) : ListsAt w ov (rowsOf n F) :=
 ⟨vals,(hr.ownV h.outer).at,by rw [h.len,rowsOf_len],fun i hi => by
   rw [rowsOf_len] at hi
   rw [rowsOf_get n F i hi]
   exact (hr.ownI (h.rows i hi)).at⟩
/-- out[u] = a list: the list's row is there; now the outer row's cell. -/
theorem WN.put (h : WN f ov vals n F) {w1 : World} {u : Nat} (hu : u < n) {v' : Value} {xs : List Int} (hr1 : Rows B w1 (upd f (2,u) (some (rowI v' xs)))) :
 w1.cell? (valAt ov u) = some (vAt vals u) ∧ w1.frozen? (valAt ov u) = false ∧ B ≤ (valAt ov u).block ∧
 ∃ f',Rows B (w1.setCell (valAt ov u) v') f' ∧ WN f' ov (vals.set u v') n (updN F u xs) ∧ ∀ i,i ≠ (1,0) → i ≠ (2,u) → f' i = f i:=by
 have ho : upd f (2,u) (some (rowI v' xs)) (1,0) = some (rowV 22 ov vals):=by rw [upd_ne _ _ (by simp)]; exact h.outer
 have hl : u < vals.length:=by rw [h.len]; exact hu
 have hO:=hr1.ownV ho
 refine ⟨hO.at.cellV u hl,hO.frz u hl,(hO.blkB u hl).2,_,hr1.setV ho u hl v',⟨upd_same _ _ _,by simpa using h.len,fun t ht => ?_⟩,fun i h1 h2 => by rw [upd_ne _ _ h1,upd_ne _ _ h2]⟩
 rw [upd_ne _ _ (by simp)]
 by_cases e : t = u
 ·subst e
  rw [upd_same,vAt_set_same hl,updN_same]
 ·rw [upd_ne _ _ (by simpa using e),vAt_set_ne e,updN_other _ _ _ e]
  exact h.rows t ht
/-- A list that a call has made. -/
theorem WN.new (_h : WN f ov vals n F) (hr : Rows B w f) {w1 : World} (u : Nat) {v' : Value} {xs : List Int} (hb : Below w.heap.size w w1) (hB : B ≤ w.heap.size) (ho : OwnI w.heap.size w1 v' xs) : Rows B w1 (upd f (2,u) (some (rowI v' xs))) :=
 hr.add hb (ho.mono hB) (fun k hk => (ho.lt k hk).1)
/-- append(out[u], x). -/
theorem WN.app (h : WN f ov vals n F) (hr : Rows B w f) {w1 : World} {u : Nat} (hu : u < n) {v' : Value} (x : Int) (ho : OwnI B w1 v' (F u ++ [x]))
 (hal : (roomOf v' = roomOf (vAt vals u) ∧ w.grownBy w1 (vAt vals u).ownBlock) ∨ (∃ k,v'.ownBlock = some k ∧ w.heap.size ≤ k ∧ w.grownBy w1 none)) : Rows B w1 (upd f (2,u) (some (rowI v' (F u ++ [x])))):=by
 have hO:=hr.ownI (h.rows u hu)
 refine hr.grown (r':=rowI v' (F u ++ [x])) (h.rows u hu) (grown_via (hal.imp (·.2) (fun ⟨_,_,_,q⟩ => q))) ho ?_
 rcases hal with ⟨q,_⟩ | ⟨k,h1,h2,_⟩
 ·obtain ⟨a1,n1,c1,e1⟩:=hO.at.shape
  obtain ⟨a2,n2,c2,e2⟩:=ho.at.shape
  exact .inl (ownBlock_of_room e1 e2 q)
 ·exact .inr ⟨k,h1,h2⟩
/-- out[u][i] = x. -/
theorem WN.elem (h : WN f ov vals n F) (hr : Rows B w f) (u : Nat) (hu : u < n) (i : Nat) (hi : i < (F u).length) (x : Int) :
 ∃ f',Rows B (w.setCell (valAt (vAt vals u) i) (.int .i64 x)) f' ∧ WN f' ov vals n (updN F u ((F u).set i x)):=by
 refine ⟨_,hr.setI (h.rows u hu) i hi x,⟨by rw [upd_ne _ _ (by simp)]; exact h.outer,h.len,fun t ht => ?_⟩⟩
 by_cases e : t = u
 ·subst e; rw [upd_same,updN_same]
 ·rw [upd_ne _ _ (by simpa using e),updN_other _ _ _ e]; exact h.rows t ht
end
/-- make([]T, n) as an equation. -/
theorem run_makeW {T E : TypeId} {z : Value} {b : Nat} (oc : OneCell T E z b) (C : Int) (n : Nat) (w : World) (hC : C = n) (hn : n ≤ 4398046511104) :
 ∃ v w',(Instr.makeSlice T (.int .i64 C) (.int .i64 C)).run Tryz.prog w = .ok v w' ∧ OwnV E w.heap.size w' v (List.replicate n z) ∧ Below w.heap.size w w':=by
 subst hC
 obtain ⟨i,hi,hz0,hz1,hz2⟩:=info_parts oc.hi
 have hb:=oc.hb
 obtain ⟨w',hrun,r1,r2⟩:=run_make_full (P:=Tryz.prog) w w.heap.size T E i z 1 oc.ht hi hz0 hz1 .i64 .i64 n (by
  rw [hz2]
  calc b * n ≤ 32 * 4398046511104:=Nat.mul_le_mul hb (by omega)
   _ ≤ _:=by decide) (by unfold maxLen; omega) (Nat.le_refl _)
 refine ⟨_,w',hrun,?_,(Below.refl _ _).grown r2 (Nat.le_refl _) (by intro k hk; cases hk)⟩
 rw [oc.hz,toList_madeCells_one] at r1
 simpa [OwnV] using r1
/-- Lists none of which is made yet. -/
def nils (n : Nat) : Names:=fun i => if i.1 = 2 ∧ i.2 < n then some (rowI (.slice none 0 0) []) else none
theorem rows_nils (B : Nat) (w : World) (n : Nat) : Rows B w (nils n):=by
 refine ⟨fun i r hi => ?_,fun i j r s hi _ _ => ?_⟩
 ·unfold nils at hi
  split at hi
  ·injection hi with hi; subst hi; exact OwnI.nil B w
  ·cases hi
 ·left
  unfold nils at hi
  split at hi
  ·injection hi with hi; subst hi; rfl
  ·cases hi
/-- make([][]int, n). -/
theorem WN.made {B : Nat} {w w1 : World} {ov : Value} (n : Nat) (hb : Below w.heap.size w w1) (hB : B ≤ w.heap.size) (ho : OwnV 22 w.heap.size w1 ov (List.replicate n (.slice none 0 0))) :
 ∃ f,Rows B w1 f ∧ WN f ov (List.replicate n (.slice none 0 0)) n (fun _ => []):=by
 refine ⟨_,(rows_nils B w n).add (i:=(1,0)) (r':=rowV 22 ov (List.replicate n (.slice none 0 0))) hb (ho.mono hB) (fun k hk => (ho.lt k hk).1),⟨upd_same _ _ _,by simp,fun u hu => ?_⟩⟩
 rw [upd_ne _ _ (by simp)]
 show nils n (2,u) = _
 unfold nils
 rw [if_pos ⟨rfl,hu⟩]
 simp [vAt,List.getD,hu]
end Go.Proofs.YtncpnaoabkjegaaGreatDoor
