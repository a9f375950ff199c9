/-
  Plain mathematics: the reference's sums, window by window; what it tells by the factors; its products.
  Walk: edenref18.Sum.
  What the document's answers of layer 12 share: the error's box.
  Plain mathematics: numbers of parts, given one part after another.
  Walk: edenref12.Parts.
  Plain mathematics: what stands on a loop.
  Plain mathematics: the peeling of a graph, step by step; what it leaves are the live vertices.
  Walk: edenref12.Live.
  Walk: graph.Path.
  Walk: edenref12.Path.
  Walk: graph.Loop.
  The chapter's graph: its parts, its live vertices, its way from 0 to 4, as plain mathematics; the walk that makes it.
-/
import Derived.Test.YtdldadgnggaopaaDoorMGw5
import Derived.Deep.RegionHeld3
namespace Go.Proofs.YtdldadgnggaopaaDoor

/-- The reference's symbol of window i. -/
def sumR (K : Nat) (f : List Int) (i : Nat) : Int := Sm (fun j => f.getD j 0 * (digs K f.length i).getD j 0) f.length % K
theorem sumT_range_eq {K : Nat} (hK : 1 ≤ K) (f : List Int) : sumT K f = (List.range (pw K f.length)).map (sumR K f) := by
  refine List.ext_getElem (by simp [sumT_length]) fun i h1 h2 => ?_
  have hi : i < pw K f.length := by rw [← sumT_length]; exact h1
  have h := sumT_at K f (digs K f.length i) (digs_length ..).symm (digs_syms hK _ _)
  rw [numW_digs hK _ _ hi] at h
  simp only [List.getElem_map, List.getElem_range]
  rw [sumR, ← h]
  simp [List.getD, h1]
theorem Sm_bound {K : Nat} (h4 : K ≤ 4) (u v : Nat → Int) (hu : ∀ j, 0 ≤ u j ∧ u j < K) (hv : ∀ j, 0 ≤ v j ∧ v j < K) (n : Nat) : 0 ≤ Sm (fun j => u j * v j) n ∧ Sm (fun j => u j * v j) n ≤ 9 * n := by
  induction n with
  | zero => simp [Sm]
  | succ n ih =>
    rw [Sm]
    have h1 := hu n
    have h2 := hv n
    have h3 : 0 ≤ u n * v n := Int.mul_nonneg h1.1 h2.1
    have h5 : u n * v n ≤ 3 * 3 := Int.mul_le_mul (by omega) (by omega) h2.1 (by omega)
    omega
theorem prod_bound {K : Nat} (h4 : K ≤ 4) {x y : Int} (hx : 0 ≤ x ∧ x < K) (hy : 0 ≤ y ∧ y < K) : 0 ≤ x * y ∧ x * y ≤ 9 := by
  have h5 : x * y ≤ 3 * 3 := Int.mul_le_mul (by omega) (by omega) hy.1 (by omega)
  exact ⟨Int.mul_nonneg hx.1 hy.1, by omega⟩

/-- What the reference tells of a sum: has every word a preimage? -/
def ontoR (k : Int) (f : List Int) : Bool := !((decide (k = 2 ∨ k = 4) && f.all fun x => x % 2 == 0) || (decide (k = 3) && f.all fun x => x % 3 == 0))
theorem cnt_zero (p : Int) (f : List Int) : mayOnto (cnt p f) = !(f.all fun x => x % p == 0) := by
  unfold mayOnto cnt
  induction f with
  | nil => rfl
  | cons x f ih =>
    rw [List.countP_cons, List.all_cons]
    by_cases h : x % p = 0
    · simp [h, ← ih]
    · have : (x % p == 0) = false := by simpa using h
      simp [h, this]
theorem ontoR_eq {k : Int} {f : List Int} : ontoR k f = wholeP mayOnto k f := by
  unfold ontoR wholeP primesP
  by_cases h : k = 2 ∨ k = 4
  · have h3 : ¬ k = 3 := by omega
    rw [if_pos h]
    simp [h, h3, cnt_zero]
  · rw [if_neg h]
    by_cases h3 : k = 3
    · rw [if_pos h3]
      simp [h3, cnt_zero]
    · rw [if_neg h3]
      simp [h, h3]

def allD (d : Nat) (f : List Int) : Bool := f.all fun x => x % (d : Int) == 0
theorem allD_snoc (d : Nat) (f : List Int) (x : Int) : allD d (f ++ [x]) = (allD d f && (x % (d : Int) == 0)) := by simp [allD]
theorem allD_four {f : List Int} (h : allD 4 f = true) : allD 2 f = true := by
  simp only [allD, List.all_eq_true, beq_iff_eq] at *
  intro x hx
  have := h x hx
  omega
theorem ontoR_false {K d : Nat} {f : List Int} (h4 : K ≤ 4) (h2 : 2 ≤ d) (hd : d ≤ K) (hk : K % d = 0) (ha : allD d f = true) : ontoR K f = false := by
  have hc : (K = 2 ∧ d = 2) ∨ (K = 3 ∧ d = 3) ∨ (K = 4 ∧ d = 2) ∨ (K = 4 ∧ d = 4) := by
    have hKc : K = 2 ∨ K = 3 ∨ K = 4 := by omega
    have hdc : d = 2 ∨ d = 3 ∨ d = 4 := by omega
    rcases hKc with rfl | rfl | rfl <;> rcases hdc with rfl | rfl | rfl <;> simp_all
  rcases hc with ⟨rfl, rfl⟩ | ⟨rfl, rfl⟩ | ⟨rfl, rfl⟩ | ⟨rfl, rfl⟩
  · simp only [allD] at ha; simp [ontoR]; simpa using ha
  · simp only [allD] at ha; simp [ontoR]; simpa using ha
  · simp only [allD] at ha; simp [ontoR]; simpa using ha
  · have ha := allD_four ha; simp only [allD] at ha; simp [ontoR]; simpa using ha
theorem ontoR_true {K : Nat} {f : List Int} (h1 : 1 ≤ K) (h4 : K ≤ 4) (h : ∀ d, 2 ≤ d → d ≤ K → ¬ (K % d = 0 ∧ allD d f = true)) : ontoR K f = true := by
  have hc : K = 1 ∨ K = 2 ∨ K = 3 ∨ K = 4 := by omega
  rcases hc with rfl | rfl | rfl | rfl
  · simp [ontoR]
  · have := h 2 (by omega) (by omega)
    simp [allD] at this
    simpa [ontoR] using this
  · have := h 3 (by omega) (by omega)
    simp [allD] at this
    simpa [ontoR] using this
  · have := h 2 (by omega) (by omega)
    simp [allD] at this
    simpa [ontoR] using this
theorem oneR_false {K p : Nat} {f : List Int} (h4 : K ≤ 4) (h1 : 1 ≤ K) (hp : p = 2 ∨ p = 3) (hk : K % p = 0) (hn : cnt p f ≠ 1) : wholeP mayOne K f = false := by
  have hc : (p = 2 ∧ (K = 2 ∨ K = 4)) ∨ (p = 3 ∧ K = 3) := by
    have : K = 1 ∨ K = 2 ∨ K = 3 ∨ K = 4 := by omega
    rcases this with rfl | rfl | rfl | rfl <;> rcases hp with rfl | rfl <;> simp_all
  have hm : mayOne (cnt p f) = false := by simp [mayOne]; omega
  rcases hc with ⟨rfl, rfl | rfl⟩ | ⟨rfl, rfl⟩ <;> simpa [wholeP, primesP] using hm
theorem oneR_true {K : Nat} {f : List Int} (h4 : K ≤ 4) (h1 : 1 ≤ K) (h : ∀ p, p = 2 ∨ p = 3 → K % p = 0 → cnt p f = 1) : wholeP mayOne K f = true := by
  have : K = 1 ∨ K = 2 ∨ K = 3 ∨ K = 4 := by omega
  rcases this with rfl | rfl | rfl | rfl
  · simp [wholeP, primesP]
  · have := h 2 (.inl rfl) rfl; simp [wholeP, primesP, mayOne] at *; omega
  · have := h 3 (.inr rfl) rfl; simp [wholeP, primesP, mayOne] at *; omega
  · have := h 2 (.inl rfl) rfl; simp [wholeP, primesP, mayOne] at *; omega
end Go.Proofs.YtdldadgnggaopaaDoor

namespace Go.Proofs.YtdldadgnggaopaaDoor
open Go.RowKit
set_option maxRecDepth 100000

/-- append(s, y) onto a list of one's own, in a region that draws. -/
theorem step_app1 {ops : Array Oper} {o : Oper} {a : Act} {w : World} {K : Act → World → Prop} {Q : Exit → Act → World → Prop} {Ep : Prop} (hgd : o.guard = none) (s x : Operand)
    (ho : o.op = .call { callee := .builtin .append, args := #[s, x], argTypes := #[22, 22] })
    (B : Nat) (v : Value) (xs : List Int) (y : Int) (b : Nat) (hs : a.eval s = v) (hx : a.eval x = .slice (some ⟨b, 0, none⟩) 1 1) (hown : OwnI B w v xs) (hc : w.cell? ⟨b, 0, none⟩ = some (.int .i64 y))
    (hlen : xs.length < 4398046511104) (hB : B ≤ w.heap.size)
    (h : ∀ v' w', OwnI B w' v' (xs ++ [y]) → Below B w w' → K (a.put o.dst v') w') :
    if Region.wanted o (yielded ops a.tmps) = true then Oper.wp Tryd.prog o a w K Q else Ep := by
  have hw : Region.wanted o (yielded ops a.tmps) = true := by simp [Region.wanted, hgd]
  rw [if_pos hw]
  obtain ⟨v', w', hr, h2, h3⟩ := run_app oneInts w B o.type v _ hown.toV ⟨b, 0, none⟩ 1 [.int .i64 y] (by simp) (fun j u hj => by
    obtain ⟨hj1, hj2⟩ := List.getElem?_eq_some_iff.1 hj
    obtain rfl : j = 0 := by simpa using hj1
    simp at hj2; subst hj2
    exact hc) (by simp [Value.oneCell']) (by simp; omega) hB
  rw [show ([.int .i64 y] : List Value).length = 1 from rfl] at hr
  unfold Oper.wp
  simp [execOp, ho, resolve, invoke, builtin, hs, hx, hr, Result.andThen]
  have ho' : OwnI B w' v' (xs ++ [y]) := OwnV.toI (by simpa using h2)
  rcases h3 with ⟨_, hg⟩ | ⟨_, hg⟩
  · exact h v' w' ho' ((Below.refl _ _).grown hg hB (fun k hk => (hown.lt k hk).1))
  · exact h v' w' ho' ((Below.refl _ _).grown hg hB (by intro k hk; cases hk))

theorem Box3.belowB {B : Nat} {w w' : World} {b : Nat} {x0 x1 x2 : Value} (h : Box3 w b x0 x1 x2) (hb : Below B w w') (hlt : b < B) : Box3 w' b x0 x1 x2 := by
  obtain ⟨⟨h0, h1, h2⟩, f0, f1, f2⟩ := h
  exact ⟨⟨(hb.cell (p := ⟨b, 0, none⟩) hlt).trans h0, (hb.cell (p := ⟨b, 1, none⟩) hlt).trans h1, (hb.cell (p := ⟨b, 2, none⟩) hlt).trans h2⟩, (hb.frozen (p := ⟨b, 0, none⟩) hlt).trans f0, (hb.frozen (p := ⟨b, 1, none⟩) hlt).trans f1, (hb.frozen (p := ⟨b, 2, none⟩) hlt).trans f2⟩
theorem Box3.far {w : World} {b b' : Nat} {x0 x1 x2 : Value} (h : Box3 w b x0 x1 x2) (hne : b' ≠ b) (i : Nat) (u : Value) : Box3 (w.setCell ⟨b', i, none⟩ u) b x0 x1 x2 := by
  obtain ⟨⟨h0, h1, h2⟩, f0, f1, f2⟩ := h
  refine ⟨⟨?_, ?_, ?_⟩, ?_, ?_, ?_⟩
  · rw [World.cell?_setCell_far _ _ _ _ hne]; exact h0
  · rw [World.cell?_setCell_far _ _ _ _ hne]; exact h1
  · rw [World.cell?_setCell_far _ _ _ _ hne]; exact h2
  · simpa using f0
  · simpa using f1
  · simpa using f2
theorem Box3.set2 {w : World} {b : Nat} {x0 x1 x2 : Value} (h : Box3 w b x0 x1 x2) (u : Value) : Box3 (w.setCell ⟨b, 2, none⟩ u) b x0 x1 u := by
  obtain ⟨⟨h0, h1, h2⟩, f0, f1, f2⟩ := h
  refine ⟨⟨?_, ?_, World.cell?_setCell_same _ _ _ h2⟩, ?_, ?_, ?_⟩
  · rw [World.cell?_setCell_other _ _ _ _ (by simp)]; exact h0
  · rw [World.cell?_setCell_other _ _ _ _ (by simp)]; exact h1
  · simpa using f0
  · simpa using f1
  · simpa using f2

end Go.Proofs.YtdldadgnggaopaaDoor

namespace Go.Proofs.YtdldadgnggaopaaDoor
open Go.RowKit
set_option maxRecDepth 100000

theorem err_box (w1 : World) (x0 x1 x2 : Value) :
    Below w1.heap.size w1 (w1.alloc (.cells #[x0, x1, x2] 45)) ∧ Box3 (w1.alloc (.cells #[x0, x1, x2] 45)) w1.heap.size x0 x1 x2 ∧ (w1.alloc (.cells #[x0, x1, x2] 45)).heap.size = w1.heap.size + 1 := by
  obtain ⟨y0, y1, y2, f⟩ := cells3 (Below.refl (w1.alloc (.cells #[x0, x1, x2] 45)).heap.size (w1.alloc (.cells #[x0, x1, x2] 45)))
  exact ⟨belowAlloc w1 _, ⟨⟨y0, y1, y2⟩, f⟩, by simp⟩
theorem checkG_num {G : List (List Int)} {n : Int} {l : List (ByteArray × Int)} (h : checkG G = some (n, l)) : (n != 0) = true := by
  unfold checkG at h
  split at h
  · injection h with h; injection h with h; subst h; rfl
  split at h
  · injection h with h; injection h with h; subst h; rfl
  split at h
  · injection h with h; injection h with h; subst h; rfl
  · cases h
theorem OwnI.set3 {B b : Nat} {w : World} {v : Value} {xs : List Int} (h : OwnI B w v xs) (hb : b < B) (x y z : Value) : OwnI B (((w.setCell ⟨b, 0, none⟩ x).setCell ⟨b, 1, none⟩ y).setCell ⟨b, 2, none⟩ z) v xs :=
  OwnV.toI (((h.toV.setBelowBase (a := ⟨b, 0, none⟩) hb x).setBelowBase (a := ⟨b, 1, none⟩) hb y).setBelowBase (a := ⟨b, 2, none⟩) hb z)
theorem FirstPost.set3 {w w3 w4 : World} {adj : Nat → List Nat} {a b : Nat} {v : Value} (h : FirstPost w3 adj a b v w4) {c : Nat} (hb : c < w3.heap.size) (hs : w.heap.size ≤ w3.heap.size) (x y z : Value) : FirstPost w adj a b v (((w4.setCell ⟨c, 0, none⟩ x).setCell ⟨c, 1, none⟩ y).setCell ⟨c, 2, none⟩ z) := by
  rcases h with ⟨u, h1, h2⟩ | h
  · exact .inl ⟨u, h1, (h2.set3 hb x y z).mono hs⟩
  · exact .inr h
/-- What an answer with an error leaves. -/
def RefPost (w : World) (t : PErr) (P : Value → World → Prop) (x y : Value) (w' : World) : Prop :=
  EOwn w.heap.size w' t y ∧ (t = none → P x w') ∧ (t ≠ none → x = .slice none 0 0)
end Go.Proofs.YtdldadgnggaopaaDoor

namespace Go.Proofs.YtdldadgnggaopaaDoor
open Classical in
/-- What stands behind the parts of the first v vertices. -/
noncomputable def partSt (p : Nat → Int) (v : Nat) (i : Nat) : Int := if ∃ u, u < v ∧ p u = p i then numO p i else -1
theorem numM_some (p : Nat → Int) (q : Int) : ∀ v, ((numM p v).1 q).isSome = true ↔ ∃ u, u < v ∧ p u = q
  | 0 => by simp [numM]
  | v + 1 => by
    have ih := numM_some p q v
    simp only [numM]
    split
    · next h =>
      rw [ih]
      constructor
      · rintro ⟨u, h1, h2⟩; exact ⟨u, by omega, h2⟩
      · rintro ⟨u, h1, h2⟩
        by_cases e : u = v
        · subst e; exact (numM_some p q u).1 (by rw [← h2]; exact h)
        · exact ⟨u, by omega, h2⟩
    · next h =>
      show (updM _ _ _ q).isSome = true ↔ _
      unfold updM
      by_cases e : q = p v
      · rw [if_pos e]; exact ⟨fun _ => ⟨v, by omega, e.symm⟩, fun _ => rfl⟩
      · rw [if_neg e, ih]
        constructor
        · rintro ⟨u, h1, h2⟩; exact ⟨u, by omega, h2⟩
        · rintro ⟨u, h1, h2⟩
          by_cases e2 : u = v
          · subst e2; exact absurd h2.symm e
          · exact ⟨u, by omega, h2⟩
theorem partSt_zero (p : Nat → Int) : partSt p 0 = fun _ => -1 := by
  funext i
  unfold partSt
  rw [if_neg (by rintro ⟨u, h, _⟩; omega)]
theorem partSt_pos (p : Nat → Int) (v i : Nat) : 0 ≤ partSt p v i ↔ ∃ u, u < v ∧ p u = p i := by
  unfold partSt
  by_cases h : ∃ u, u < v ∧ p u = p i
  · rw [if_pos h]; exact ⟨fun _ => h, fun _ => (numO_bound p i).1⟩
  · rw [if_neg h]; exact ⟨fun q => by omega, fun q => absurd q h⟩
theorem partSt_old (p : Nat → Int) (v : Nat) (h : 0 ≤ partSt p v v) : partSt p (v + 1) = partSt p v ∧ (numM p (v + 1)).2 = (numM p v).2 := by
  have h := (partSt_pos p v v).1 h
  refine ⟨?_, ?_⟩
  · funext i
    unfold partSt
    have : (∃ u, u < v + 1 ∧ p u = p i) ↔ ∃ u, u < v ∧ p u = p i := by
      constructor
      · rintro ⟨u, h1, h2⟩
        by_cases e : u = v
        · subst e
          obtain ⟨u', h3, h4⟩ := h
          exact ⟨u', h3, h4.trans h2⟩
        · exact ⟨u, by omega, h2⟩
      · rintro ⟨u, h1, h2⟩; exact ⟨u, by omega, h2⟩
    by_cases q : ∃ u, u < v ∧ p u = p i
    · rw [if_pos q, if_pos (this.2 q)]
    · rw [if_neg q, if_neg (fun r => q (this.1 r))]
  · have := (numM_some p (p v) v).2 h
    simp only [numM]
    rw [if_pos this]
theorem partSt_new (p : Nat → Int) (v : Nat) (h : partSt p v v < 0) : (∀ i, partSt p (v + 1) i = if p v = p i then ((numM p v).2 : Int) else partSt p v i) ∧ (numM p (v + 1)).2 = (numM p v).2 + 1 := by
  have hn : ¬ ∃ u, u < v ∧ p u = p v := fun q => by have := (partSt_pos p v v).2 q; omega
  have hs : ¬ ((numM p v).1 (p v)).isSome = true := fun q => hn ((numM_some p (p v) v).1 q)
  have hst : numM p (v + 1) = (updM (numM p v).1 (p v) ((numM p v).2 : Int), (numM p v).2 + 1) := by
    simp only [numM]; rw [if_neg hs]
  refine ⟨fun i => ?_, by rw [hst]⟩
  by_cases e : p v = p i
  · rw [if_pos e]
    unfold partSt
    rw [if_pos ⟨v, by omega, e⟩]
    have hv : numO p v = ((numM p v).2 : Int) := by
      have h1 := numM_own p v
      rw [hst] at h1
      simp only [updM, if_true] at h1
      injection h1 with h1
      exact h1.symm
    rw [← hv]
    exact (numO_eq p i v).2 e.symm
  · rw [if_neg e]
    unfold partSt
    have : (∃ u, u < v + 1 ∧ p u = p i) ↔ ∃ u, u < v ∧ p u = p i := by
      constructor
      · rintro ⟨u, h1, h2⟩
        by_cases e2 : u = v
        · subst e2; exact absurd h2 e
        · exact ⟨u, by omega, h2⟩
      · rintro ⟨u, h1, h2⟩; exact ⟨u, by omega, h2⟩
    by_cases q : ∃ u, u < v ∧ p u = p i
    · rw [if_pos q, if_pos (this.2 q)]
    · rw [if_neg q, if_neg (fun r => q (this.1 r))]
theorem partSt_all (p : Nat → Int) (n i : Nat) (hi : i < n) : partSt p n i = numO p i := by
  unfold partSt; rw [if_pos ⟨i, hi, rfl⟩]
end Go.Proofs.YtdldadgnggaopaaDoor

namespace Go.Proofs.YtdldadgnggaopaaDoor
open Go.RowKit
set_option maxRecDepth 100000

open Classical in
/-- While the part of v is being written. -/
noncomputable def midP (p : Nat → Int) (v k : Nat) (i : Nat) : Int := if i < k then partSt p (v + 1) i else partSt p v i
theorem midP_zero (p : Nat → Int) (v : Nat) : midP p v 0 = partSt p v := by funext i; unfold midP; rw [if_neg (by omega)]
theorem midP_all (p : Nat → Int) (v n : Nat) : tabI n (midP p v n) = tabI n (partSt p (v + 1)) := tabI_congr fun t ht => by unfold midP; rw [if_pos ht]
theorem midP_set (p : Nat → Int) (v k : Nat) : updN (midP p v k) k (partSt p (v + 1) k) = midP p v (k + 1) := by
  funext t
  unfold midP
  by_cases e : t = k
  · subst e; rw [updN_same, if_pos (by omega)]
  · rw [updN_other _ _ _ e]
    by_cases q : t < k
    · rw [if_pos q, if_pos (by omega)]
    · rw [if_neg q, if_neg (by omega)]
theorem midP_skip (p : Nat → Int) (v k : Nat) (h : partSt p (v + 1) k = partSt p v k) : midP p v k = midP p v (k + 1) := by
  funext t
  unfold midP
  by_cases q : t < k
  · rw [if_pos q, if_pos (by omega)]
  · rw [if_neg q]
    by_cases e : t = k
    · subst e; rw [if_pos (by omega), h]
    · rw [if_neg (by omega)]

set_option maxHeartbeats 4000000 in
theorem ref12_parts (na : Option Addr) (nc : Nat) (G : List (List Int)) (p : Nat → Int) (w : World) (h : ListsAt w (.slice na G.length nc) G) (hsz : ∀ k, k < G.length → (G.getD k []).length ≤ 17592186044416)
    (hp : checkG G = none → ∀ x y, x < G.length → y < G.length → (p x = p y ↔ Goes (adjOf G) x y ∧ Goes (adjOf G) y x)) :
    Calls Tryd.prog 23 #[.slice na G.length nc] w (Ret2 (RefPost w (checkG G) (fun x w' => OwnI w.heap.size w' x ((List.range G.length).map (numO p)))) w) := by
  have b0 := belowAlloc w (.cells #[.int .i64 0, .slice none 0 0, .slice none 0 0] 45)
  have bx : Box3 (w.alloc (.cells #[.int .i64 0, .slice none 0 0, .slice none 0 0] 45)) w.heap.size (.int .i64 0) (.slice none 0 0) (.slice none 0 0) := by
    have q := cells3 (Below.refl (w.alloc (.cells #[.int .i64 0, .slice none 0 0, .slice none 0 0] 45)).heap.size (w.alloc (.cells #[.int .i64 0, .slice none 0 0, .slice none 0 0] 45)))
    exact ⟨⟨q.1, q.2.1, q.2.2.1⟩, q.2.2.2⟩
  have hsW : (w.alloc (.cells #[.int .i64 0, .slice none 0 0, .slice none 0 0] 45)).heap.size = w.heap.size + 1 := by simp
  have hC := ref12_check na nc G _ (h.below b0) hsz
  replace hC := Lib.hid hC
  replace bx := Lib.hid bx
  replace hsW := Lib.hid hsW
  replace h := Lib.hid h
  replace hsz := Lib.hid hsz
  go_enter Tryd.func23, Tryd.ntmps23
  go_wp2_with fail
  refine hC.out.mono ?_
  rintro e w1 ⟨x, rfl, b1, he⟩
  clear hC
  obtain ⟨q, a1, n1, c1, a2, n2, c2, rfl⟩ := he.shape
  obtain ⟨bb, bx2, hs2⟩ := err_box w1 (.int .i64 q) (.slice a1 n1 c1) (.slice a2 n2 c2)
  replace he := Lib.hid he
  go_upto_region 2 with fail
  obtain ⟨W2, hW2⟩ : ∃ W2 : World, W2 = w1.alloc (.cells #[.int .i64 q, .slice a1 n1 c1, .slice a2 n2 c2] 45) := ⟨_, rfl⟩
  rw [← hW2] at bb bx2 hs2 ⊢
  clear hW2
  obtain ⟨⟨y0, y1, y2⟩, _⟩ := bx2
  obtain ⟨eb, heb⟩ : ∃ eb, eb = w1.heap.size := ⟨_, rfl⟩
  rw [← heb] at y0 y1 y2 ⊢
  clear heb
  go_wp2_with fail
  refine (err_bad q a1 n1 c1 a2 n2 c2 W2).mono ?_
  rintro e w3 ⟨x, rfl, b3, rfl⟩
  have bW3 := Below.step bb b3
  have z0 := cell_keep b3 y0
  have z1 := cell_keep b3 y1
  have z2 := cell_keep b3 y2
  clear y0 y1 y2
  have bx3 := (bx.out.below b1).below bW3
  have b03 := Below.step b0 (Below.step b1 bW3)
  have he3 := he.out.below bW3
  have hsz3 : w.heap.size < w3.heap.size := by have := hsW.out; have := b1.size; have := bW3.size; omega
  cases hck : checkG G with
  | some t =>
    obtain ⟨n, l⟩ := t
    rw [hck] at he3
    have hn := checkG_num hck
    obtain rfl : q = n := by
      obtain ⟨_, _, _, _, _, _, e, _⟩ := he3
      simp at e; exact e.1
    rw [hn]
    obtain ⟨⟨r0, r1, r2⟩, f0, f1, f2⟩ := bx3
    replace he3 := Lib.hid he3
    replace hck := Lib.hid hck
    replace he := Lib.hid he
    have hE : checkG G = some (q, l) := hck.out
    replace hE := Lib.hid hE
    go_upto_region 3 with fail
    refine wp_region_plan (fun w' => w'.cell? ⟨eb, 0, none⟩ = some (.int .i64 q) ∧ w'.cell? ⟨eb, 1, none⟩ = some (.slice a1 n1 c1) ∧ w'.cell? ⟨eb, 2, none⟩ = some (.slice a2 n2 c2)) 2 [(0, true), (1, true)] (by kernel_rfl) (by kernel_rfl) ?_
    have hS : w3.drew.cell? ⟨eb, 0, none⟩ = some (.int .i64 q) ∧ w3.drew.cell? ⟨eb, 1, none⟩ = some (.slice a1 n1 c1) ∧ w3.drew.cell? ⟨eb, 2, none⟩ = some (.slice a2 n2 c2) := ⟨z0, z1, z2⟩
    refine headY (v := ?_) (some 17) rfl rfl (Or.inl ⟨by rfl, ?_⟩) hS ?_
    rotate_left
    · rintro W' ⟨s0, s1, s2⟩; go_simp; try with_reducible rfl
    simp only [Act.put, List.setIfInBounds_toArray, List.set_cons_zero, List.set_cons_succ]
    refine headY (v := ?_) (some 2) rfl rfl (Or.inl ⟨by rfl, ?_⟩) hS ?_
    rotate_left
    · rintro W' ⟨s0, s1, s2⟩; go_simp; try with_reducible rfl
    simp only [Act.put, List.setIfInBounds_toArray, List.set_cons_zero, List.set_cons_succ]
    refine head0 ?_
    simp only [List.drop_succ_cons, List.drop_zero]
    clear hS
    go_wp2
    refine NoPanic.normal ?_
    go_wp2
    refine bodyPost_ret (v := .tuple #[.slice none 0 0, .agg #[.int .i64 q, .slice a1 n1 c1, .slice a2 n2 c2]]) (by simp [results, Tryd.results23, go_sem, r0, r1, r2]) rfl ⟨_, _, rfl, below_set3 (below_drewN b03 1) (by simp) _ _ _, ?_⟩
    rw [hE.out]
    exact ⟨(he3.out.set3 (by have := hsW.out; omega) _ _ _).mono (by have := hsW.out; omega), ⟨(fun q => (by cases q)), (fun _ => rfl)⟩⟩
  | none =>
    rw [hck] at he3
    have hz : (q = 0 ∧ (a1 = none ∧ n1 = 0 ∧ c1 = 0) ∧ a2 = none ∧ n2 = 0 ∧ c2 = 0) := by
      have e : (Value.agg #[.int .i64 q, .slice a1 n1 c1, .slice a2 n2 c2]) = zErr := he3
      simpa using e
    obtain ⟨rfl, ⟨rfl, rfl, rfl⟩, rfl, rfl, rfl⟩ := hz
    rw [show ((0 : Int) != 0) = false from rfl]
    have hck2 := checkG_none hck
    replace hck2 := Lib.hid hck2
    replace hck := Lib.hid hck
    replace he := Lib.hid he
    replace bx := Lib.hid bx.out
    clear he3 z0 z1 z2
    have hp := hp hck.out
    have hok := hck2.out.2.2
    have hn := hck2.out.1
    have harr := hck2.out.2.1
    replace hp := Lib.hid hp
    replace hok := Lib.hid hok
    replace bx3 := Lib.hid bx3
    obtain ⟨ov, w4, mk, ho, b4⟩ := run_makeN G.length w3 (by omega)
    rw [← negTo_zero] at ho
    have hB3 : w.heap.size ≤ w3.heap.size := b03.size
    have R1 := (rowsE w3.heap.size w3).add (i := (1, 0)) (r' := rowI ov (tabI G.length (negTo 0))) b4 ho (fun k hk => (ho.lt k hk).1)
    have b34 := b4
    obtain ⟨oa, on, oc, rfl⟩ := ho.at.shape
    replace R1 := Lib.hid R1
    replace ho := Lib.hid ho
    go_wp2_with fail
    clear mk
    go_loopw [6] (fun kv wr => ∃ (k : Nat) (f : Names), k ≤ G.length ∧ kv = .int .i64 k ∧ Rows w3.heap.size wr f ∧ Below w3.heap.size w3 wr ∧ f (1, 0) = some (rowI (.slice oa on oc) (tabI G.length (negTo k)))) (fun kv _ => G.length - (intOf kv).toNat)
    case atStart => exact ⟨0, _, by omega, rfl, R1.out, b34, upd_same _ _ _⟩
    case round =>
      clear R1 ho
      obtain ⟨k, f, hk, rfl, hr, bw, hf⟩ := hrel
      obtain ⟨wo, rfl⟩ : ∃ wo : World, wo = wr := ⟨_, rfl⟩
      have hO := hr.ownI hf
      have lO := hO.at.len
      rw [tabI_len] at lO
      by_cases hlt : k < G.length
      · have iO := fun w' => hO.at.idx k (by rw [tabI_len]; exact hlt) w'
        have cO := hO.at.cellD k (by rw [tabI_len]; exact hlt)
        have fO := hO.frz k (by rw [tabI_len]; exact hlt)
        have kO := (hO.toV.blkB k (by rw [List.length_map, tabI_len]; exact hlt)).2
        have R2 := hr.setI hf k (by rw [tabI_len]; exact hlt) (-1)
        rw [tabI_upd, negTo_next] at R2
        generalize valAt (.slice oa on oc) k = oka at *
        replace hr := Lib.hid hr
        replace hO := Lib.hid hO
        replace hf := Lib.hid hf
        replace R2 := Lib.hid R2
        go_wp2
        go_roundw
        case measure => simp [intOf]; omega
        case rel => exact ⟨k + 1, _, by omega, by go_num, R2.out, bw.setCell kO _, upd_same _ _ _⟩
      · obtain rfl : k = G.length := by omega
        rw [negTo_all, ← partSt_zero p] at hf
        have b0o := b03.trans (bw.mono hB3)
        have hobl : ∀ b, (Value.slice oa on oc).ownBlock = some b → b < wo.heap.size := fun b hb => (hO.lt b hb).2
        replace hobl := Lib.hid hobl
        replace hr := Lib.hid hr
        replace hO := Lib.hid hO
        replace hf := Lib.hid hf
        go_wp2_with fail
        refine (ref_turned na nc G wo (h.out.below b0o) hok.out (by omega) harr).mono ?_
        rintro e w5 ⟨hv, rfl, b5, H, hT, hH⟩
        obtain ⟨ha, hc, rfl⟩ := hH.at.shape
        have hHl : H.length = G.length := hT.t.1
        have hHok := turned_ok hT.t
        have hHsz : ∀ k, k < G.length → (H.getD k []).length ≤ 17592186044416 := fun k hk => by
          have := hT.t.2.1 k (by omega); omega
        have hr5 := hr.out.below b5
        have bw5 : Below w3.heap.size w3 w5 := bw.trans (b5.mono bw.size)
        rw [hHl] at hH ⊢
        replace hHl := Lib.hid hHl
        replace hT := Lib.hid hT
        replace hH := Lib.hid hH
        replace hHok := Lib.hid hHok
        replace hHsz := Lib.hid hHsz
        replace hr5 := Lib.hid hr5
        clear lO
        go_wp2_with fail
        go_loopw [8, 9] (fun cv vv wr => ∃ (v : Nat) (f : Names), v ≤ G.length ∧ vv = .int .i64 v ∧ cv = .int .i64 ((numM p v).2 : Int) ∧ Rows w3.heap.size wr f ∧ Below w3.heap.size w3 wr ∧ f (1, 0) = some (rowI (.slice oa on oc) (tabI G.length (partSt p v))) ∧ ListsFrom wo.heap.size wr (.slice ha G.length hc) H) (fun _ vv _ => G.length - (intOf vv).toNat)
        case atStart => exact ⟨0, _, by omega, rfl, rfl, hr5.out, bw5, hf.out, hH.out⟩
        case round =>
          clear hr5 hH bw5 b5
          obtain ⟨v, f, hvk, rfl, rfl, hr, bw, hf, hH⟩ := hrel
          obtain ⟨wx, rfl⟩ : ∃ wx : World, wx = wr := ⟨_, rfl⟩
          have hO := hr.ownI hf
          have lO := hO.at.len
          rw [tabI_len] at lO
          by_cases hlt : v < G.length
          · have iV := fun w' => hO.at.idx v (by rw [tabI_len]; exact hlt) w'
            have cV := hO.at.cellD v (by rw [tabI_len]; exact hlt)
            rw [tabI_get _ _ _ hlt] at cV
            generalize valAt (.slice oa on oc) v = va at *
            obtain ⟨pv, hpv⟩ : ∃ pv, partSt p v v = pv := ⟨_, rfl⟩
            rw [hpv] at cV
            by_cases hneg : 0 ≤ pv
            · obtain ⟨hs1, hs2⟩ := partSt_old p v (by rw [hpv]; exact hneg)
              rw [← hs1] at hf
              rw [← hs2]
              replace hs1 := Lib.hid hs1
              replace hs2 := Lib.hid hs2
              replace hr := Lib.hid hr
              replace hf := Lib.hid hf
              replace hO := Lib.hid hO
              replace hH := Lib.hid hH
              replace hpv := Lib.hid hpv
              go_wp2
              go_roundw
              case measure => simp [intOf]; omega
              case rel => exact ⟨v + 1, f, by omega, by go_num, rfl, hr.out, bw, hf.out, hH.out⟩
            · obtain ⟨hn1, hn2⟩ := partSt_new p v (by rw [hpv]; omega)
              have hcb := numM_size p v
              replace hn1 := Lib.hid hn1
              replace hn2 := Lib.hid hn2
              replace hpv := Lib.hid hpv
              have hB0x := bw.size
              have ba1 := belowAlloc wx (.cells #[.int .i64 (v : Int)] 3)
              have hu1 := (OwnI.lit wx.heap.size wx (Nat.le_refl _) [(v : Int)] (by simp [maxLen]) #[.int .i64 (v : Int)] rfl 1 rfl).at
              have hgx := h.out.below (b03.trans (bw.mono hB3))
              have hfar1 := ref_far na nc G (.slice (some ⟨wx.heap.size, 0, none⟩) 1 1) v _ (hgx.below ba1) hu1 hok.out (by omega) hlt hsz.out
              replace hfar1 := Lib.hid hfar1
              replace hu1 := Lib.hid hu1
              replace hgx := Lib.hid hgx
              replace hr := Lib.hid hr
              replace hf := Lib.hid hf
              replace hO := Lib.hid hO
              replace hH := Lib.hid hH
              go_wp2_with fail
              refine hfar1.out.mono ?_
              rintro e w6 ⟨av, rfl, b6, D1, hD1, _, hA⟩
              clear hfar1
              have bx6 := Below.step ba1 b6
              have ba2 := belowAlloc w6 (.cells #[.int .i64 (v : Int)] 3)
              have hu2 := (OwnI.lit w6.heap.size w6 (Nat.le_refl _) [(v : Int)] (by simp [maxLen]) #[.int .i64 (v : Int)] rfl 1 rfl).at
              have hH6 := hH.out.below bx6
              have hH6' : ListsAt w6 (.slice ha H.length hc) H := by rw [hHl.out]; exact hH6.at
              have hfar2 := ref_far ha hc H (.slice (some ⟨w6.heap.size, 0, none⟩) 1 1) v _ (hH6'.below ba2) hu2 hHok.out (by have := hHl.out; omega) (by have := hHl.out; omega) (fun k hk => hHsz.out k (by have := hHl.out; omega))
              rw [hHl.out] at hfar2
              have Ra := hr.out.add (i := (2, 0)) (r' := rowI av (tabI G.length D1)) bx6 (hA.mono (by have := ba1.size; omega)) (fun k hk => Nat.le_trans ba1.size (hA.lt k hk).1)
              have fa1 : upd f (2, 0) (some (rowI av (tabI G.length D1))) (1, 0) = _ := (upd_ne _ _ (by simp)).trans hf.out
              have fa2 : upd f (2, 0) (some (rowI av (tabI G.length D1))) (2, 0) = _ := upd_same _ _ _
              have bw6 := bw.trans (bx6.mono hB0x)
              generalize upd f (2, 0) (some (rowI av (tabI G.length D1))) = f6 at Ra fa1 fa2
              replace hfar2 := Lib.hid hfar2
              replace hu2 := Lib.hid hu2
              replace hH6 := Lib.hid hH6
              replace hH6' := Lib.hid hH6'
              replace hA := Lib.hid hA
              replace hD1 := Lib.hid hD1
              replace Ra := Lib.hid Ra
              replace fa1 := Lib.hid fa1
              replace fa2 := Lib.hid fa2
              clear iV cV lO
              go_wp2_with fail
              refine hfar2.out.mono ?_
              rintro e w7 ⟨bv, rfl, b7, D2, hD2, _, hBB⟩
              clear hfar2
              have bx7 := Below.step ba2 b7
              have hH7 := hH6.out.below bx7
              have Rb := Ra.out.add (i := (3, 0)) (r' := rowI bv (tabI G.length D2)) bx7 (hBB.mono (by have := ba2.size; have := bw6.size; omega)) (fun k hk => Nat.le_trans ba2.size (hBB.lt k hk).1)
              have fb1 : upd f6 (3, 0) (some (rowI bv (tabI G.length D2))) (1, 0) = _ := (upd_ne _ _ (by simp)).trans fa1.out
              have fb2 : upd f6 (3, 0) (some (rowI bv (tabI G.length D2))) (2, 0) = _ := (upd_ne _ _ (by simp)).trans fa2.out
              have fb3 : upd f6 (3, 0) (some (rowI bv (tabI G.length D2))) (3, 0) = _ := upd_same _ _ _
              have bw7 := bw6.trans (bx7.mono bw6.size)
              generalize upd f6 (3, 0) (some (rowI bv (tabI G.length D2))) = f7 at Rb fb1 fb2 fb3
              have hTo := far_to hT.out.t hok.out hlt hD2
              rw [← midP_zero p v] at fb1
              have hob2 : ∀ k, k < G.length → (valAt (.slice oa on oc) k).block < wo.heap.size := fun k hk => hobl.out _ (hO.out.toV.blkB k (by rw [List.length_map, tabI_len]; exact hk)).1
              replace hob2 := Lib.hid hob2
              replace hTo := Lib.hid hTo
              replace hD2 := Lib.hid hD2
              replace hBB := Lib.hid hBB
              replace hH7 := Lib.hid hH7
              replace Rb := Lib.hid Rb
              replace fb1 := Lib.hid fb1
              replace fb2 := Lib.hid fb2
              replace fb3 := Lib.hid fb3
              obtain ⟨cn, hcn⟩ : ∃ cn, (numM p v).2 = cn := ⟨_, rfl⟩
              rw [hcn] at hcb ⊢
              replace hcn := Lib.hid hcn
              have hwr : IntKind.i64.wrap ((cn : Int) + 1) = (cn : Int) + 1 := wrapK (by omega) (by omega)
              go_wp2_with fail
              go_loopw [12] (fun kv wr => ∃ (k : Nat) (f : Names), k ≤ G.length ∧ kv = .int .i64 k ∧ Rows w3.heap.size wr f ∧ Below w3.heap.size w3 wr ∧ f (1, 0) = some (rowI (.slice oa on oc) (tabI G.length (midP p v k))) ∧ f (2, 0) = some (rowI av (tabI G.length D1)) ∧ f (3, 0) = some (rowI bv (tabI G.length D2)) ∧ ListsFrom wo.heap.size wr (.slice ha G.length hc) H) (fun kv _ => G.length - (intOf kv).toNat)
              case atStart => exact ⟨0, f7, by omega, rfl, Rb.out, bw7, fb1.out, fb2.out, fb3.out, hH7.out⟩
              case round =>
                clear Rb bw7 fb1 fb2 fb3 hH7 hr hf hO hH hBB hA Ra fa1 fa2 hH6 hH6' bw bw6 b6 b7 bx6 bx7 ba1 ba2 hu1 hu2 hgx hB0x
                obtain ⟨k, f, hk, rfl, hr, bw, hf1, hf2, hf3, hH⟩ := hrel
                obtain ⟨wx, rfl⟩ : ∃ wx : World, wx = wr := ⟨_, rfl⟩
                by_cases hlk : k < G.length
                · have hO := hr.ownI hf1
                  have hA := hr.ownI hf2
                  have hBB := hr.ownI hf3
                  have iA := fun w' => hA.at.idx k (by rw [tabI_len]; exact hlk) w'
                  have cA := hA.at.cellD k (by rw [tabI_len]; exact hlk)
                  rw [tabI_get _ _ _ hlk] at cA
                  have iB := fun w' => hBB.at.idx k (by rw [tabI_len]; exact hlk) w'
                  have cB := hBB.at.cellD k (by rw [tabI_len]; exact hlk)
                  rw [tabI_get _ _ _ hlk] at cB
                  have iO := fun w' => hO.at.idx k (by rw [tabI_len]; exact hlk) w'
                  have cO := hO.at.cellD k (by rw [tabI_len]; exact hlk)
                  have fO := hO.frz k (by rw [tabI_len]; exact hlk)
                  have kO := (hO.toV.blkB k (by rw [List.length_map, tabI_len]; exact hlk)).2
                  have hob := hob2.out k hlk
                  have hq := hp.out v k hlt hlk
                  have hq1 := hD1.out.pos hlk
                  have hq2 := hTo.out.pos hlk
                  have hst := hn1.out k
                  rw [hcn.out] at hst
                  have R2 := hr.setI hf1 k (by rw [tabI_len]; exact hlk) (cn : Int)
                  rw [tabI_upd] at R2
                  have hH2 := hH.set hob (.int .i64 (cn : Int))
                  generalize valAt (.slice oa on oc) k = oka at *
                  generalize valAt av k = aka at *
                  generalize valAt bv k = bka at *
                  obtain ⟨d1, hd1⟩ : ∃ d1, D1 k = d1 := ⟨_, rfl⟩
                  obtain ⟨d2, hd2⟩ : ∃ d2, D2 k = d2 := ⟨_, rfl⟩
                  rw [hd1] at cA hq1
                  rw [hd2] at cB hq2
                  generalize (tabI G.length (midP p v k)).getD k 0 = oldk at cO
                  replace hr := Lib.hid hr
                  replace hO := Lib.hid hO
                  replace hA := Lib.hid hA
                  replace hBB := Lib.hid hBB
                  replace hf2 := Lib.hid hf2
                  replace hf3 := Lib.hid hf3
                  replace hH := Lib.hid hH
                  replace hH2 := Lib.hid hH2
                  replace hd1 := Lib.hid hd1
                  replace hd2 := Lib.hid hd2
                  by_cases h1 : 0 ≤ d1
                  · by_cases h2 : 0 ≤ d2
                    · rw [if_pos (hq.2 ⟨hq1.1 h1, hq2.1 h2⟩)] at hst
                      have hms := midP_set p v k
                      rw [hst] at hms
                      rw [hms] at R2
                      replace hms := Lib.hid hms
                      replace R2 := Lib.hid R2
                      replace hf1 := Lib.hid hf1
                      replace hst := Lib.hid hst
                      replace hq := Lib.hid hq
                      replace hq1 := Lib.hid hq1
                      replace hq2 := Lib.hid hq2
                      go_wp2
                      go_roundw
                      case measure => simp [intOf]; omega
                      case rel => exact ⟨k + 1, _, by omega, by go_num, R2.out, bw.setCell kO _, upd_same _ _ _, (upd_ne _ _ (by simp)).trans hf2.out, (upd_ne _ _ (by simp)).trans hf3.out, hH2.out⟩
                    · rw [if_neg (fun q => h2 (hq2.2 (hq.1 q).2))] at hst
                      rw [midP_skip p v k hst] at hf1
                      replace R2 := Lib.hid R2
                      replace hf1 := Lib.hid hf1
                      replace hst := Lib.hid hst
                      replace hq := Lib.hid hq
                      replace hq1 := Lib.hid hq1
                      replace hq2 := Lib.hid hq2
                      go_wp2
                      go_roundw
                      case measure => simp [intOf]; omega
                      case rel => exact ⟨k + 1, f, by omega, by go_num, hr.out, bw, hf1.out, hf2.out, hf3.out, hH.out⟩
                  · rw [if_neg (fun q => h1 (hq1.2 (hq.1 q).1))] at hst
                    rw [midP_skip p v k hst] at hf1
                    replace R2 := Lib.hid R2
                    replace hf1 := Lib.hid hf1
                    replace hst := Lib.hid hst
                    replace hq := Lib.hid hq
                    replace hq1 := Lib.hid hq1
                    replace hq2 := Lib.hid hq2
                    go_wp2
                    go_roundw
                    case measure => simp [intOf]; omega
                    case rel => exact ⟨k + 1, f, by omega, by go_num, hr.out, bw, hf1.out, hf2.out, hf3.out, hH.out⟩
                · obtain rfl : k = G.length := by omega
                  rw [midP_all] at hf1
                  replace hr := Lib.hid hr
                  replace hf1 := Lib.hid hf1
                  replace hf2 := Lib.hid hf2
                  replace hf3 := Lib.hid hf3
                  replace hH := Lib.hid hH
                  go_wp2
                  go_roundw
                  case measure => simp [intOf]; omega
                  case rel => exact ⟨v + 1, f, by omega, by go_num, by rw [hn2.out, hcn.out]; go_num, hr.out, bw, hf1.out, hH.out⟩
          · obtain rfl : v = G.length := by omega
            have e : tabI G.length (partSt p G.length) = (List.range G.length).map (numO p) := tabI_congr fun t ht => partSt_all p G.length t ht
            rw [e] at hO
            obtain ⟨⟨r0, r1, r2⟩, f0, f1, f2⟩ := bx3.out
            have s0 := (bw.cell (p := ⟨w.heap.size, 0, none⟩) hsz3).trans r0
            have s1 := (bw.cell (p := ⟨w.heap.size, 1, none⟩) hsz3).trans r1
            have s2 := (bw.cell (p := ⟨w.heap.size, 2, none⟩) hsz3).trans r2
            have g0 := (bw.frozen (p := ⟨w.heap.size, 0, none⟩) hsz3).trans f0
            have g1 := (bw.frozen (p := ⟨w.heap.size, 1, none⟩) hsz3).trans f1
            have g2 := (bw.frozen (p := ⟨w.heap.size, 2, none⟩) hsz3).trans f2
            clear r0 r1 r2 f0 f1 f2
            have bwe := b03.trans (bw.mono hB3)
            replace hO := Lib.hid hO
            replace hr := Lib.hid hr
            replace hf := Lib.hid hf
            replace hH := Lib.hid hH
            go_wp2
            refine bodyPost_ret (v := .tuple #[.slice oa on oc, zErr]) (by simp [results, Tryd.results23, go_sem, s0, s1, s2]) rfl ⟨_, _, rfl, below_set3 bwe (by simp) _ _ _, ?_⟩
            rw [hck.out]
            exact ⟨rfl, ⟨(fun _ => (hO.out.set3 hsz3 _ _ _).mono hB3), (fun q => absurd rfl q)⟩⟩
end Go.Proofs.YtdldadgnggaopaaDoor

namespace Go.Proofs.YtdldadgnggaopaaDoor
theorem Goes.loop {adj : Nat → List Nat} {x y : Nat} (h : Goes adj x y) (ha : x ∈ adj y) : OnLoop adj x := by
  obtain ⟨w, hw⟩ := h.way
  cases hw with
  | one => exact ⟨x, ha, .refl x⟩
  | @cons _ t _ w ht hw => exact ⟨t, ht, .step hw.goes ha⟩
end Go.Proofs.YtdldadgnggaopaaDoor

namespace Go.Proofs.YtdldadgnggaopaaDoor

theorem Peel.swap {n : Nat} {A B : Nat → List Nat} {inn out c d : Nat → Nat} {gone : Nat → Bool} {q : List Nat} {lives : Nat → Prop} (h : Peel n A B inn out c d gone q lives) : Peel n B A out inn d c gone q lives :=
  ⟨h.deg2, h.deg1, h.nodup, h.goneq, h.low, fun v hv => (h.fresh v hv).symm, h.keep⟩
theorem LiveSet.swap {n : Nat} {A B : Nat → List Nat} {lives : Nat → Prop} (h : LiveSet n A B lives) : LiveSet n B A lives := ⟨h.ahead, h.behind⟩
/-- Between two rounds. -/
structure PS (n : Nat) (A B : Nat → List Nat) (inn out c d : Nat → Nat) (gone : Nat → Bool) (q : List Nat) (lives : Nat → Prop) (i : Nat) : Prop where
  peel : Peel n A B inn out c d gone q lives
  pos : ∀ t, t < n → gone t = false → 0 < inn t ∧ 0 < out t
  done : ∀ j x, j < i → q[j]? = some x → c x = (A x).length ∧ d x = (B x).length
  rest : ∀ j x, i ≤ j → q[j]? = some x → c x = 0 ∧ d x = 0
/-- Within a round. -/
structure Mid (n : Nat) (A B : Nat → List Nat) (inn out c d : Nat → Nat) (gone : Nat → Bool) (q : List Nat) (lives : Nat → Prop) (i v : Nat) : Prop where
  peel : Peel n A B inn out c d gone q lives
  pos : ∀ t, t < n → gone t = false → 0 < inn t ∧ 0 < out t
  cur : q[i]? = some v
  done : ∀ j x, j < i → q[j]? = some x → c x = (A x).length ∧ d x = (B x).length
  rest : ∀ j x, i < j → q[j]? = some x → c x = 0 ∧ d x = 0
section
variable {n : Nat} {A B : Nat → List Nat} {inn out c d : Nat → Nat} {gone : Nat → Bool} {q : List Nat} {lives : Nat → Prop} {i v : Nat}
theorem Mid.swap (h : Mid n A B inn out c d gone q lives i v) : Mid n B A out inn d c gone q lives i v :=
  ⟨h.peel.swap, fun t ht hg => (h.pos t ht hg).symm, h.cur, fun j x hj hx => (h.done j x hj hx).symm, fun j x hj hx => (h.rest j x hj hx).symm⟩
theorem PS.enter (h : PS n A B inn out c d gone q lives i) (hv : q[i]? = some v) : Mid n A B inn out c d gone q lives i v ∧ c v = 0 ∧ d v = 0 ∧ v < n :=
  ⟨⟨h.peel, h.pos, hv, h.done, fun j x hj hx => h.rest j x (by omega) hx⟩, (h.rest i v (Nat.le_refl _) hv).1, (h.rest i v (Nat.le_refl _) hv).2, h.peel.low v (List.mem_of_getElem? hv)⟩
theorem Mid.leave (h : Mid n A B inn out c d gone q lives i v) (hc : c v = (A v).length) (hd : d v = (B v).length) : PS n A B inn out c d gone q lives (i + 1) := by
  refine ⟨h.peel, h.pos, fun j x hj hx => ?_, fun j x hj hx => h.rest j x (by omega) hx⟩
  by_cases e : j = i
  · subst e
    rw [h.cur] at hx; cases hx
    exact ⟨hc, hd⟩
  · exact h.done j x (by omega) hx
/-- An arrow of v is gone through. -/
theorem Mid.step (h : Mid n A B inn out c d gone q lives i v) (hL : LiveSet n A B lives) {k t : Nat} (hk : c v = k) (ht : (A v)[k]? = some t) (htn : t < n) :
    0 < inn t ∧ (inn t = 1 → gone t = false → Mid n A B (updN inn t (inn t - 1)) out (updN c v (k + 1)) d (updN gone t true) (q ++ [t]) lives i v) ∧
    ((inn t = 1 → gone t = true) → Mid n A B (updN inn t (inn t - 1)) out (updN c v (k + 1)) d gone q lives i v) := by
  have hvq := List.mem_of_getElem? h.cur
  obtain ⟨h0, hp⟩ := h.peel.arrow1 hvq hk ht htn
  have hne : ∀ j x, j ≠ i → q[j]? = some x → x ≠ v := fun j x hj hx e => hj (get_inj h.peel.nodup (by rw [hx, e]) h.cur)
  have hdone : ∀ j x, j < i → q[j]? = some x → updN c v (k + 1) x = (A x).length ∧ d x = (B x).length := fun j x hj hx => by
    rw [updN_other _ _ _ (hne j x (by omega) hx)]; exact h.done j x hj hx
  have hrest : ∀ j x, i < j → q[j]? = some x → updN c v (k + 1) x = 0 ∧ d x = 0 := fun j x hj hx => by
    rw [updN_other _ _ _ (hne j x (by omega) hx)]; exact h.rest j x hj hx
  refine ⟨h0, fun h1 hg => ?_, fun h1 => ?_⟩
  · have htq : t ∉ q := fun hm => by have := (h.peel.goneq t).2 hm; rw [hg] at this; cases this
    have htv : t ≠ v := fun e => htq (by rw [e]; exact hvq)
    have hil := get_of h.cur
    have hga : ∀ j x, (q ++ [t])[j]? = some x → q[j]? = some x ∨ j = q.length ∧ x = t := fun j x hx => by
      by_cases e : j < q.length
      · rw [List.getElem?_append_left e] at hx; exact .inl hx
      · rw [List.getElem?_append_right (by omega)] at hx
        by_cases e2 : j = q.length
        · rw [e2] at hx; simp at hx; exact .inr ⟨e2, hx.symm⟩
        · rw [List.getElem?_eq_none (by simp; omega)] at hx; cases hx
    refine ⟨hp.goes hL htn hg (.inl (by rw [updN_same]; omega)), fun x hx hgx => ?_, by rw [List.getElem?_append_left hil]; exact h.cur, fun j x hj hx => ?_, fun j x hj hx => ?_⟩
    · by_cases e : x = t
      · subst e; rw [updN_same] at hgx; cases hgx
      · rw [updN_other _ _ _ e] at hgx ⊢; exact h.pos x hx hgx
    · rcases hga j x hx with hx | ⟨hj2, _⟩
      · exact hdone j x hj hx
      · omega
    · rcases hga j x hx with hx | ⟨_, rfl⟩
      · exact hrest j x hj hx
      · rw [updN_other _ _ _ htv]; exact h.peel.fresh x htq
  · refine ⟨hp, fun x hx hgx => ?_, h.cur, hdone, hrest⟩
    by_cases e : x = t
    · subst e
      rw [updN_same]
      have := (h.pos x hx hgx).2
      have : inn x ≠ 1 := fun e => by have := h1 e; rw [hgx] at this; cases this
      omega
    · rw [updN_other _ _ _ e]; exact h.pos x hx hgx
end
/-- The beginning: the first k have been looked at. -/
structure PStart (n : Nat) (A B : Nat → List Nat) (gone : Nat → Bool) (q : List Nat) (lives : Nat → Prop) (k : Nat) : Prop where
  peel : Peel n A B (fun t => (B t).length) (fun t => (A t).length) (fun _ => 0) (fun _ => 0) gone q lives
  pos : ∀ t, t < k → gone t = false → 0 < (B t).length ∧ 0 < (A t).length
  below : ∀ x ∈ q, x < k
section
variable {n : Nat} {A B : Nat → List Nat} {gone : Nat → Bool} {q : List Nat} {lives : Nat → Prop} {k : Nat}
theorem PStart.zero (hA : ∀ t, t < n → ∀ x ∈ A t, x < n) (hB : ∀ t, t < n → ∀ x ∈ B t, x < n) (hc : ∀ t v, t < n → v < n → (B t).count v = (A v).count t) : PStart n A B (fun _ => false) [] lives 0 :=
  ⟨⟨Deg.init hB (fun v t hv ht => hc t v ht hv), Deg.init hA (fun v t hv ht => (hc v t hv ht).symm), by simp, fun x => by simp, fun x hx => by simp at hx, fun _ _ => ⟨rfl, rfl⟩, fun _ _ _ => rfl⟩, fun t ht => by omega, fun x hx => by simp at hx⟩
theorem PStart.take (h : PStart n A B gone q lives k) (hL : LiveSet n A B lives) (hk : k < n) (h0 : (A k).length = 0 ∨ (B k).length = 0) : PStart n A B (updN gone k true) (q ++ [k]) lives (k + 1) := by
  have hg : gone k = false := by
    cases hgk : gone k with
    | false => rfl
    | true => have := h.below k ((h.peel.goneq k).1 hgk); omega
  refine ⟨h.peel.goes hL hk hg h0.symm, fun t ht hgt => ?_, fun x hx => ?_⟩
  · by_cases e : t = k
    · subst e; rw [updN_same] at hgt; cases hgt
    · rw [updN_other _ _ _ e] at hgt; exact h.pos t (by omega) hgt
  · rcases List.mem_append.1 hx with hx | hx
    · have := h.below x hx; omega
    · cases List.mem_singleton.1 hx; omega
theorem PStart.skip (h : PStart n A B gone q lives k) (hA : (A k).length ≠ 0) (hB : (B k).length ≠ 0) : PStart n A B gone q lives (k + 1) := by
  refine ⟨h.peel, fun t ht hgt => ?_, fun x hx => by have := h.below x hx; omega⟩
  by_cases e : t = k
  · subst e; omega
  · exact h.pos t (by omega) hgt
theorem PStart.all (h : PStart n A B gone q lives n) : PS n A B (fun t => (B t).length) (fun t => (A t).length) (fun _ => 0) (fun _ => 0) gone q lives 0 :=
  ⟨h.peel, h.pos, fun j x hj => by omega, fun _ _ _ _ => ⟨rfl, rfl⟩⟩
end
/-- Live vertices have live neighbours. -/
theorem live_set {G H : List (List Int)} (hT : TurnedOf G H) (hok : GraphOk G) : LiveSet G.length (adjOf G) (adjOf H) (IsLive G.length (adjOf G)) := by
  refine ⟨fun t ht hl => ?_, fun t ht hl => ?_⟩
  · obtain ⟨⟨u, hu, hlu, hgu⟩, w, hw, hlw, hgw⟩ := hl
    cases hgu with
    | refl =>
      obtain ⟨s, hs, hgs⟩ := hlu
      cases hgs with
      | refl => exact ⟨t, ht, ⟨⟨t, hu, ⟨t, hs, .refl t⟩, .refl t⟩, w, hw, hlw, hgw⟩, hs⟩
      | @step p _ hgp htp =>
        have hsn := hok.lt t ht s hs
        have hpn := goes_lt hok hgp hsn
        have hL : OnLoop (adjOf G) t := ⟨s, hs, .step hgp htp⟩
        exact ⟨p, hpn, ⟨⟨t, ht, hL, .trans (.one hs) hgp⟩, t, ht, hL, .one htp⟩, htp⟩
    | @step p _ hgp htp =>
      have hpn := goes_lt hok hgp hu
      exact ⟨p, hpn, ⟨⟨u, hu, hlu, hgp⟩, w, hw, hlw, .trans (.one htp) hgw⟩, htp⟩
  · obtain ⟨⟨u, hu, hlu, hgu⟩, w, hw, hlw, hgw⟩ := hl
    have key : ∀ s, s ∈ adjOf G t → (∃ w, w < G.length ∧ OnLoop (adjOf G) w ∧ Goes (adjOf G) s w) → ∃ p, p < G.length ∧ IsLive G.length (adjOf G) p ∧ t ∈ adjOf H p := fun s hs hw => by
      have hsn := hok.lt t ht s hs
      exact ⟨s, hsn, ⟨⟨u, hu, hlu, .step hgu hs⟩, hw⟩, (turned_adj hT hok hsn).2 ⟨ht, hs⟩⟩
    obtain ⟨wy, hwy⟩ := hgw.way
    cases hwy with
    | one =>
      obtain ⟨s, hs, hgs⟩ := hlw
      exact key s hs ⟨t, hw, ⟨s, hs, hgs⟩, hgs⟩
    | @cons _ s _ _ hs hwy => exact key s hs ⟨w, hw, hlw, hwy.goes⟩
/-- What is left at the end are the live vertices. -/
theorem PS.end_ {G H : List (List Int)} (hT : TurnedOf G H) (hok : GraphOk G) {inn out c d : Nat → Nat} {gone : Nat → Bool} {q : List Nat} (h : PS G.length (adjOf G) (adjOf H) inn out c d gone q (IsLive G.length (adjOf G)) q.length) :
    LiveList G.length (adjOf G) ((List.range G.length).filter fun t => !gone t) := by
  have hall : ∀ v ∈ q, c v = (adjOf G v).length ∧ d v = (adjOf H v).length := fun v hv => by
    obtain ⟨j, hj⟩ := List.mem_iff_getElem?.1 hv
    exact h.done j v (get_of hj) hj
  refine ⟨List.Pairwise.filter _ List.pairwise_lt_range, fun v => ?_⟩
  rw [List.mem_filter, List.mem_range]
  constructor
  · rintro ⟨hv, hg⟩
    have hg : gone v = false := by simpa using hg
    refine ⟨hv, ?_, ?_⟩
    · obtain ⟨u, hu, ⟨t, ht, hgt⟩, hgo⟩ := set_loop (n := G.length) (A := adjOf H) (S := fun x => x < G.length ∧ gone x = false) (fun x hx => hx.1) (fun x hx => by
        obtain ⟨⟨p, hp, hgp, hm⟩, _⟩ := h.peel.left hall h.pos hx.1 hx.2
        exact ⟨p, (turned_adj hT hok hx.1).2 ⟨hp, hm⟩, hp, hgp⟩) ⟨hv, hg⟩
      obtain ⟨htn, hut⟩ := (turned_adj hT hok hu).1 ht
      exact ⟨u, hu, (turned_goes hT hok hgt htn).loop hut, turned_goes hT hok hgo hv⟩
    · obtain ⟨u, hu, hlu, hgo⟩ := set_loop (n := G.length) (A := adjOf G) (S := fun x => x < G.length ∧ gone x = false) (fun x hx => hx.1) (fun x hx => by
        obtain ⟨_, ⟨p, hp, hgp, hm⟩⟩ := h.peel.left hall h.pos hx.1 hx.2
        exact ⟨p, ((turned_adj hT hok hp).1 hm).2, hp, hgp⟩) ⟨hv, hg⟩
      exact ⟨u, hu, hlu, hgo⟩
  · rintro ⟨hv, hl⟩
    exact ⟨hv, by rw [h.peel.keep v hv hl]; rfl⟩
end Go.Proofs.YtdldadgnggaopaaDoor

namespace Go.Proofs.YtdldadgnggaopaaDoor
open Go.RowKit
set_option maxRecDepth 100000

/-- The memory of the peeling. -/
structure LvN (f : Names) (ov iv gv qv : Value) (n : Nat) (out inn : Nat → Nat) (gone : Nat → Bool) (q : List Nat) : Prop where
  outs : f (1, 0) = some (rowI ov (tab n out))
  inns : f (2, 0) = some (rowI iv (tab n inn))
  gones : f (3, 0) = some (rowV 4 gv (tabB n gone))
  queue : f (4, 0) = some (rowI qv (castI q))
section
variable {B : Nat} {w : World} {f : Names} {ov iv gv qv : Value} {n : Nat} {out inn : Nat → Nat} {gone : Nat → Bool} {q : List Nat}
theorem LvN.setOut (h : LvN f ov iv gv qv n out inn gone q) (hr : Rows B w f) (t : Nat) (ht : t < n) (a : Nat) : ∃ f', Rows B (w.setCell (valAt ov t) (.int .i64 (a : Int))) f' ∧ LvN f' ov iv gv qv n (updN out t a) inn gone q := by
  have hs := hr.setI h.outs t (by rw [tab_len]; exact ht) (a : Int)
  rw [tab_upd] at hs
  exact ⟨_, hs, ⟨upd_same _ _ _, by rw [upd_ne _ _ (by simp)]; exact h.inns, by rw [upd_ne _ _ (by simp)]; exact h.gones, by rw [upd_ne _ _ (by simp)]; exact h.queue⟩⟩
theorem LvN.setInn (h : LvN f ov iv gv qv n out inn gone q) (hr : Rows B w f) (t : Nat) (ht : t < n) (a : Nat) : ∃ f', Rows B (w.setCell (valAt iv t) (.int .i64 (a : Int))) f' ∧ LvN f' ov iv gv qv n out (updN inn t a) gone q := by
  have hs := hr.setI h.inns t (by rw [tab_len]; exact ht) (a : Int)
  rw [tab_upd] at hs
  exact ⟨_, hs, ⟨by rw [upd_ne _ _ (by simp)]; exact h.outs, upd_same _ _ _, by rw [upd_ne _ _ (by simp)]; exact h.gones, by rw [upd_ne _ _ (by simp)]; exact h.queue⟩⟩
theorem LvN.mark (h : LvN f ov iv gv qv n out inn gone q) (hr : Rows B w f) (t : Nat) (ht : t < n) : ∃ f', Rows B (w.setCell (valAt gv t) (.bool true)) f' ∧ LvN f' ov iv gv qv n out inn (updN gone t true) q := by
  have hs := hr.setV h.gones t (by rw [tabB_len]; exact ht) (.bool true)
  rw [tabB_upd] at hs
  exact ⟨_, hs, ⟨by rw [upd_ne _ _ (by simp)]; exact h.outs, by rw [upd_ne _ _ (by simp)]; exact h.inns, upd_same _ _ _, by rw [upd_ne _ _ (by simp)]; exact h.queue⟩⟩
theorem LvN.push (h : LvN f ov iv gv qv n out inn gone q) (hr : Rows B w f) {w1 : World} {qv' : Value} (t : Nat) (ho : OwnI B w1 qv' (castI q ++ [(t : Int)]))
    (hal : (roomOf qv' = roomOf qv ∧ w.grownBy w1 qv.ownBlock) ∨ (∃ k, qv'.ownBlock = some k ∧ w.heap.size ≤ k ∧ w.grownBy w1 none)) : ∃ f', Rows B w1 f' ∧ LvN f' ov iv gv qv' n out inn gone (q ++ [t]) :=
  ⟨_, row_push hr h.queue t ho hal, ⟨by rw [upd_ne _ _ (by simp)]; exact h.outs, by rw [upd_ne _ _ (by simp)]; exact h.inns, by rw [upd_ne _ _ (by simp)]; exact h.gones, upd_same _ _ _⟩⟩
/-- A number's cell. -/
theorem tab_cell (hr : Rows B w f) {i : Nat × Nat} {v : Value} {F : Nat → Nat} (hf : f i = some (rowI v (tab n F))) (t : Nat) (ht : t < n) :
    (∀ w', (Instr.indexAt 22 v (.int .i64 (t : Int))).run Tryd.prog w' = .ok (.pointer (some (valAt v t))) w') ∧ w.cell? (valAt v t) = some (.int .i64 (F t : Int)) ∧ w.frozen? (valAt v t) = false ∧ B ≤ (valAt v t).block := by
  have hO := hr.ownI hf
  refine ⟨fun w' => hO.at.idx t (by rw [tab_len]; exact ht) w', ?_, hO.frz t (by rw [tab_len]; exact ht), (hO.toV.blkB t (by rw [List.length_map, tab_len]; exact ht)).2⟩
  rw [hO.at.cellD t (by rw [tab_len]; exact ht), tab_get _ _ _ ht]
/-- A mark's cell. -/
theorem mark_cell (hr : Rows B w f) {i : Nat × Nat} {v : Value} {F : Nat → Bool} (hf : f i = some (rowV 4 v (tabB n F))) (t : Nat) (ht : t < n) :
    (∀ w', (Instr.indexAt 38 v (.int .i64 (t : Int))).run Tryd.prog w' = .ok (.pointer (some (valAt v t))) w') ∧ w.cell? (valAt v t) = some (.bool (F t)) ∧ w.frozen? (valAt v t) = false ∧ B ≤ (valAt v t).block := by
  have hO := hr.ownV hf
  refine ⟨fun w' => hO.at.idx oneBoolG t (by rw [tabB_len]; exact ht) w', ?_, hO.frz t (by rw [tabB_len]; exact ht), (hO.blkB t (by rw [tabB_len]; exact ht)).2⟩
  rw [hO.at.cellV t (by rw [tabB_len]; exact ht), tabB_get _ _ _ ht]
end
/-- The first k are F's. -/
def fillTo (F : Nat → Nat) (k t : Nat) : Nat := if t < k then F t else 0
theorem fillTo_next (F : Nat → Nat) (k : Nat) : updN (fillTo F k) k (F k) = fillTo F (k + 1) := by
  funext t
  unfold fillTo
  by_cases e : t = k
  · subst e; rw [updN_same, if_pos (by omega)]
  · rw [updN_other _ _ _ e]
    by_cases q : t < k
    · rw [if_pos q, if_pos (by omega)]
    · rw [if_neg q, if_neg (by omega)]
theorem tab_congr {n : Nat} {f g : Nat → Nat} (h : ∀ t, t < n → f t = g t) : tab n f = tab n g := by
  unfold tab
  exact List.map_congr_left fun t ht => by rw [h t (List.mem_range.1 ht)]
theorem fillTo_all (F : Nat → Nat) (n : Nat) : tab n (fillTo F n) = tab n F := tab_congr fun t ht => by unfold fillTo; rw [if_pos ht]
theorem fillTo_zero (F : Nat → Nat) (n : Nat) : tab n (fillTo F 0) = List.replicate n 0 := by
  unfold tab
  apply List.ext_getElem
  · simp
  · intro i h1 h2; simp [fillTo]
theorem tabB_none (n : Nat) : tabB n (fun _ => false) = List.replicate n (.bool false) := by
  unfold tabB; apply List.ext_getElem <;> simp
theorem filter_next (p : Nat → Bool) (k : Nat) : (List.range (k + 1)).filter p = (List.range k).filter p ++ if p k = true then [k] else [] := by
  rw [List.range_succ, List.filter_append]
  by_cases h : p k = true
  · rw [if_pos h, List.filter_cons_of_pos h]; rfl
  · rw [if_neg h, List.filter_cons_of_neg h]; rfl
theorem castI_snoc' (l : List Nat) (k : Nat) : castI l ++ [(k : Int)] = castI (l ++ [k]) := (castI_snoc l k).symm
/-- Box3 below another block. -/
theorem Box3.keep {B : Nat} {w w' : World} {b : Nat} {x0 x1 x2 : Value} (h : Box3 w b x0 x1 x2) (hb : Below B w w') (hlt : b < B) : Box3 w' b x0 x1 x2 := h.belowB hb hlt

set_option maxHeartbeats 8000000 in
theorem ref12_live (na : Option Addr) (nc : Nat) (G : List (List Int)) (w : World) (h : ListsAt w (.slice na G.length nc) G) (hsz : ∀ k, k < G.length → (G.getD k []).length ≤ 17592186044416) :
    Calls Tryd.prog 24 #[.slice na G.length nc] w (Ret2 (RefPost w (checkG G) (fun x w' => ∃ L, LiveList G.length (adjOf G) L ∧ OwnI w.heap.size w' x (castI L))) w) := by
  have b0 := belowAlloc w (.cells #[.int .i64 0, .slice none 0 0, .slice none 0 0] 45)
  have bx : Box3 (w.alloc (.cells #[.int .i64 0, .slice none 0 0, .slice none 0 0] 45)) w.heap.size (.int .i64 0) (.slice none 0 0) (.slice none 0 0) := by
    have q := cells3 (Below.refl (w.alloc (.cells #[.int .i64 0, .slice none 0 0, .slice none 0 0] 45)).heap.size (w.alloc (.cells #[.int .i64 0, .slice none 0 0, .slice none 0 0] 45)))
    exact ⟨⟨q.1, q.2.1, q.2.2.1⟩, q.2.2.2⟩
  have hsW : (w.alloc (.cells #[.int .i64 0, .slice none 0 0, .slice none 0 0] 45)).heap.size = w.heap.size + 1 := by simp
  have hC := ref12_check na nc G _ (h.below b0) hsz
  replace hC := Lib.hid hC
  replace bx := Lib.hid bx
  replace hsW := Lib.hid hsW
  replace h := Lib.hid h
  replace hsz := Lib.hid hsz
  go_enter Tryd.func24, Tryd.ntmps24
  go_wp2_with fail
  refine hC.out.mono ?_
  rintro e w1 ⟨x, rfl, b1, he⟩
  clear hC
  obtain ⟨q, a1, n1, c1, a2, n2, c2, rfl⟩ := he.shape
  obtain ⟨bb, bx2, hs2⟩ := err_box w1 (.int .i64 q) (.slice a1 n1 c1) (.slice a2 n2 c2)
  replace he := Lib.hid he
  go_upto_region 2 with fail
  obtain ⟨W2, hW2⟩ : ∃ W2 : World, W2 = w1.alloc (.cells #[.int .i64 q, .slice a1 n1 c1, .slice a2 n2 c2] 45) := ⟨_, rfl⟩
  rw [← hW2] at bb bx2 hs2 ⊢
  clear hW2
  obtain ⟨⟨y0, y1, y2⟩, _⟩ := bx2
  obtain ⟨eb, heb⟩ : ∃ eb, eb = w1.heap.size := ⟨_, rfl⟩
  rw [← heb] at y0 y1 y2 ⊢
  clear heb
  go_wp2_with fail
  refine (err_bad q a1 n1 c1 a2 n2 c2 W2).mono ?_
  rintro e w3 ⟨x, rfl, b3, rfl⟩
  have bW3 := Below.step bb b3
  have z0 := cell_keep b3 y0
  have z1 := cell_keep b3 y1
  have z2 := cell_keep b3 y2
  clear y0 y1 y2
  have bx3 := (bx.out.below b1).below bW3
  have b03 := Below.step b0 (Below.step b1 bW3)
  have he3 := he.out.below bW3
  have hsz3 : w.heap.size < w3.heap.size := by have := hsW.out; have := b1.size; have := bW3.size; omega
  cases hck : checkG G with
  | some t =>
    obtain ⟨n, l⟩ := t
    rw [hck] at he3
    have hn := checkG_num hck
    obtain rfl : q = n := by
      obtain ⟨_, _, _, _, _, _, e, _⟩ := he3
      simp at e; exact e.1
    rw [hn]
    obtain ⟨⟨r0, r1, r2⟩, f0, f1, f2⟩ := bx3
    replace he3 := Lib.hid he3
    replace hck := Lib.hid hck
    replace he := Lib.hid he
    have hE : checkG G = some (q, l) := hck.out
    replace hE := Lib.hid hE
    go_upto_region 3 with fail
    refine wp_region_plan (fun w' => w'.cell? ⟨eb, 0, none⟩ = some (.int .i64 q) ∧ w'.cell? ⟨eb, 1, none⟩ = some (.slice a1 n1 c1) ∧ w'.cell? ⟨eb, 2, none⟩ = some (.slice a2 n2 c2)) 2 [(0, true), (1, true)] (by kernel_rfl) (by kernel_rfl) ?_
    have hS : w3.drew.cell? ⟨eb, 0, none⟩ = some (.int .i64 q) ∧ w3.drew.cell? ⟨eb, 1, none⟩ = some (.slice a1 n1 c1) ∧ w3.drew.cell? ⟨eb, 2, none⟩ = some (.slice a2 n2 c2) := ⟨z0, z1, z2⟩
    refine headY (v := ?_) (some 23) rfl rfl (Or.inl ⟨by rfl, ?_⟩) hS ?_
    rotate_left
    · rintro W' ⟨s0, s1, s2⟩; go_simp; try with_reducible rfl
    simp only [Act.put, List.setIfInBounds_toArray, List.set_cons_zero, List.set_cons_succ]
    refine headY (v := ?_) (some 2) rfl rfl (Or.inl ⟨by rfl, ?_⟩) hS ?_
    rotate_left
    · rintro W' ⟨s0, s1, s2⟩; go_simp; try with_reducible rfl
    simp only [Act.put, List.setIfInBounds_toArray, List.set_cons_zero, List.set_cons_succ]
    refine head0 ?_
    simp only [List.drop_succ_cons, List.drop_zero]
    clear hS
    go_wp2
    refine NoPanic.normal ?_
    go_wp2
    refine bodyPost_ret (v := .tuple #[.slice none 0 0, .agg #[.int .i64 q, .slice a1 n1 c1, .slice a2 n2 c2]]) (by simp [results, Tryd.results24, go_sem, r0, r1, r2]) rfl ⟨_, _, rfl, below_set3 (below_drewN b03 1) (by simp) _ _ _, ?_⟩
    rw [hE.out]
    exact ⟨(he3.out.set3 (by have := hsW.out; omega) _ _ _).mono (by have := hsW.out; omega), ⟨(fun q => (by cases q)), (fun _ => rfl)⟩⟩
  | none =>
    rw [hck] at he3
    have hz : (q = 0 ∧ (a1 = none ∧ n1 = 0 ∧ c1 = 0) ∧ a2 = none ∧ n2 = 0 ∧ c2 = 0) := by
      have e : (Value.agg #[.int .i64 q, .slice a1 n1 c1, .slice a2 n2 c2]) = zErr := he3
      simpa using e
    obtain ⟨rfl, ⟨rfl, rfl, rfl⟩, rfl, rfl, rfl⟩ := hz
    rw [show ((0 : Int) != 0) = false from rfl]
    have hck2 := checkG_none hck
    replace hck2 := Lib.hid hck2
    replace hck := Lib.hid hck
    replace he := Lib.hid he
    replace bx := Lib.hid bx.out
    clear he3 z0 z1 z2
    have hok := hck2.out.2.2
    have hn := hck2.out.1
    have harr := hck2.out.2.1
    have hlen : ∀ k, k < G.length → (G.getD k []).length ≤ 262144 := fun k hk => by
      have := arrowsTo_mono G (show k + 1 ≤ G.length by omega)
      simp only [arrowsTo] at this; omega
    replace hok := Lib.hid hok
    replace hlen := Lib.hid hlen
    replace bx3 := Lib.hid bx3
    have hB3 : w.heap.size ≤ w3.heap.size := b03.size
    go_wp2_with fail
    refine (ref_turned na nc G w3 (h.out.below b03) hok.out (by omega) harr).mono ?_
    rintro e w4 ⟨hv, rfl, b4, H, hT, hH⟩
    obtain ⟨ha, hc, rfl⟩ := hH.at.shape
    have hHl : H.length = G.length := hT.t.1
    have hHok := turned_ok hT.t
    have hHlen : ∀ k, k < G.length → (H.getD k []).length ≤ 262144 := fun k hk => by
      have := hT.t.2.1 k hk; omega
    have hHat := hH.at
    have hBx := bx3.out.below b4
    have b04 := Below.step b03 b4
    have hG4 := h.out.below b04
    have hs4 : w.heap.size < w4.heap.size := by have := b4.size; omega
    rw [hHl] at hHat hH ⊢
    obtain ⟨ov, w5, mk1, ho1, b5⟩ := run_makeN G.length w4 (by omega)
    obtain ⟨iv, w6, mk2, ho2, b6⟩ := run_makeN G.length w5 (by omega)
    obtain ⟨gv, w7, mk3, ho3, b7⟩ := run_makeW oneBoolG (G.length : Int) G.length w6 rfl (by omega)
    have hAl := fun t => show (adjOf G t).length = (G.getD t []).length from adjOf_len G t
    have hBl := fun t => show (adjOf H t).length = (H.getD t []).length from adjOf_len H t
    rw [← fillTo_zero (fun t => (adjOf G t).length)] at ho1
    rw [← fillTo_zero (fun t => (adjOf H t).length)] at ho2
    rw [← tabB_none] at ho3
    have R1 := (rowsE w4.heap.size w4).add (i := (1, 0)) (r' := rowI ov (tab G.length (fillTo (fun t => (adjOf G t).length) 0))) b5 ho1 (fun k hk => (ho1.lt k hk).1)
    have R2 := R1.add (i := (2, 0)) (r' := rowI iv (tab G.length (fillTo (fun t => (adjOf H t).length) 0))) b6 (ho2.mono b5.size) (fun k hk => (ho2.lt k hk).1)
    have R3 := R2.add (i := (3, 0)) (r' := rowV 4 gv (tabB G.length (fun _ => false))) b7 (ho3.mono (Nat.le_trans b5.size b6.size)) (fun k hk => (ho3.lt k hk).1)
    have R4 := R3.add (i := (4, 0)) (r' := rowI (.slice none 0 0) []) (Below.refl _ _) (OwnI.nil _ _) (fun k hk => by cases hk)
    have b47 : Below w4.heap.size w4 w7 := Below.step (Below.step b5 b6) b7
    have hN4 : LvN (upd (upd (upd (upd (fun _ => none) (1, 0) (some (rowI ov (tab G.length (fillTo (fun t => (adjOf G t).length) 0))))) (2, 0) (some (rowI iv (tab G.length (fillTo (fun t => (adjOf H t).length) 0))))) (3, 0) (some (rowV 4 gv (tabB G.length (fun _ => false))))) (4, 0) (some (rowI (.slice none 0 0) []))) ov iv gv (.slice none 0 0) G.length (fillTo (fun t => (adjOf G t).length) 0) (fillTo (fun t => (adjOf H t).length) 0) (fun _ => false) [] :=
      ⟨by rw [upd_ne _ _ (by simp), upd_ne _ _ (by simp), upd_ne _ _ (by simp), upd_same], by rw [upd_ne _ _ (by simp), upd_ne _ _ (by simp), upd_same], by rw [upd_ne _ _ (by simp), upd_same], by rw [upd_same]; rfl⟩
    generalize upd (upd (upd (upd (fun _ => none) (1, 0) (some (rowI ov (tab G.length (fillTo (fun t => (adjOf G t).length) 0))))) (2, 0) (some (rowI iv (tab G.length (fillTo (fun t => (adjOf H t).length) 0))))) (3, 0) (some (rowV 4 gv (tabB G.length (fun _ => false))))) (4, 0) (some (rowI (.slice none 0 0) [])) = f4 at R4 hN4
    have hst : PStart G.length (adjOf G) (adjOf H) (fun _ => false) [] (IsLive G.length (adjOf G)) 0 := PStart.zero (fun t ht x hx => hok.out.lt t ht x hx) (fun t ht x hx => ((turned_adj hT.t hok.out ht).1 hx).1) (fun t v ht hv => hT.cnt t v ht hv)
    have hgpH : ∀ t, t < G.length → ∀ y ∈ H.getD t [], 0 ≤ y ∧ y < G.length := fun t ht y hy => by
      obtain ⟨v, rfl, hv, _⟩ := (hT.t.2.2 t ht y).1 hy
      omega
    replace hgpH := Lib.hid hgpH
    replace hst := Lib.hid hst
    replace hT := Lib.hid hT
    replace hH := Lib.hid hH
    replace hHat := Lib.hid hHat
    replace hG4 := Lib.hid hG4
    replace hHok := Lib.hid hHok
    replace hHlen := Lib.hid hHlen
    replace hHl := Lib.hid hHl
    replace hBx := Lib.hid hBx
    replace hAl := Lib.hid hAl
    replace hBl := Lib.hid hBl
    replace ho1 := Lib.hid ho1
    replace ho2 := Lib.hid ho2
    replace ho3 := Lib.hid ho3
    replace R4 := Lib.hid R4
    clear R1 R2 R3
    go_wp2_with fail
    clear mk1 mk2 mk3
    go_loopw [9, 10] (fun qv kv wr => ∃ (k : Nat) (gone : Nat → Bool) (q : List Nat) (f : Names) (qw : Value), qw = qv ∧ kv = .int .i64 k ∧ k ≤ G.length ∧ Rows w4.heap.size wr f ∧ Below w4.heap.size w4 wr ∧ LvN f ov iv gv qw G.length (fillTo (fun t => (adjOf G t).length) k) (fillTo (fun t => (adjOf H t).length) k) gone q ∧ PStart G.length (adjOf G) (adjOf H) gone q (IsLive G.length (adjOf G)) k) (fun _ kv _ => G.length - (intOf kv).toNat)
    case atStart => exact ⟨0, _, [], f4, _, rfl, rfl, by omega, R4.out, b47, hN4, hst.out⟩
    case round =>
      clear R4 b47 hN4 hst ho1 ho2 ho3 b5 b6 b7
      obtain ⟨k, gone, q, f, qv, rfl, rfl, hk, hr, bw, hN, hps⟩ := hrel
      obtain ⟨wo, rfl⟩ : ∃ wo : World, wo = wr := ⟨_, rfl⟩
      have hqlt := nodup_len G.length q hps.peel.nodup hps.peel.low
      by_cases hlt : k < G.length
      · obtain ⟨mv, iR, cR0, hM⟩ := hG4.out.row k hlt
        have hHat2 : ListsAt w4 (.slice ha G.length hc) H := hHat.out
        obtain ⟨mh, iS, cS0, hMh⟩ := hHat2.row k (by have := hHl.out; omega)
        have cR := (bw.cell (World.block_lt_of_cell? _ _ cR0)).trans cR0
        have cS := (bw.cell (World.block_lt_of_cell? _ _ cS0)).trans cS0
        have lM := hM.len
        have lMh := hMh.len
        rw [← hAl.out] at lM
        rw [← hBl.out] at lMh
        obtain ⟨iO, cO, fO, kO⟩ := tab_cell hr hN.outs k hlt
        obtain ⟨f1, hr1, hN1⟩ := hN.setOut hr k hlt (adjOf G k).length
        have bw1 : Below w4.heap.size w4 (wo.setCell (valAt ov k) (.int .i64 ((adjOf G k).length : Int))) := bw.setCell kO _
        obtain ⟨iI, cI, fI, kI⟩ := tab_cell hr1 hN1.inns k hlt
        obtain ⟨f2, hr2, hN2⟩ := hN1.setInn hr1 k hlt (adjOf H k).length
        have bw2 : Below w4.heap.size w4 ((wo.setCell (valAt ov k) (.int .i64 ((adjOf G k).length : Int))).setCell (valAt iv k) (.int .i64 ((adjOf H k).length : Int))) := bw1.setCell kI _
        obtain ⟨_, cO2, _, _⟩ := tab_cell hr2 hN2.outs k hlt
        obtain ⟨_, cI2, _, _⟩ := tab_cell hr2 hN2.inns k hlt
        rw [updN_same] at cO2 cI2
        have e1 := fillTo_next (fun t => (adjOf G t).length) k
        have e2 := fillTo_next (fun t => (adjOf H t).length) k
        rw [e1, e2] at hN2
        obtain ⟨iG, cG, fG, kG⟩ := mark_cell hr2 hN2.gones k hlt
        have cS1 := (bw1.cell (World.block_lt_of_cell? _ _ cS0)).trans cS0
        clear e1 e2
        have htk := fun h0 => hps.take (live_set hT.out.t hok.out) hlt h0
        have hsk := hps.skip
        obtain ⟨la, hla⟩ : ∃ la, (adjOf G k).length = la := ⟨_, rfl⟩
        obtain ⟨lb, hlb⟩ : ∃ lb, (adjOf H k).length = lb := ⟨_, rfl⟩
        rw [hla] at lM cO2 hr1 hr2 bw1 bw2 cI fI cI2 htk hsk cS1 cG fG
        rw [hlb] at lMh cO2 hr2 bw2 cI2 htk hsk cG fG
        generalize valAt ov k = oka at *
        generalize valAt iv k = ika at *
        generalize valAt (.slice na G.length nc) k = ra at *
        generalize valAt (.slice ha G.length hc) k = rb at *
        obtain ⟨gka, hgk⟩ : ∃ gka, valAt gv k = gka := ⟨_, rfl⟩
        rw [hgk] at iG cG fG kG
        replace hgk := Lib.hid hgk
        replace hps := Lib.hid hps
        replace htk := Lib.hid htk
        replace hsk := Lib.hid hsk
        replace hla := Lib.hid hla
        replace hlb := Lib.hid hlb
        replace hr := Lib.hid hr
        replace hr1 := Lib.hid hr1
        replace hM := Lib.hid hM
        replace hMh := Lib.hid hMh
        replace cR0 := Lib.hid cR0
        replace cS0 := Lib.hid cS0
        replace hHat2 := Lib.hid hHat2
        generalize (fillTo (fun t => (adjOf G t).length) k k : Int) = old1 at cO
        generalize (fillTo (fun t => (adjOf H t).length) k k : Int) = old2 at cI
        go_upto_region 13 with fail
        obtain ⟨W1, hW1⟩ : ∃ W1 : World, W1 = wo.setCell oka (.int .i64 (la : Int)) := ⟨_, rfl⟩
        rw [← hW1] at hr1 hr2 bw1 bw2 cI fI cI2 cO2 cS1 cG fG ⊢
        clear hW1 cO fO cR cS
        go_upto_region 14 with fail
        obtain ⟨W2, hW2⟩ : ∃ W2 : World, W2 = W1.setCell ika (.int .i64 (lb : Int)) := ⟨_, rfl⟩
        rw [← hW2] at hr2 bw2 cI2 cO2 cG fG ⊢
        clear hW2 cI fI cS1
        by_cases hz : la = 0 ∨ lb = 0
        · have htk2 := htk.out hz
          obtain ⟨f3, hr3, hN3⟩ := hN2.mark hr2 k hlt
          have bw3 : Below w4.heap.size w4 (W2.setCell (valAt gv k) (.bool true)) := bw2.setCell (by have := (mark_cell hr2 hN2.gones k hlt).2.2.2; exact this) _
          have hgka : valAt gv k = gka := hgk.out
          rw [hgka] at hr3 bw3
          replace hgka := Lib.hid hgka
          replace htk2 := Lib.hid htk2
          replace hr2 := Lib.hid hr2
          replace hr3 := Lib.hid hr3
          by_cases hz1 : la = 0
          · have hq1 : ((la : Int) == 0) = true := by rw [beq_iff_eq]; omega
            replace hz1 := Lib.hid hz1
            replace hz := Lib.hid hz
            go_upto_region 16 with fail
            obtain ⟨W3, hW3⟩ : ∃ W3 : World, W3 = W2.setCell gka (.bool true) := ⟨_, rfl⟩
            rw [← hW3] at hr3 bw3 ⊢
            clear hW3 cO2 cI2 cG fG
            have hOQ := hr3.out.ownI hN3.queue
            go_wp2_with (at_builtin; refine wpl_app1 rfl _ _ rfl w4.heap.size qv (castI q) k hOQ rfl rfl (by rw [castI_len]; omega) bw3.size ?_)
            intro qv' w7 ho7 b7 hal7
            obtain ⟨f7, hr7, hN7⟩ := hN3.push hr3.out k ho7 hal7
            replace hr7 := Lib.hid hr7
            replace ho7 := Lib.hid ho7
            clear hal7
            go_wp2
            go_roundw
            case measure => simp [intOf]; omega
            case rel => exact ⟨k + 1, _, _, f7, qv', rfl, by go_num, by omega, hr7.out, bw3.trans b7, hN7, htk2.out⟩
          · have hq1 : ((la : Int) == 0) = false := by rw [beq_eq_false_iff_ne]; omega
            have hq2 : ((lb : Int) == 0) = true := by rw [beq_iff_eq]; omega
            replace hz1 := Lib.hid hz1
            replace hz := Lib.hid hz
            go_upto_region 16 with fail
            obtain ⟨W3, hW3⟩ : ∃ W3 : World, W3 = W2.setCell gka (.bool true) := ⟨_, rfl⟩
            rw [← hW3] at hr3 bw3 ⊢
            clear hW3 cO2 cI2 cG fG
            have hOQ := hr3.out.ownI hN3.queue
            go_wp2_with (at_builtin; refine wpl_app1 rfl _ _ rfl w4.heap.size qv (castI q) k hOQ rfl rfl (by rw [castI_len]; omega) bw3.size ?_)
            intro qv' w7 ho7 b7 hal7
            obtain ⟨f7, hr7, hN7⟩ := hN3.push hr3.out k ho7 hal7
            replace hr7 := Lib.hid hr7
            replace ho7 := Lib.hid ho7
            clear hal7
            go_wp2
            go_roundw
            case measure => simp [intOf]; omega
            case rel => exact ⟨k + 1, _, _, f7, qv', rfl, by go_num, by omega, hr7.out, bw3.trans b7, hN7, htk2.out⟩
        · have hq1 : ((la : Int) == 0) = false := by rw [beq_eq_false_iff_ne]; omega
          have hq2 : ((lb : Int) == 0) = false := by rw [beq_eq_false_iff_ne]; omega
          have hsk2 := hsk.out (by omega) (by omega)
          replace hsk2 := Lib.hid hsk2
          replace hr2 := Lib.hid hr2
          replace hz := Lib.hid hz
          go_wp2
          go_roundw
          case measure => simp [intOf]; omega
          case rel => exact ⟨k + 1, gone, q, f2, qv, rfl, by go_num, by omega, hr2.out, bw2, hN2, hsk2.out⟩
      · obtain rfl : k = G.length := by omega
        have hN0 : LvN f ov iv gv qv G.length (fun t => (adjOf G t).length) (fun t => (adjOf H t).length) gone q :=
          ⟨by rw [← fillTo_all]; exact hN.outs, by rw [← fillTo_all]; exact hN.inns, hN.gones, hN.queue⟩
        have hps0 := hps.all
        have hbd0 : ∀ t, t < G.length → (adjOf H t).length ≤ 262144 ∧ (adjOf G t).length ≤ 262144 := fun t ht => ⟨by rw [hBl.out]; exact hHlen.out t ht, by rw [hAl.out]; exact hlen.out t ht⟩
        replace hps := Lib.hid hps
        replace hps0 := Lib.hid hps0
        replace hbd0 := Lib.hid hbd0
        replace hr := Lib.hid hr
        clear hN
        go_wp2_with fail
        go_loopw [9, 11] (fun qv iv2 wr => ∃ (i : Nat) (inn out c d : Nat → Nat) (gone : Nat → Bool) (q : List Nat) (f : Names) (qw : Value), qw = qv ∧ iv2 = .int .i64 i ∧ i ≤ q.length ∧ Rows w4.heap.size wr f ∧ Below w4.heap.size w4 wr ∧ LvN f ov iv gv qw G.length out inn gone q ∧ PS G.length (adjOf G) (adjOf H) inn out c d gone q (IsLive G.length (adjOf G)) i ∧ ∀ t, t < G.length → inn t ≤ 262144 ∧ out t ≤ 262144) (fun _ iv2 _ => G.length + 1 - (intOf iv2).toNat)
        case atStart => exact ⟨0, _, _, _, _, gone, q, f, qv, rfl, rfl, by omega, hr.out, bw, hN0, hps0.out, hbd0.out⟩
        case round =>
          clear hr bw hN0 hps0 hbd0 hps hqlt
          obtain ⟨i, inn, out, c, d, gone, q, f, qv, rfl, rfl, hi, hr, bw, hN, hps, hbd⟩ := hrel
          obtain ⟨wo, rfl⟩ : ∃ wo : World, wo = wr := ⟨_, rfl⟩
          have hqlt := nodup_len G.length q hps.peel.nodup hps.peel.low
          have hOQ := hr.ownI hN.queue
          have lQ := hOQ.at.len
          rw [castI_len] at lQ
          by_cases hil : i < q.length
          · obtain ⟨v, hv⟩ : ∃ v, q[i]? = some v := ⟨_, List.getElem?_eq_getElem hil⟩
            obtain ⟨hmid, hcv, hdv, hvn⟩ := hps.enter hv
            have iV := fun w' => hOQ.at.idx i (by rw [castI_len]; exact hil) w'
            have cV := hOQ.at.cellD i (by rw [castI_len]; exact hil)
            rw [castI_get hv] at cV
            obtain ⟨mv, iR, cR0, hMG⟩ := hG4.out.row v hvn
            have hHat2 : ListsAt w4 (.slice ha G.length hc) H := hHat.out
            obtain ⟨mh, iS, cS0, hMH⟩ := hHat2.row v (by have := hHl.out; omega)
            have hgx := hlen.out v hvn
            have hhx := hHlen.out v hvn
            have hgpG := hok.out v hvn
            have hgpHv := hgpH.out v hvn
            have hadjG : adjOf G v = (G.getD v []).map Int.toNat := rfl
            have hadjH : adjOf H v = (H.getD v []).map Int.toNat := rfl
            generalize G.getD v [] = gx at *
            generalize H.getD v [] = hx at *
            have lM := hMG.len
            have lMh := hMH.len
            generalize valAt qv i = qa at *
            generalize valAt (.slice na G.length nc) v = ra at *
            generalize valAt (.slice ha G.length hc) v = rb at *
            replace hr := Lib.hid hr
            replace hOQ := Lib.hid hOQ
            replace hMG := Lib.hid hMG
            replace hMH := Lib.hid hMH
            replace cR0 := Lib.hid cR0
            replace cS0 := Lib.hid cS0
            replace hps := Lib.hid hps
            replace hmid := Lib.hid hmid
            replace hbd := Lib.hid hbd
            replace hgpG := Lib.hid hgpG
            replace hgpHv := Lib.hid hgpHv
            replace hadjG := Lib.hid hadjG
            replace hadjH := Lib.hid hadjH
            replace hv := Lib.hid hv
            replace hHat2 := Lib.hid hHat2
            go_wp2_with fail
            clear iV cV lQ hps hOQ hqlt hi hil
            go_loopw [9, 13] (fun qv kv wr => ∃ (k : Nat) (inn out c d : Nat → Nat) (gone : Nat → Bool) (q : List Nat) (f : Names) (qw : Value), qw = qv ∧ kv = .int .i64 k ∧ k ≤ gx.length ∧ Rows w4.heap.size wr f ∧ Below w4.heap.size w4 wr ∧ LvN f ov iv gv qw G.length out inn gone q ∧ Mid G.length (adjOf G) (adjOf H) inn out c d gone q (IsLive G.length (adjOf G)) i v ∧ (c v = k ∧ d v = 0) ∧ ∀ t, t < G.length → inn t ≤ 262144 ∧ out t ≤ 262144) (fun _ kv _ => gx.length - (intOf kv).toNat)
            case atStart => exact ⟨0, inn, out, c, d, gone, q, f, qv, rfl, rfl, by omega, hr.out, bw, hN, hmid.out, ⟨hcv, hdv⟩, hbd.out⟩
            case round =>
              clear hr bw hN hmid hcv hdv hbd
              obtain ⟨k, inn, out, c, d, gone, q, f, qv, rfl, rfl, hk, hr, bw, hN, hmid, ⟨hcv, hdv⟩, hbd⟩ := hrel
              obtain ⟨wo, rfl⟩ : ∃ wo : World, wo = wr := ⟨_, rfl⟩
              have cRm := (bw.cell (World.block_lt_of_cell? _ _ cR0.out)).trans cR0.out
              have hal : (adjOf G v).length = gx.length := by rw [hadjG.out]; simp
              have hqlt := nodup_len G.length q hmid.peel.nodup hmid.peel.low
              by_cases hlk : k < gx.length
              · obtain ⟨t, ht⟩ : ∃ t, (adjOf G v)[k]? = some t := ⟨_, List.getElem?_eq_getElem (by omega)⟩
                have hgt : gx.getD k 0 = (t : Int) ∧ t < G.length := by
                  have hg := hgpG.out gx[k] (List.getElem_mem hlk)
                  have e := ht
                  rw [hadjG.out, List.getElem?_map, List.getElem?_eq_getElem hlk] at e
                  injection e with e
                  rw [List.getD_eq_getElem?_getD, List.getElem?_eq_getElem hlk, Option.getD_some]
                  omega
                obtain ⟨hgd, htn⟩ := hgt
                obtain ⟨h0, hmk, hno⟩ := hmid.step (live_set hT.out.t hok.out) hcv ht htn
                have hMo := hMG.out.below bw
                have iT := fun w' => hMo.idx k hlk w'
                have cT := hMo.cellD k hlk
                rw [hgd] at cT
                obtain ⟨iA, cA, fA, kA⟩ := tab_cell hr hN.inns t htn
                obtain ⟨b, hb⟩ : ∃ b, inn t = b + 1 := ⟨inn t - 1, by omega⟩
                have hbb := hbd t htn
                have hb1 : inn t - 1 = b := by omega
                rw [hb1] at hmk hno
                rw [hb] at cA
                have hwr : IntKind.i64.wrap (b : Int) = (b : Int) := wrapK (by omega) (by omega)
                have hcast : ((b + 1 : Nat) : Int) = (b : Int) + 1 := by omega
                rw [hcast] at cA
                obtain ⟨f1, hr1, hN1⟩ := hN.setInn hr t htn b
                have bw1 : Below w4.heap.size w4 (wo.setCell (valAt iv t) (.int .i64 (b : Int))) := bw.setCell kA _
                obtain ⟨_, cA1, _, _⟩ := tab_cell hr1 hN1.inns t htn
                rw [updN_same] at cA1
                obtain ⟨iG, cG, fG, kG⟩ := mark_cell hr1 hN1.gones t htn
                have hbd2 : ∀ x, x < G.length → updN inn t b x ≤ 262144 ∧ out x ≤ 262144 := fun x hx => by
                  have := hbd x hx
                  by_cases e : x = t
                  · subst e; rw [updN_same]; omega
                  · rw [updN_other _ _ _ e]; exact this
                replace hbd2 := Lib.hid hbd2
                replace hbd := Lib.hid hbd
                generalize valAt iv t = ta at *
                generalize valAt mv k = ja at *
                obtain ⟨gg, hgg⟩ : ∃ gg, gone t = gg := ⟨_, rfl⟩
                rw [hgg] at cG hmk hno
                replace hr := Lib.hid hr
                replace hMo := Lib.hid hMo
                replace hmid := Lib.hid hmid
                replace ht := Lib.hid ht
                replace hgd := Lib.hid hgd
                replace hb := Lib.hid hb
                replace hb1 := Lib.hid hb1
                replace hcast := Lib.hid hcast
                replace hgg := Lib.hid hgg
                replace hmk := Lib.hid hmk
                replace hno := Lib.hid hno
                replace hal := Lib.hid hal
                replace cRm0 := Lib.hid cRm
                go_upto_region 26 with fail
                obtain ⟨W1, hW1⟩ : ∃ W1 : World, W1 = wo.setCell ta (.int .i64 (b : Int)) := ⟨_, rfl⟩
                rw [← hW1] at hr1 bw1 cA1 cG fG ⊢
                clear hW1 cA fA cT iT cRm
                by_cases hb0 : b = 0
                · have hbq : ((b : Int) == 0) = true := by rw [beq_iff_eq]; omega
                  cases gg with
                  | false =>
                    have hm2 := hmk.out (by rw [hb.out]; omega) rfl
                    obtain ⟨f2, hr2, hN2⟩ := hN1.mark hr1 t htn
                    have bw2 : Below w4.heap.size w4 (W1.setCell (valAt gv t) (.bool true)) := bw1.setCell kG _
                    generalize valAt gv t = ga at *
                    replace hm2 := Lib.hid hm2
                    replace hr1 := Lib.hid hr1
                    replace hr2 := Lib.hid hr2
                    replace hb0 := Lib.hid hb0
                    go_upto_region 28 with fail
                    obtain ⟨W2, hW2⟩ : ∃ W2 : World, W2 = W1.setCell ga (.bool true) := ⟨_, rfl⟩
                    rw [← hW2] at hr2 bw2 ⊢
                    clear hW2 cA1 cG fG iG iA
                    have hOQ := hr2.out.ownI hN2.queue
                    go_wp2_with (at_builtin; refine wpl_app1 rfl _ _ rfl w4.heap.size qv (castI q) t hOQ rfl rfl (by rw [castI_len]; omega) bw2.size ?_)
                    intro qv' w7 ho7 b7 hal7
                    obtain ⟨f7, hr7, hN7⟩ := hN2.push hr2.out t ho7 hal7
                    replace hr7 := Lib.hid hr7
                    replace ho7 := Lib.hid ho7
                    clear hal7
                    go_wp2
                    go_roundw
                    case measure => simp [intOf]; omega
                    case rel => exact ⟨k + 1, updN inn t b, out, updN c v (k + 1), d, _, _, f7, qv', rfl, by go_num, by omega, hr7.out, bw2.trans b7, hN7, hm2.out, ⟨updN_same _ _ _, hdv⟩, hbd2.out⟩
                  | true =>
                    have hm2 := hno.out (fun _ => rfl)
                    replace hm2 := Lib.hid hm2
                    replace hr1 := Lib.hid hr1
                    replace hb0 := Lib.hid hb0
                    go_wp2
                    go_roundw
                    case measure => simp [intOf]; omega
                    case rel => exact ⟨k + 1, updN inn t b, out, updN c v (k + 1), d, gone, q, f1, qv, rfl, by go_num, by omega, hr1.out, bw1, hN1, hm2.out, ⟨updN_same _ _ _, hdv⟩, hbd2.out⟩
                · have hbq : ((b : Int) == 0) = false := by rw [beq_eq_false_iff_ne]; omega
                  have hm2 := hno.out (fun q => by rw [hb.out] at q; omega)
                  replace hm2 := Lib.hid hm2
                  replace hr1 := Lib.hid hr1
                  replace hb0 := Lib.hid hb0
                  go_wp2
                  go_roundw
                  case measure => simp [intOf]; omega
                  case rel => exact ⟨k + 1, updN inn t b, out, updN c v (k + 1), d, gone, q, f1, qv, rfl, by go_num, by omega, hr1.out, bw1, hN1, hm2.out, ⟨updN_same _ _ _, hdv⟩, hbd2.out⟩
              · obtain rfl : k = gx.length := by omega
                rw [← hal] at hcv
                replace hmid := Lib.hid hmid
                replace hbd := Lib.hid hbd
                replace hr := Lib.hid hr
                replace hal := Lib.hid hal
                go_wp2_with fail
                clear cRm hqlt
                go_loopw [9, 15] (fun qv kv wr => ∃ (k : Nat) (inn out c d : Nat → Nat) (gone : Nat → Bool) (q : List Nat) (f : Names) (qw : Value), qw = qv ∧ kv = .int .i64 k ∧ k ≤ hx.length ∧ Rows w4.heap.size wr f ∧ Below w4.heap.size w4 wr ∧ LvN f ov iv gv qw G.length out inn gone q ∧ Mid G.length (adjOf G) (adjOf H) inn out c d gone q (IsLive G.length (adjOf G)) i v ∧ (c v = (adjOf G v).length ∧ d v = k) ∧ ∀ t, t < G.length → inn t ≤ 262144 ∧ out t ≤ 262144) (fun _ kv _ => hx.length - (intOf kv).toNat)
                case atStart => exact ⟨0, inn, out, c, d, gone, q, f, qv, rfl, rfl, by omega, hr.out, bw, hN, hmid.out, ⟨hcv, hdv⟩, hbd.out⟩
                case round =>
                  clear hr bw hN hmid hcv hdv hbd
                  obtain ⟨k, inn, out, c, d, gone, q, f, qv, rfl, rfl, hk, hr, bw, hN, hmid, ⟨hcv, hdv⟩, hbd⟩ := hrel
                  obtain ⟨wo, rfl⟩ : ∃ wo : World, wo = wr := ⟨_, rfl⟩
                  have cRm := (bw.cell (World.block_lt_of_cell? _ _ cS0.out)).trans cS0.out
                  have hal : (adjOf H v).length = hx.length := by rw [hadjH.out]; simp
                  have hqlt := nodup_len G.length q hmid.peel.nodup hmid.peel.low
                  by_cases hlk : k < hx.length
                  · obtain ⟨t, ht⟩ : ∃ t, (adjOf H v)[k]? = some t := ⟨_, List.getElem?_eq_getElem (by omega)⟩
                    have hgt : hx.getD k 0 = (t : Int) ∧ t < G.length := by
                      have hg := hgpHv.out hx[k] (List.getElem_mem hlk)
                      have e := ht
                      rw [hadjH.out, List.getElem?_map, List.getElem?_eq_getElem hlk] at e
                      injection e with e
                      rw [List.getD_eq_getElem?_getD, List.getElem?_eq_getElem hlk, Option.getD_some]
                      omega
                    obtain ⟨hgd, htn⟩ := hgt
                    obtain ⟨h0, hmk, hno⟩ := hmid.swap.step (live_set hT.out.t hok.out).swap hdv ht htn
                    have hMo := hMH.out.below bw
                    have iT := fun w' => hMo.idx k hlk w'
                    have cT := hMo.cellD k hlk
                    rw [hgd] at cT
                    obtain ⟨iA, cA, fA, kA⟩ := tab_cell hr hN.outs t htn
                    obtain ⟨b, hb⟩ : ∃ b, out t = b + 1 := ⟨out t - 1, by omega⟩
                    have hbb := hbd t htn
                    have hb1 : out t - 1 = b := by omega
                    rw [hb1] at hmk hno
                    rw [hb] at cA
                    have hwr : IntKind.i64.wrap (b : Int) = (b : Int) := wrapK (by omega) (by omega)
                    have hcast : ((b + 1 : Nat) : Int) = (b : Int) + 1 := by omega
                    rw [hcast] at cA
                    obtain ⟨f1, hr1, hN1⟩ := hN.setOut hr t htn b
                    have bw1 : Below w4.heap.size w4 (wo.setCell (valAt ov t) (.int .i64 (b : Int))) := bw.setCell kA _
                    obtain ⟨_, cA1, _, _⟩ := tab_cell hr1 hN1.outs t htn
                    rw [updN_same] at cA1
                    obtain ⟨iG, cG, fG, kG⟩ := mark_cell hr1 hN1.gones t htn
                    have hbd2 : ∀ x, x < G.length → inn x ≤ 262144 ∧ updN out t b x ≤ 262144 := fun x hx => by
                      have := hbd x hx
                      by_cases e : x = t
                      · subst e; rw [updN_same]; omega
                      · rw [updN_other _ _ _ e]; exact this
                    replace hbd2 := Lib.hid hbd2
                    replace hbd := Lib.hid hbd
                    generalize valAt ov t = ta at *
                    generalize valAt mh k = ja at *
                    obtain ⟨gg, hgg⟩ : ∃ gg, gone t = gg := ⟨_, rfl⟩
                    rw [hgg] at cG hmk hno
                    replace hr := Lib.hid hr
                    replace hMo := Lib.hid hMo
                    replace hmid := Lib.hid hmid
                    replace ht := Lib.hid ht
                    replace hgd := Lib.hid hgd
                    replace hb := Lib.hid hb
                    replace hb1 := Lib.hid hb1
                    replace hcast := Lib.hid hcast
                    replace hgg := Lib.hid hgg
                    replace hmk := Lib.hid hmk
                    replace hno := Lib.hid hno
                    replace hal := Lib.hid hal
                    replace cRm0 := Lib.hid cRm
                    go_upto_region 34 with fail
                    obtain ⟨W1, hW1⟩ : ∃ W1 : World, W1 = wo.setCell ta (.int .i64 (b : Int)) := ⟨_, rfl⟩
                    rw [← hW1] at hr1 bw1 cA1 cG fG ⊢
                    clear hW1 cA fA cT iT cRm
                    by_cases hb0 : b = 0
                    · have hbq : ((b : Int) == 0) = true := by rw [beq_iff_eq]; omega
                      cases gg with
                      | false =>
                        have hm2 := hmk.out (by rw [hb.out]; omega) rfl
                        obtain ⟨f2, hr2, hN2⟩ := hN1.mark hr1 t htn
                        have bw2 : Below w4.heap.size w4 (W1.setCell (valAt gv t) (.bool true)) := bw1.setCell kG _
                        generalize valAt gv t = ga at *
                        replace hm2 := Lib.hid hm2
                        replace hr1 := Lib.hid hr1
                        replace hr2 := Lib.hid hr2
                        replace hb0 := Lib.hid hb0
                        go_upto_region 36 with fail
                        obtain ⟨W2, hW2⟩ : ∃ W2 : World, W2 = W1.setCell ga (.bool true) := ⟨_, rfl⟩
                        rw [← hW2] at hr2 bw2 ⊢
                        clear hW2 cA1 cG fG iG iA
                        have hOQ := hr2.out.ownI hN2.queue
                        go_wp2_with (at_builtin; refine wpl_app1 rfl _ _ rfl w4.heap.size qv (castI q) t hOQ rfl rfl (by rw [castI_len]; omega) bw2.size ?_)
                        intro qv' w7 ho7 b7 hal7
                        obtain ⟨f7, hr7, hN7⟩ := hN2.push hr2.out t ho7 hal7
                        replace hr7 := Lib.hid hr7
                        replace ho7 := Lib.hid ho7
                        clear hal7
                        go_wp2
                        go_roundw
                        case measure => simp [intOf]; omega
                        case rel => exact ⟨k + 1, inn, updN out t b, c, updN d v (k + 1), _, _, f7, qv', rfl, by go_num, by omega, hr7.out, bw2.trans b7, hN7, hm2.out.swap, ⟨hcv, updN_same _ _ _⟩, hbd2.out⟩
                      | true =>
                        have hm2 := hno.out (fun _ => rfl)
                        replace hm2 := Lib.hid hm2
                        replace hr1 := Lib.hid hr1
                        replace hb0 := Lib.hid hb0
                        go_wp2
                        go_roundw
                        case measure => simp [intOf]; omega
                        case rel => exact ⟨k + 1, inn, updN out t b, c, updN d v (k + 1), gone, q, f1, qv, rfl, by go_num, by omega, hr1.out, bw1, hN1, hm2.out.swap, ⟨hcv, updN_same _ _ _⟩, hbd2.out⟩
                    · have hbq : ((b : Int) == 0) = false := by rw [beq_eq_false_iff_ne]; omega
                      have hm2 := hno.out (fun q => by rw [hb.out] at q; omega)
                      replace hm2 := Lib.hid hm2
                      replace hr1 := Lib.hid hr1
                      replace hb0 := Lib.hid hb0
                      go_wp2
                      go_roundw
                      case measure => simp [intOf]; omega
                      case rel => exact ⟨k + 1, inn, updN out t b, c, updN d v (k + 1), gone, q, f1, qv, rfl, by go_num, by omega, hr1.out, bw1, hN1, hm2.out.swap, ⟨hcv, updN_same _ _ _⟩, hbd2.out⟩
                  · obtain rfl : k = hx.length := by omega
                    have hps2 := hmid.leave hcv (by rw [hdv, hal])
                    have hil2 := get_of hmid.cur
                    replace hps2 := Lib.hid hps2
                    replace hmid := Lib.hid hmid
                    replace hbd := Lib.hid hbd
                    replace hr := Lib.hid hr
                    replace hal := Lib.hid hal
                    go_wp2
                    go_roundw
                    case measure => simp [intOf]; omega
                    case rel => exact ⟨i + 1, inn, out, c, d, gone, q, f, qv, rfl, by go_num, by omega, hr.out, bw, hN, hps2.out, hbd.out⟩
          · obtain rfl : i = q.length := by omega
            have hend := hps.end_ hT.out.t hok.out
            have hR5 := hr.add (i := (5, 0)) (r' := rowI (.slice none 0 0) []) (Below.refl _ _) (OwnI.nil _ _) (fun k hk => by cases hk)
            have hg5 : upd f (5, 0) (some (rowI (.slice none 0 0) [])) (3, 0) = some (rowV 4 gv (tabB G.length gone)) := by rw [upd_ne _ _ (by simp)]; exact hN.gones
            have hl5 : upd f (5, 0) (some (rowI (.slice none 0 0) [])) (5, 0) = some (rowI (.slice none 0 0) (castI [])) := by rw [upd_same]; rfl
            generalize upd f (5, 0) (some (rowI (.slice none 0 0) [])) = f5 at hR5 hg5 hl5
            replace hend := Lib.hid hend
            replace hR5 := Lib.hid hR5
            replace hg5 := Lib.hid hg5
            replace hl5 := Lib.hid hl5
            replace hps := Lib.hid hps
            replace hbd := Lib.hid hbd
            replace hr := Lib.hid hr
            replace hOQ := Lib.hid hOQ
            go_wp2_with fail
            go_loopw [17, 18] (fun lv kv wr => ∃ (k : Nat) (f : Names) (lw : Value), lw = lv ∧ kv = .int .i64 k ∧ k ≤ G.length ∧ Rows w4.heap.size wr f ∧ Below w4.heap.size w4 wr ∧ f (3, 0) = some (rowV 4 gv (tabB G.length gone)) ∧ f (5, 0) = some (rowI lw (castI ((List.range k).filter fun t => !gone t)))) (fun _ kv _ => G.length - (intOf kv).toNat)
            case atStart => exact ⟨0, f5, _, rfl, rfl, by omega, hR5.out, bw, hg5.out, hl5.out⟩
            case round =>
              clear hR5 hg5 hl5 hr bw hN hOQ
              obtain ⟨k, f, lv, rfl, rfl, hk, hr, bw, hf3, hf5⟩ := hrel
              obtain ⟨wo, rfl⟩ : ∃ wo : World, wo = wr := ⟨_, rfl⟩
              have hOL := hr.ownI hf5
              have hll : ((List.range k).filter fun t => !gone t).length ≤ 10000 := by
                have := List.length_filter_le (fun t => !gone t) (List.range k)
                rw [List.length_range] at this; omega
              by_cases hlk : k < G.length
              · obtain ⟨iG, cG, fG, kG⟩ := mark_cell hr hf3 k hlk
                have hfn := filter_next (fun t => !gone t) k
                generalize valAt gv k = ga at *
                obtain ⟨gg, hgg⟩ : ∃ gg, gone k = gg := ⟨_, rfl⟩
                rw [hgg] at cG
                simp only [hgg] at hfn
                generalize (List.range k).filter (fun t => !gone t) = L at *
                cases gg with
                | true =>
                  rw [if_neg (by decide), List.append_nil] at hfn
                  rw [← hfn] at hf5
                  replace hfn := Lib.hid hfn
                  replace hf3 := Lib.hid hf3
                  replace hf5 := Lib.hid hf5
                  replace hr := Lib.hid hr
                  replace hOL := Lib.hid hOL
                  replace hgg := Lib.hid hgg
                  go_wp2
                  go_roundw
                  case measure => simp [intOf]; omega
                  case rel => exact ⟨k + 1, f, lv, rfl, by go_num, by omega, hr.out, bw, hf3.out, hf5.out⟩
                | false =>
                  rw [if_pos (by decide)] at hfn
                  replace hfn := Lib.hid hfn
                  replace hf3 := Lib.hid hf3
                  replace hf5 := Lib.hid hf5
                  replace hr := Lib.hid hr
                  replace hgg := Lib.hid hgg
                  go_wp2_with (at_builtin; refine wpl_app1 rfl _ _ rfl w4.heap.size lv (castI L) k hOL rfl rfl (by rw [castI_len]; omega) bw.size ?_)
                  intro lv' w7 ho7 b7 hal7
                  have R7 := row_push hr.out hf5.out k ho7 hal7
                  replace R7 := Lib.hid R7
                  replace ho7 := Lib.hid ho7
                  clear hal7
                  go_wp2
                  go_roundw
                  case measure => simp [intOf]; omega
                  case rel => exact ⟨k + 1, _, lv', rfl, by go_num, by omega, R7.out, bw.trans b7, (upd_ne _ _ (by simp)).trans hf3.out, by rw [upd_same, hfn.out]⟩
              · obtain rfl : k = G.length := by omega
                obtain ⟨⟨s0, s1, s2⟩, g0, g1, g2⟩ := hBx.out.keep bw hs4
                have bwe := b04.trans (bw.mono (Nat.le_of_lt hs4))
                replace hOL := Lib.hid hOL
                replace hr := Lib.hid hr
                replace hf3 := Lib.hid hf3
                replace hf5 := Lib.hid hf5
                go_wp2
                refine bodyPost_ret (v := .tuple #[lv, zErr]) (by simp [results, Tryd.results24, go_sem, s0, s1, s2]) rfl ⟨_, _, rfl, below_set3 bwe (by simp) _ _ _, ?_⟩
                rw [hck.out]
                exact ⟨rfl, ⟨(fun _ => ⟨_, hend.out, (hOL.out.set3 hs4 _ _ _).mono (Nat.le_of_lt hs4)⟩), (fun q => absurd rfl q)⟩⟩
end Go.Proofs.YtdldadgnggaopaaDoor

namespace Go.Proofs.YtdldadgnggaopaaDoor
open Go.RowKit
set_option maxRecDepth 100000

/-- No vertex of G. -/
def outG (G : List (List Int)) (a : Int) : Prop := a < 0 ∨ (G.length : Int) ≤ a
instance (G : List (List Int)) (a : Int) : Decidable (outG G a) := by unfold outG; infer_instance
/-- What Path tells of its arguments. -/
def pathE (G : List (List Int)) (a b : Int) : PErr :=
  match checkG G with
  | some t => some t
  | none => if outG G a then fresh sGraph 1 3 else if outG G b then fresh sGraph 2 3 else none
theorem pathE_none {G : List (List Int)} {a b : Int} (h : pathE G a b = none) : checkG G = none ∧ ∃ x y : Nat, a = x ∧ b = y ∧ x < G.length ∧ y < G.length := by
  unfold pathE at h
  cases hc : checkG G with
  | some t => rw [hc] at h; cases h
  | none =>
    rw [hc] at h
    dsimp only at h
    by_cases ha : outG G a
    · rw [if_pos ha] at h; cases h
    rw [if_neg ha] at h
    by_cases hb : outG G b
    · rw [if_pos hb] at h; cases h
    unfold outG at ha hb
    exact ⟨rfl, a.toNat, b.toNat, by omega, by omega, by omega, by omega⟩
theorem pathE_ok {G : List (List Int)} {x y : Nat} (hc : checkG G = none) (hx : x < G.length) (hy : y < G.length) : pathE G x y = none := by
  unfold pathE
  rw [hc]
  dsimp only
  rw [if_neg (by unfold outG; omega), if_neg (by unfold outG; omega)]
/-- What Path leaves. -/
def PathPost (r : Nat → Addr) (w : World) (G : List (List Int)) (a b : Int) (x y : Value) (w' : World) : Prop :=
  ErrIs r w' (pathE G a b) y ∧ (pathE G a b = none → FirstPost w (adjOf G) a.toNat b.toNat x w') ∧ (pathE G a b ≠ none → x = .slice none 0 0)
theorem FirstPost.step {w1 w2 w3 : World} {adj : Nat → List Nat} {a b : Nat} {x : Value} (h : FirstPost w2 adj a b x w3) (hs : w1.heap.size ≤ w2.heap.size) : FirstPost w1 adj a b x w3 := by
  rcases h with ⟨u, h1, h2⟩ | h
  · exact .inl ⟨u, h1, h2.mono hs⟩
  · exact .inr h
theorem FirstPost.shape {w w' : World} {adj : Nat → List Nat} {a b : Nat} {x : Value} (h : FirstPost w adj a b x w') : ∃ p n c, x = .slice p n c := by
  rcases h with ⟨u, _, h2⟩ | ⟨_, h⟩
  · exact h2.at.shape
  · exact ⟨_, _, _, h⟩

set_option maxHeartbeats 4000000 in
theorem path_any (r : Nat → Addr) (na : Option Addr) (nc : Nat) (G : List (List Int)) (a b : Int) (w : World) (hg : Glob r w) (h : ListsAt w (.slice na G.length nc) G) (hsz : ∀ k, k < G.length → (G.getD k []).length ≤ 17592186044416) :
    Calls Tryd.prog 29 #[.slice na G.length nc, .int .i64 a, .int .i64 b] w (Ret2 (PathPost r w G a b) w) := by
  have hC := graph_check r na nc G w hg h hsz
  cases hck : checkG G with
  | some t =>
    rw [hck] at hC
    have hp : pathE G a b = some t := by unfold pathE; rw [hck]
    replace hp := Lib.hid hp
    replace hck := Lib.hid hck
    replace h := Lib.hid h
    replace hg := Lib.hid hg
    replace hsz := Lib.hid hsz
    go_enter Tryd.func29, Tryd.ntmps29
    go_wp2_with fail
    refine hC.mono ?_
    rintro e w1 ⟨y, rfl, b1, he⟩
    obtain ⟨T, p, rfl⟩ := he.some_shape
    replace he := Lib.hid he
    go_wp2
    go_ret2
    exact ⟨_, _, rfl, b1, ⟨by rw [hp.out]; exact he.out, ⟨fun q => (by rw [hp.out] at q; cases q), fun _ => rfl⟩⟩⟩
  | none =>
    rw [hck] at hC
    obtain ⟨hn, harr, hok⟩ := checkG_none hck
    by_cases ha : outG G a
    · have hp : pathE G a b = fresh sGraph 1 3 := by unfold pathE; rw [hck]; dsimp only; rw [if_pos ha]
      replace hp := Lib.hid hp
      replace hck := Lib.hid hck
      replace h := Lib.hid h
      replace hg := Lib.hid hg
      replace hsz := Lib.hid hsz
      replace hok := Lib.hid hok
      rcases ha with ha | ha
      · go_enter Tryd.func29, Tryd.ntmps29
        go_wp2_with fail
        refine hC.mono ?_
        rintro e w1 ⟨y, rfl, b1, he⟩
        obtain rfl := he.none_eq
        clear he hC
        go_wp2_with fail
        refine (graph_wrong r _ _ _ (hg.out.below b1) (by decide) (by decide)).mono ?_
        rintro e w2 ⟨y, rfl, b2, he⟩
        replace he := Lib.hid he
        go_wp2
        go_ret2
        exact ⟨_, _, rfl, Below.step b1 b2, ⟨by rw [hp.out]; exact he.out, ⟨fun q => (by rw [hp.out] at q; cases q), fun _ => rfl⟩⟩⟩
      · have ha0 : ¬ a < 0 := by omega
        go_enter Tryd.func29, Tryd.ntmps29
        go_wp2_with fail
        refine hC.mono ?_
        rintro e w1 ⟨y, rfl, b1, he⟩
        obtain rfl := he.none_eq
        clear he hC
        go_wp2_with fail
        refine (graph_wrong r _ _ _ (hg.out.below b1) (by decide) (by decide)).mono ?_
        rintro e w2 ⟨y, rfl, b2, he⟩
        replace he := Lib.hid he
        go_wp2
        go_ret2
        exact ⟨_, _, rfl, Below.step b1 b2, ⟨by rw [hp.out]; exact he.out, ⟨fun q => (by rw [hp.out] at q; cases q), fun _ => rfl⟩⟩⟩
    · have ha1 : 0 ≤ a ∧ a < G.length := by unfold outG at ha; omega
      obtain ⟨ha1, ha2⟩ := ha1
      by_cases hb : outG G b
      · have hp : pathE G a b = fresh sGraph 2 3 := by unfold pathE; rw [hck]; dsimp only; rw [if_neg ha, if_pos hb]
        replace hp := Lib.hid hp
        replace hck := Lib.hid hck
        replace h := Lib.hid h
        replace hg := Lib.hid hg
        replace hsz := Lib.hid hsz
        replace hok := Lib.hid hok
        clear ha
        rcases hb with hb | hb
        · go_enter Tryd.func29, Tryd.ntmps29
          go_wp2_with fail
          refine hC.mono ?_
          rintro e w1 ⟨y, rfl, b1, he⟩
          obtain rfl := he.none_eq
          clear he hC
          go_wp2_with fail
          refine (graph_wrong r _ _ _ (hg.out.below b1) (by decide) (by decide)).mono ?_
          rintro e w2 ⟨y, rfl, b2, he⟩
          replace he := Lib.hid he
          go_wp2
          go_ret2
          exact ⟨_, _, rfl, Below.step b1 b2, ⟨by rw [hp.out]; exact he.out, ⟨fun q => (by rw [hp.out] at q; cases q), fun _ => rfl⟩⟩⟩
        · have hb0 : ¬ b < 0 := by omega
          go_enter Tryd.func29, Tryd.ntmps29
          go_wp2_with fail
          refine hC.mono ?_
          rintro e w1 ⟨y, rfl, b1, he⟩
          obtain rfl := he.none_eq
          clear he hC
          go_wp2_with fail
          refine (graph_wrong r _ _ _ (hg.out.below b1) (by decide) (by decide)).mono ?_
          rintro e w2 ⟨y, rfl, b2, he⟩
          replace he := Lib.hid he
          go_wp2
          go_ret2
          exact ⟨_, _, rfl, Below.step b1 b2, ⟨by rw [hp.out]; exact he.out, ⟨fun q => (by rw [hp.out] at q; cases q), fun _ => rfl⟩⟩⟩
      · have hb1 : 0 ≤ b ∧ b < G.length := by unfold outG at hb; omega
        obtain ⟨hb1, hb2⟩ := hb1
        have hp : pathE G a b = none := by unfold pathE; rw [hck]; dsimp only; rw [if_neg ha, if_neg hb]
        obtain ⟨x, rfl⟩ := Int.eq_ofNat_of_zero_le ha1
        obtain ⟨y, rfl⟩ := Int.eq_ofNat_of_zero_le hb1
        have hx : x < G.length := by omega
        have hy : y < G.length := by omega
        clear ha hb ha1 hb1 ha2 hb2
        replace hp := Lib.hid hp
        replace hck := Lib.hid hck
        replace h := Lib.hid h
        replace hg := Lib.hid hg
        replace hsz := Lib.hid hsz
        replace hok := Lib.hid hok
        go_enter Tryd.func29, Tryd.ntmps29
        go_wp2_with fail
        refine hC.mono ?_
        rintro e w1 ⟨y', rfl, b1, he⟩
        obtain rfl := he.none_eq
        clear he hC
        go_wp2_with fail
        refine (first_any na nc G x y _ (h.out.below b1) hok.out (by omega) hx hy hsz.out).mono ?_
        rintro e w2 ⟨z, rfl, b2, hz⟩
        obtain ⟨zp, zn, zc, rfl⟩ := hz.shape
        replace hz := Lib.hid hz
        go_wp2
        go_ret2
        exact ⟨_, _, rfl, Below.step b1 b2, ⟨by rw [hp.out]; rfl, ⟨fun _ => by rw [Int.toNat_natCast, Int.toNat_natCast]; exact hz.out.step b1.size, fun q => absurd hp.out q⟩⟩⟩
end Go.Proofs.YtdldadgnggaopaaDoor

namespace Go.Proofs.YtdldadgnggaopaaDoor
open Go.RowKit
set_option maxRecDepth 100000

set_option maxHeartbeats 2000000 in
theorem ref12_path (na : Option Addr) (nc : Nat) (G : List (List Int)) (a b : Int) (w : World) (h : ListsAt w (.slice na G.length nc) G) (hsz : ∀ k, k < G.length → (G.getD k []).length ≤ 17592186044416) :
    Calls Tryd.prog 30 #[.slice na G.length nc, .int .i64 a, .int .i64 b] w (Ret2 (RefPost w (pathE G a b) (fun x w' => FirstPost w (adjOf G) a.toNat b.toNat x w')) w) := by
  have b0 := belowAlloc w (.cells #[.int .i64 0, .slice none 0 0, .slice none 0 0] 45)
  have bx : Box3 (w.alloc (.cells #[.int .i64 0, .slice none 0 0, .slice none 0 0] 45)) w.heap.size (.int .i64 0) (.slice none 0 0) (.slice none 0 0) := by
    have q := cells3 (Below.refl (w.alloc (.cells #[.int .i64 0, .slice none 0 0, .slice none 0 0] 45)).heap.size (w.alloc (.cells #[.int .i64 0, .slice none 0 0, .slice none 0 0] 45)))
    exact ⟨⟨q.1, q.2.1, q.2.2.1⟩, q.2.2.2⟩
  have hsW : (w.alloc (.cells #[.int .i64 0, .slice none 0 0, .slice none 0 0] 45)).heap.size = w.heap.size + 1 := by simp
  have hC := ref12_check na nc G _ (h.below b0) hsz
  replace hC := Lib.hid hC
  replace bx := Lib.hid bx
  replace hsW := Lib.hid hsW
  replace h := Lib.hid h
  replace hsz := Lib.hid hsz
  go_enter Tryd.func30, Tryd.ntmps30
  go_wp2_with fail
  refine hC.out.mono ?_
  rintro e w1 ⟨x, rfl, b1, he⟩
  clear hC
  obtain ⟨q, a1, n1, c1, a2, n2, c2, rfl⟩ := he.shape
  obtain ⟨bb, bx2, hs2⟩ := err_box w1 (.int .i64 q) (.slice a1 n1 c1) (.slice a2 n2 c2)
  replace he := Lib.hid he
  go_upto_region 2 with fail
  obtain ⟨W2, hW2⟩ : ∃ W2 : World, W2 = w1.alloc (.cells #[.int .i64 q, .slice a1 n1 c1, .slice a2 n2 c2] 45) := ⟨_, rfl⟩
  rw [← hW2] at bb bx2 hs2 ⊢
  clear hW2
  obtain ⟨⟨y0, y1, y2⟩, _⟩ := bx2
  obtain ⟨eb, heb⟩ : ∃ eb, eb = w1.heap.size := ⟨_, rfl⟩
  rw [← heb] at y0 y1 y2 ⊢
  clear heb
  go_wp2_with fail
  refine (err_bad q a1 n1 c1 a2 n2 c2 W2).mono ?_
  rintro e w3 ⟨x, rfl, b3, rfl⟩
  have bW3 := Below.step bb b3
  have z0 := cell_keep b3 y0
  have z1 := cell_keep b3 y1
  have z2 := cell_keep b3 y2
  clear y0 y1 y2
  have bx3 := (bx.out.below b1).below bW3
  have b03 := Below.step b0 (Below.step b1 bW3)
  have he3 := he.out.below bW3
  have hsz3 : w.heap.size < w3.heap.size := by have := hsW.out; have := b1.size; have := bW3.size; omega
  cases hck : checkG G with
  | some t =>
    obtain ⟨n, l⟩ := t
    rw [hck] at he3
    have hn := checkG_num hck
    obtain rfl : q = n := by
      obtain ⟨_, _, _, _, _, _, e, _⟩ := he3
      simp at e; exact e.1
    rw [hn]
    obtain ⟨⟨r0, r1, r2⟩, f0, f1, f2⟩ := bx3
    replace he3 := Lib.hid he3
    replace hck := Lib.hid hck
    replace he := Lib.hid he
    have hE : pathE G a b = some (q, l) := by unfold pathE; rw [hck.out]
    replace hE := Lib.hid hE
    go_upto_region 3 with fail
    refine wp_region_plan (fun w' => w'.cell? ⟨eb, 0, none⟩ = some (.int .i64 q) ∧ w'.cell? ⟨eb, 1, none⟩ = some (.slice a1 n1 c1) ∧ w'.cell? ⟨eb, 2, none⟩ = some (.slice a2 n2 c2)) 2 [(0, true), (1, true)] (by kernel_rfl) (by kernel_rfl) ?_
    have hS : w3.drew.cell? ⟨eb, 0, none⟩ = some (.int .i64 q) ∧ w3.drew.cell? ⟨eb, 1, none⟩ = some (.slice a1 n1 c1) ∧ w3.drew.cell? ⟨eb, 2, none⟩ = some (.slice a2 n2 c2) := ⟨z0, z1, z2⟩
    refine headY (v := ?_) (some 13) rfl rfl (Or.inl ⟨by rfl, ?_⟩) hS ?_
    rotate_left
    · rintro W' ⟨s0, s1, s2⟩; go_simp; try with_reducible rfl
    simp only [Act.put, List.setIfInBounds_toArray, List.set_cons_zero, List.set_cons_succ]
    refine headY (v := ?_) (some 6) rfl rfl (Or.inl ⟨by rfl, ?_⟩) hS ?_
    rotate_left
    · rintro W' ⟨s0, s1, s2⟩; go_simp; try with_reducible rfl
    simp only [Act.put, List.setIfInBounds_toArray, List.set_cons_zero, List.set_cons_succ]
    refine head0 ?_
    simp only [List.drop_succ_cons, List.drop_zero]
    clear hS
    go_wp2
    refine NoPanic.normal ?_
    go_wp2
    refine bodyPost_ret (v := .tuple #[.slice none 0 0, .agg #[.int .i64 q, .slice a1 n1 c1, .slice a2 n2 c2]]) (by simp [results, Tryd.results30, go_sem, r0, r1, r2]) rfl ⟨_, _, rfl, below_set3 (below_drewN b03 1) (by simp) _ _ _, ?_⟩
    rw [hE.out]
    exact ⟨(he3.out.set3 (by have := hsW.out; omega) _ _ _).mono (by have := hsW.out; omega), ⟨(fun q => (by cases q)), (fun _ => rfl)⟩⟩
  | none =>
    rw [hck] at he3
    have hz : (q = 0 ∧ (a1 = none ∧ n1 = 0 ∧ c1 = 0) ∧ a2 = none ∧ n2 = 0 ∧ c2 = 0) := by
      have e : (Value.agg #[.int .i64 q, .slice a1 n1 c1, .slice a2 n2 c2]) = zErr := he3
      simpa using e
    obtain ⟨rfl, ⟨rfl, rfl, rfl⟩, rfl, rfl, rfl⟩ := hz
    rw [show ((0 : Int) != 0) = false from rfl]
    have hck2 := checkG_none hck
    replace hck2 := Lib.hid hck2
    replace hck := Lib.hid hck
    replace he := Lib.hid he
    replace bx := Lib.hid bx.out
    clear he3 z0 z1 z2
    have hE0 : pathE G a b = if outG G a then fresh sGraph 1 3 else if outG G b then fresh sGraph 2 3 else none := by unfold pathE; rw [hck.out]
    by_cases ha0 : a < 0
    · have hE : pathE G a b = fresh sGraph 1 3 := by rw [hE0, if_pos (.inl ha0)]
      replace hE0 := Lib.hid hE0
      replace hE := Lib.hid hE
      obtain ⟨⟨r0, r1, r2⟩, f0, f1, f2⟩ := bx3
      go_wp2_with fail
      refine (raw_new _ _ _ _).mono ?_
      rintro e w4 ⟨x, rfl, b4, he⟩
      obtain ⟨q, a1, n1, c1, a2, n2, c2, rfl⟩ := he.shape
      obtain ⟨s0, s1, s2⟩ := keep3 b4 ⟨r0, r1, r2⟩
      have g0 := (b4.frozen (p := ⟨w.heap.size, 0, none⟩) hsz3).trans f0
      have g1 := (b4.frozen (p := ⟨w.heap.size, 1, none⟩) hsz3).trans f1
      have g2 := (b4.frozen (p := ⟨w.heap.size, 2, none⟩) hsz3).trans f2
      replace he := Lib.hid he
      clear r0 r1 r2 f0 f1 f2
      go_wp2
      refine bodyPost_ret (v := .tuple #[.slice none 0 0, .agg #[.int .i64 q, .slice a1 n1 c1, .slice a2 n2 c2]]) (by simp [results, Tryd.results30, go_sem, s0, s1, s2]) rfl ⟨_, _, rfl, below_set3 (Below.step b03 b4) (by simp) _ _ _, ?_⟩
      rw [hE.out]
      exact ⟨(he.out.set3 hsz3 _ _ _).mono (by omega), ⟨(fun q => (by cases q)), (fun _ => rfl)⟩⟩
    by_cases ha1 : (G.length : Int) ≤ a
    · have hE : pathE G a b = fresh sGraph 1 3 := by rw [hE0, if_pos (.inr ha1)]
      replace hE0 := Lib.hid hE0
      replace hE := Lib.hid hE
      obtain ⟨⟨r0, r1, r2⟩, f0, f1, f2⟩ := bx3
      go_wp2_with fail
      refine (raw_new _ _ _ _).mono ?_
      rintro e w4 ⟨x, rfl, b4, he⟩
      obtain ⟨q, a1, n1, c1, a2, n2, c2, rfl⟩ := he.shape
      obtain ⟨s0, s1, s2⟩ := keep3 b4 ⟨r0, r1, r2⟩
      have g0 := (b4.frozen (p := ⟨w.heap.size, 0, none⟩) hsz3).trans f0
      have g1 := (b4.frozen (p := ⟨w.heap.size, 1, none⟩) hsz3).trans f1
      have g2 := (b4.frozen (p := ⟨w.heap.size, 2, none⟩) hsz3).trans f2
      replace he := Lib.hid he
      clear r0 r1 r2 f0 f1 f2
      go_wp2
      refine bodyPost_ret (v := .tuple #[.slice none 0 0, .agg #[.int .i64 q, .slice a1 n1 c1, .slice a2 n2 c2]]) (by simp [results, Tryd.results30, go_sem, s0, s1, s2]) rfl ⟨_, _, rfl, below_set3 (Below.step b03 b4) (by simp) _ _ _, ?_⟩
      rw [hE.out]
      exact ⟨(he.out.set3 hsz3 _ _ _).mono (by omega), ⟨(fun q => (by cases q)), (fun _ => rfl)⟩⟩
    rw [if_neg (by unfold outG; omega)] at hE0
    by_cases hb0 : b < 0
    · have hE : pathE G a b = fresh sGraph 2 3 := by rw [hE0, if_pos (.inl hb0)]
      replace hE0 := Lib.hid hE0
      replace hE := Lib.hid hE
      obtain ⟨⟨r0, r1, r2⟩, f0, f1, f2⟩ := bx3
      go_wp2_with fail
      refine (raw_new _ _ _ _).mono ?_
      rintro e w4 ⟨x, rfl, b4, he⟩
      obtain ⟨q, a1, n1, c1, a2, n2, c2, rfl⟩ := he.shape
      obtain ⟨s0, s1, s2⟩ := keep3 b4 ⟨r0, r1, r2⟩
      have g0 := (b4.frozen (p := ⟨w.heap.size, 0, none⟩) hsz3).trans f0
      have g1 := (b4.frozen (p := ⟨w.heap.size, 1, none⟩) hsz3).trans f1
      have g2 := (b4.frozen (p := ⟨w.heap.size, 2, none⟩) hsz3).trans f2
      replace he := Lib.hid he
      clear r0 r1 r2 f0 f1 f2
      go_wp2
      refine bodyPost_ret (v := .tuple #[.slice none 0 0, .agg #[.int .i64 q, .slice a1 n1 c1, .slice a2 n2 c2]]) (by simp [results, Tryd.results30, go_sem, s0, s1, s2]) rfl ⟨_, _, rfl, below_set3 (Below.step b03 b4) (by simp) _ _ _, ?_⟩
      rw [hE.out]
      exact ⟨(he.out.set3 hsz3 _ _ _).mono (by omega), ⟨(fun q => (by cases q)), (fun _ => rfl)⟩⟩
    by_cases hb1 : (G.length : Int) ≤ b
    · have hE : pathE G a b = fresh sGraph 2 3 := by rw [hE0, if_pos (.inr hb1)]
      replace hE0 := Lib.hid hE0
      replace hE := Lib.hid hE
      obtain ⟨⟨r0, r1, r2⟩, f0, f1, f2⟩ := bx3
      go_wp2_with fail
      refine (raw_new _ _ _ _).mono ?_
      rintro e w4 ⟨x, rfl, b4, he⟩
      obtain ⟨q, a1, n1, c1, a2, n2, c2, rfl⟩ := he.shape
      obtain ⟨s0, s1, s2⟩ := keep3 b4 ⟨r0, r1, r2⟩
      have g0 := (b4.frozen (p := ⟨w.heap.size, 0, none⟩) hsz3).trans f0
      have g1 := (b4.frozen (p := ⟨w.heap.size, 1, none⟩) hsz3).trans f1
      have g2 := (b4.frozen (p := ⟨w.heap.size, 2, none⟩) hsz3).trans f2
      replace he := Lib.hid he
      clear r0 r1 r2 f0 f1 f2
      go_wp2
      refine bodyPost_ret (v := .tuple #[.slice none 0 0, .agg #[.int .i64 q, .slice a1 n1 c1, .slice a2 n2 c2]]) (by simp [results, Tryd.results30, go_sem, s0, s1, s2]) rfl ⟨_, _, rfl, below_set3 (Below.step b03 b4) (by simp) _ _ _, ?_⟩
      rw [hE.out]
      exact ⟨(he.out.set3 hsz3 _ _ _).mono (by omega), ⟨(fun q => (by cases q)), (fun _ => rfl)⟩⟩
    rw [if_neg (by unfold outG; omega)] at hE0
    obtain ⟨x, rfl⟩ := Int.eq_ofNat_of_zero_le (show 0 ≤ a by omega)
    obtain ⟨y, rfl⟩ := Int.eq_ofNat_of_zero_le (show 0 ≤ b by omega)
    have hx : x < G.length := by omega
    have hy : y < G.length := by omega
    have ha1' : decide ((G.length : Int) ≤ (x : Int)) = false := by simp; omega
    have hb1' : decide ((G.length : Int) ≤ (y : Int)) = false := by simp; omega
    replace hE0 := Lib.hid hE0
    obtain ⟨⟨r0, r1, r2⟩, f0, f1, f2⟩ := bx3
    go_wp2_with fail
    refine (ref_way na nc G x y w3 (h.out.below b03) hck2.out.2.2 (by have := hck2.out.1; omega) hck2.out.2.1 hx hy).mono ?_
    rintro e w4 ⟨v, rfl, b4, hf⟩
    obtain ⟨s0, s1, s2⟩ := keep3 b4 ⟨r0, r1, r2⟩
    have g0 := (b4.frozen (p := ⟨w.heap.size, 0, none⟩) hsz3).trans f0
    have g1 := (b4.frozen (p := ⟨w.heap.size, 1, none⟩) hsz3).trans f1
    have g2 := (b4.frozen (p := ⟨w.heap.size, 2, none⟩) hsz3).trans f2
    replace hf := Lib.hid hf
    clear r0 r1 r2 f0 f1 f2
    go_wp2
    refine bodyPost_ret (v := .tuple #[v, zErr]) (by simp [results, Tryd.results30, go_sem, s0, s1, s2]) rfl ⟨_, _, rfl, below_set3 (Below.step b03 b4) (by simp) _ _ _, ?_⟩
    rw [hE0.out]
    refine ⟨rfl, ⟨(fun _ => ?_), (fun q => absurd rfl q)⟩⟩
    rw [Int.toNat_natCast, Int.toNat_natCast]
    exact hf.out.set3 hsz3 b03.size _ _ _
end Go.Proofs.YtdldadgnggaopaaDoor

namespace Go.Proofs.YtdldadgnggaopaaDoor
open Go.RowKit
set_option maxRecDepth 100000

/-- Arrows to v now lead to n. -/
def mapW (v n : Nat) (l : List Int) : List Int := l.map fun t => if t = (v : Int) then (n : Int) else t
theorem mapW_len (v n : Nat) (l : List Int) : (mapW v n l).length = l.length := by simp [mapW]
/-- The lists behind the first k. -/
def wideTo (G : List (List Int)) (v k : Nat) : Nat → List Int := fun u => if u < k then mapW v G.length (G.getD u []) else []
def wideG (G : List (List Int)) (v : Nat) : List (List Int) := rowsOf (G.length + 1) (wideTo G v G.length)
/-- Within a list: the first j. -/
def midW (v n : Nat) (l : List Int) (j : Nat) : List Int := mapW v n (l.take j) ++ l.drop j
theorem midW_zero (v n : Nat) (l : List Int) : midW v n l 0 = l := by simp [midW, mapW]
theorem midW_full (v n : Nat) (l : List Int) : midW v n l l.length = mapW v n l := by simp [midW]
theorem midW_len (v n : Nat) (l : List Int) (j : Nat) (hj : j ≤ l.length) : (midW v n l j).length = l.length := by simp [midW, mapW_len]; omega
theorem mapW_append (v n : Nat) (a b : List Int) : mapW v n (a ++ b) = mapW v n a ++ mapW v n b := by unfold mapW; exact List.map_append
theorem midW_next (v n : Nat) (l : List Int) (j : Nat) (hj : j < l.length) : midW v n l (j + 1) = mapW v n (l.take j) ++ (if l[j] = (v : Int) then (n : Int) else l[j]) :: l.drop (j + 1) := by
  unfold midW
  rw [take_snoc l j hj, mapW_append, List.append_assoc]
  rfl
theorem midW_now (v n : Nat) (l : List Int) (j : Nat) (hj : j < l.length) : midW v n l j = mapW v n (l.take j) ++ l[j] :: l.drop (j + 1) := by
  unfold midW
  rw [← List.drop_eq_getElem_cons hj]
theorem midW_step (v n : Nat) (l : List Int) (j : Nat) (hj : j < l.length) : midW v n l (j + 1) = (midW v n l j).set j (if l[j] = (v : Int) then (n : Int) else l[j]) := by
  have hl : (mapW v n (l.take j)).length = j := by rw [mapW_len, List.length_take]; omega
  rw [midW_next v n l j hj, midW_now v n l j hj, List.set_append_right _ _ (by omega), hl, Nat.sub_self, List.set_cons_zero]
theorem midW_same (v n : Nat) (l : List Int) (j : Nat) (hj : j < l.length) (he : l[j] ≠ (v : Int)) : midW v n l (j + 1) = midW v n l j := by
  rw [midW_next v n l j hj, midW_now v n l j hj, if_neg he]
theorem updN_updN {α : Type} (f : Nat → α) (k : Nat) (a b : α) : updN (updN f k a) k b = updN f k b := by
  funext x
  by_cases e : x = k
  · subst e; rw [updN_same, updN_same]
  · rw [updN_other _ _ _ e, updN_other _ _ _ e, updN_other _ _ _ e]
theorem wideTo_succ (G : List (List Int)) (v k : Nat) : updN (wideTo G v k) k (mapW v G.length (G.getD k [])) = wideTo G v (k + 1) := by
  funext u
  unfold wideTo
  by_cases e : u = k
  · subst e; rw [updN_same, if_pos (by omega)]
  · rw [updN_other _ _ _ e]
    by_cases q : u < k
    · rw [if_pos q, if_pos (by omega)]
    · rw [if_neg q, if_neg (by omega)]
theorem wideG_len (G : List (List Int)) (v : Nat) : (wideG G v).length = G.length + 1 := rowsOf_len _ _
theorem wideG_row (G : List (List Int)) (v u : Nat) (hu : u < G.length) : (wideG G v).getD u [] = mapW v G.length (G.getD u []) := by
  unfold wideG
  rw [rowsOf_get _ _ _ (by omega)]
  exact if_pos hu
theorem wideG_last (G : List (List Int)) (v : Nat) : (wideG G v).getD G.length [] = [] := by
  unfold wideG
  rw [rowsOf_get _ _ _ (by omega)]
  exact if_neg (by omega)
theorem wideG_ok {G : List (List Int)} (hok : GraphOk G) (v : Nat) : GraphOk (wideG G v) := by
  intro u hu t ht
  rw [wideG_len] at hu ⊢
  by_cases e : u < G.length
  · rw [wideG_row G v u e] at ht
    obtain ⟨x, hx, rfl⟩ := List.mem_map.1 ht
    have := hok u e x hx
    split <;> omega
  · obtain rfl : u = G.length := by omega
    rw [wideG_last] at ht; cases ht
theorem wide_adj {G : List (List Int)} (hok : GraphOk G) (v : Nat) {u : Nat} (hu : u < G.length) (t : Nat) : t ∈ adjOf (wideG G v) u ↔ (t ≠ v ∧ t ∈ adjOf G u ∧ t < G.length) ∨ (t = G.length ∧ v ∈ adjOf G u) := by
  unfold adjOf
  rw [wideG_row G v u hu]
  simp only [List.mem_map, mapW]
  constructor
  · rintro ⟨y, ⟨x, hx, rfl⟩, rfl⟩
    have := hok u hu x hx
    by_cases e : x = (v : Int)
    · rw [if_pos e]; exact .inr ⟨by simp, x, hx, by rw [e]; simp⟩
    · rw [if_neg e]; exact .inl ⟨by omega, ⟨x, hx, rfl⟩, by omega⟩
  · rintro (⟨h1, ⟨x, hx, rfl⟩, _⟩ | ⟨rfl, x, hx, he⟩)
    · have := hok u hu x hx
      exact ⟨x, ⟨x, hx, if_neg (by omega)⟩, rfl⟩
    · have := hok u hu x hx
      exact ⟨(G.length : Int), ⟨x, hx, if_pos (by omega)⟩, by simp⟩
theorem wide_end (G : List (List Int)) (v : Nat) : adjOf (wideG G v) G.length = [] := by unfold adjOf; rw [wideG_last]; rfl
/-- What Loop tells of its arguments. -/
def loopE (G : List (List Int)) (a : Int) : PErr :=
  match checkG G with
  | some t => some t
  | none => if outG G a then fresh sGraph 1 3 else none
theorem loopE_ok {G : List (List Int)} {x : Nat} (hc : checkG G = none) (hx : x < G.length) : loopE G x = none := by
  unfold loopE
  rw [hc]
  dsimp only
  rw [if_neg (by unfold outG; omega)]
def LoopWay (w : World) (G : List (List Int)) (v : Nat) (x : Value) (w' : World) : Prop :=
  (∃ u, IsFirst (adjOf (wideG G v)) v G.length u ∧ OwnI w.heap.size w' x (castI u.dropLast)) ∨ (¬ Goes (adjOf (wideG G v)) v G.length ∧ x = .slice none 0 0)
/-- What Loop leaves. -/
def LoopPost (r : Nat → Addr) (w : World) (G : List (List Int)) (a : Int) (x y : Value) (w' : World) : Prop :=
  ErrIs r w' (loopE G a) y ∧ (loopE G a = none → LoopWay w G a.toNat x w') ∧ (loopE G a ≠ none → x = .slice none 0 0)
/-- One's own slice, cut at its end. -/
theorem OwnI.cut {B : Nat} {w : World} {g m c : Nat} {xs : List Int} (h : OwnI B w (.slice (some ⟨g, 0, none⟩) (m + 1) c) xs) (hl : xs.length = m + 1) : OwnI B w (.slice (some ⟨g, 0, none⟩) m c) (xs.take m) := by
  rcases h.2 with ⟨e, _⟩ | ⟨g', cap', cur, e, hB, hg, hn, hm, hs, ht⟩
  · cases e
  · injection e with e1 e2 e3
    injection e1 with e1
    injection e1 with e1
    subst e1; subst e3
    have hml : (xs.take m).length = m := by simp; omega
    refine ⟨by simp, .inr ⟨g, c, cur, by rw [hml], hB, hg, by rw [hml]; omega, hm, hs, ?_⟩⟩
    rw [hml]
    rw [hl] at ht
    have := congrArg (List.take m) ht
    rw [List.take_take] at this
    simp only [Nat.mul_one] at this ⊢
    rw [Nat.min_eq_left (by omega)] at this
    rw [this, List.map_take]

set_option maxHeartbeats 1000000 in
theorem loopG_any (r : Nat → Addr) (na : Option Addr) (nc : Nat) (G : List (List Int)) (a : Int) (w : World) (hg : Glob r w) (h : ListsAt w (.slice na G.length nc) G) (hsz : ∀ k, k < G.length → (G.getD k []).length ≤ 17592186044416) :
    Calls Tryd.prog 31 #[.slice na G.length nc, .int .i64 a] w (Ret2 (LoopPost r w G a) w) := by
  have hC := graph_check r na nc G w hg h hsz
  cases hck : checkG G with
  | some t =>
    rw [hck] at hC
    have hp : loopE G a = some t := by unfold loopE; rw [hck]
    replace hp := Lib.hid hp
    replace hck := Lib.hid hck
    replace h := Lib.hid h
    replace hg := Lib.hid hg
    replace hsz := Lib.hid hsz
    go_enter Tryd.func31, Tryd.ntmps31
    go_wp2_with fail
    refine hC.mono ?_
    rintro e w1 ⟨y, rfl, b1, he⟩
    obtain ⟨T, p, rfl⟩ := he.some_shape
    replace he := Lib.hid he
    go_wp2
    go_ret2
    exact ⟨_, _, rfl, b1, ⟨by rw [hp.out]; exact he.out, ⟨fun q => (by rw [hp.out] at q; cases q), fun _ => rfl⟩⟩⟩
  | none =>
    rw [hck] at hC
    obtain ⟨hn, harr, hok⟩ := checkG_none hck
    by_cases ha : outG G a
    · have hp : loopE G a = fresh sGraph 1 3 := by unfold loopE; rw [hck]; dsimp only; rw [if_pos ha]
      replace hp := Lib.hid hp
      replace hck := Lib.hid hck
      replace h := Lib.hid h
      replace hg := Lib.hid hg
      replace hsz := Lib.hid hsz
      replace hok := Lib.hid hok
      rcases ha with ha | ha
      · go_enter Tryd.func31, Tryd.ntmps31
        go_wp2_with fail
        refine hC.mono ?_
        rintro e w1 ⟨y, rfl, b1, he⟩
        obtain rfl := he.none_eq
        clear he hC
        go_wp2_with fail
        refine (graph_wrong r _ _ _ (hg.out.below b1) (by decide) (by decide)).mono ?_
        rintro e w2 ⟨y, rfl, b2, he⟩
        replace he := Lib.hid he
        go_wp2
        go_ret2
        exact ⟨_, _, rfl, Below.step b1 b2, ⟨by rw [hp.out]; exact he.out, ⟨fun q => (by rw [hp.out] at q; cases q), fun _ => rfl⟩⟩⟩
      · have ha0 : ¬ a < 0 := by omega
        go_enter Tryd.func31, Tryd.ntmps31
        go_wp2_with fail
        refine hC.mono ?_
        rintro e w1 ⟨y, rfl, b1, he⟩
        obtain rfl := he.none_eq
        clear he hC
        go_wp2_with fail
        refine (graph_wrong r _ _ _ (hg.out.below b1) (by decide) (by decide)).mono ?_
        rintro e w2 ⟨y, rfl, b2, he⟩
        replace he := Lib.hid he
        go_wp2
        go_ret2
        exact ⟨_, _, rfl, Below.step b1 b2, ⟨by rw [hp.out]; exact he.out, ⟨fun q => (by rw [hp.out] at q; cases q), fun _ => rfl⟩⟩⟩
    · have ha1 : 0 ≤ a ∧ a < G.length := by unfold outG at ha; omega
      obtain ⟨ha1, ha2⟩ := ha1
      obtain ⟨v, rfl⟩ := Int.eq_ofNat_of_zero_le ha1
      have hv : v < G.length := by omega
      have hp : loopE G (v : Int) = none := loopE_ok hck hv
      have hd1 : decide ((v : Int) < 0) = false := by simp
      have hd2 : decide (G.length ≤ v) = false := by simp; omega
      clear ha ha1 ha2
      replace hp := Lib.hid hp
      replace hck := Lib.hid hck
      replace h := Lib.hid h
      replace hg := Lib.hid hg
      replace hsz := Lib.hid hsz
      replace hok := Lib.hid hok
      go_enter Tryd.func31, Tryd.ntmps31
      go_wp2_with fail
      refine hC.mono ?_
      rintro e w1 ⟨y', rfl, b1, he⟩
      obtain rfl := he.none_eq
      clear he hC
      obtain ⟨ov, w2, mk, ho, hb2⟩ := run_makeW oneLists ((G.length : Int) + 1) (G.length + 1) w1 (by omega) (by omega)
      obtain ⟨f1, hr1, h1⟩ := WN.made (G.length + 1) hb2 (Nat.le_refl _) ho
      have h1 : WN f1 ov (List.replicate (G.length + 1) (.slice none 0 0)) (G.length + 1) (wideTo G v 0) := by
        have : (fun _ : Nat => ([] : List Int)) = wideTo G v 0 := by funext u; unfold wideTo; rw [if_neg (by omega)]
        rw [← this]; exact h1
      obtain ⟨oa, on, oc, rfl⟩ := ho.shape
      replace ho := Lib.hid ho
      replace hr1 := Lib.hid hr1
      go_wp2_with fail
      clear mk
      go_loopw [35] (fun kv wr => ∃ (k : Nat) (f : Names) (vals : List Value), k ≤ G.length ∧ kv = .int .i64 k ∧ Rows w1.heap.size wr f ∧ Below w1.heap.size w1 wr ∧ WN f (.slice oa on oc) vals (G.length + 1) (wideTo G v k)) (fun kv _ => G.length - (intOf kv).toNat)
      case atStart => exact ⟨0, f1, _, by omega, rfl, hr1.out, hb2, h1⟩
      case round =>
        clear h1 ho hr1
        obtain ⟨k, f2, vals, hk, rfl, hr2, b2, h2⟩ := hrel
        obtain ⟨wo, rfl⟩ : ∃ wo : World, wo = wr := ⟨_, rfl⟩
        by_cases hlt : k < G.length
        · obtain ⟨mv, iR, cR0, hM0⟩ := h.out.row k hlt
          have hbw : Below w.heap.size w wo := b1.trans (b2.mono b1.size)
          have cR := (hbw.cell (World.block_lt_of_cell? _ _ cR0)).trans cR0
          have hM := hM0.below hbw
          have hglen := hsz.out k hlt
          have hsucc := wideTo_succ G v k
          generalize G.getD k [] = gk at *
          have hcl := clone_any mv gk wo hM hglen
          have hOV := (hr2.ownV h2.outer).at
          have iO := fun w' => hOV.idx oneLists k (by rw [h2.len]; omega) w'
          have hput := fun (w1' : World) (v' : Value) (xs : List Int) => h2.put (B := w1.heap.size) (w1 := w1') (u := k) (by omega) (v' := v') (xs := xs)
          have hnew := fun (w1' : World) (v' : Value) (xs : List Int) => h2.new (B := w1.heap.size) hr2 (w1 := w1') k (v' := v') (xs := xs)
          have hBo := b2.size
          generalize valAt (.slice na G.length nc) k = ra at *
          obtain ⟨ua, hua⟩ : ∃ ua, valAt (.slice oa on oc) k = ua := ⟨_, rfl⟩
          rw [hua] at iO
          simp only [hua] at hput
          replace hua := Lib.hid hua
          replace hput := Lib.hid hput
          replace hnew := Lib.hid hnew
          replace hOV := Lib.hid hOV
          replace hr2 := Lib.hid hr2
          replace hM := Lib.hid hM
          replace hM0 := Lib.hid hM0
          replace hcl := Lib.hid hcl
          replace hsucc := Lib.hid hsucc
          go_wp2_with fail
          clear cR cR0 iR hbw
          refine hcl.out.mono ?_
          rintro e w3 ⟨cv, rfl, b3, hcv⟩
          have hR3 := hnew.out w3 cv gk b3 hBo hcv
          obtain ⟨y1, y2, y3, f4, hr4, h4, _⟩ := hput.out w3 cv gk hR3
          obtain ⟨va, vn, vc, rfl⟩ := hcv.at.shape
          have b4 : Below w1.heap.size w1 (w3.setCell ua (.slice va vn vc)) := (b2.trans (b3.mono hBo)).setCell y3 _
          have h4 : WN f4 (.slice oa on oc) (vals.set k (.slice va vn vc)) (G.length + 1) (updN (wideTo G v k) k (midW v G.length gk 0)) := by rw [midW_zero]; exact h4
          have lM := (hM0.out.below (b1.trans (b4.mono b1.size))).len
          obtain ⟨W4, hW4⟩ : ∃ W4 : World, W4 = w3.setCell ua (.slice va vn vc) := ⟨_, rfl⟩
          rw [← hW4] at hr4 b4
          replace hr4 := Lib.hid hr4
          replace hR3 := Lib.hid hR3
          replace hcv := Lib.hid hcv
          clear hcl
          go_upto_region 12 with fail
          rw [← hW4]
          clear hW4 y1 y2 iO
          go_wp2_with fail
          clear lM
          generalize vals.set k (.slice va vn vc) = vals at *
          go_loopw [47] (fun jv wr => ∃ (j : Nat) (f : Names) (vals : List Value), j ≤ gk.length ∧ jv = .int .i64 j ∧ Rows w1.heap.size wr f ∧ Below w1.heap.size w1 wr ∧ WN f (.slice oa on oc) vals (G.length + 1) (updN (wideTo G v k) k (midW v G.length gk j))) (fun jv _ => gk.length - (intOf jv).toNat)
          case atStart => exact ⟨0, f4, _, by omega, rfl, hr4.out, b4, h4⟩
          case round =>
            clear hr4 h4 b4 hR3 hcv hM hr2 hnew hput hOV y3
            obtain ⟨j, f5, vals, hj, rfl, hr5, b5, h5⟩ := hrel
            obtain ⟨wo, rfl⟩ : ∃ wo : World, wo = wr := ⟨_, rfl⟩
            by_cases hjl : j < gk.length
            · have hMj := hM0.out.below (b1.trans (b5.mono b1.size))
              have iJ := fun w' => hMj.idx j hjl w'
              have cJ := hMj.cell j hjl
              generalize valAt mv j = ja at *
              have hstep := midW_step v G.length gk j hjl
              have hsame := midW_same v G.length gk j hjl
              obtain ⟨t, ht⟩ : ∃ t, gk[j] = t := ⟨_, rfl⟩
              rw [ht] at cJ hstep hsame
              replace hMj := Lib.hid hMj
              replace ht := Lib.hid ht
              by_cases htv : t = (v : Int)
              · have hq : (t == (v : Int)) = true := by simp [htv]
                rw [if_pos htv] at hstep
                have hOV := (hr5.ownV h5.outer).at
                have iO := fun w' => hOV.idx oneLists k (by rw [h5.len]; omega) w'
                have cO := hOV.cellV k (by rw [h5.len]; omega)
                have hrow := hr5.ownI (h5.rows k (by omega))
                rw [updN_same] at hrow
                have hml : (midW v G.length gk j).length = gk.length := midW_len _ _ _ _ hj
                have iE := fun w' => hrow.at.idx j (by rw [hml]; exact hjl) w'
                have cE := hrow.at.cellD j (by rw [hml]; exact hjl)
                have fE := hrow.frz j (by rw [hml]; exact hjl)
                have kE := (hrow.toV.blkB j (by rw [List.length_map, hml]; exact hjl)).2
                obtain ⟨f6, hr6, h6⟩ := h5.elem hr5 k (by omega) j (by rw [updN_same, hml]; exact hjl) (G.length : Int)
                rw [updN_same, ← hstep, updN_updN] at h6
                have b6 : Below w1.heap.size w1 (wo.setCell (valAt (vAt vals k) j) (.int .i64 (G.length : Int))) := b5.setCell kE _
                generalize valAt (vAt vals k) j = ea at *
                generalize vAt vals k = ev at *
                generalize valAt (.slice oa on oc) k = ua at *
                generalize (midW v G.length gk j).getD j 0 = eo at *
                subst htv
                replace hr6 := Lib.hid hr6
                replace hr5 := Lib.hid hr5
                replace hOV := Lib.hid hOV
                replace hrow := Lib.hid hrow
                replace hstep := Lib.hid hstep
                replace hsame := Lib.hid hsame
                replace hml := Lib.hid hml
                go_wp2
                go_roundw
                case measure => simp [intOf]; omega
                case rel => exact ⟨j + 1, f6, vals, by omega, by go_num, hr6.out, b6, h6⟩
              · have hq : (t == (v : Int)) = false := by simp [htv]
                have h6 := h5
                rw [← hsame htv] at h6
                replace hr5 := Lib.hid hr5
                replace hstep := Lib.hid hstep
                replace hsame := Lib.hid hsame
                go_wp2
                go_roundw
                case measure => simp [intOf]; omega
                case rel => exact ⟨j + 1, f5, vals, by omega, by go_num, hr5.out, b5, h6⟩
            · obtain rfl : j = gk.length := by omega
              rw [midW_full, hsucc.out] at h5
              replace hr5 := Lib.hid hr5
              go_wp2
              go_roundw
              case measure => simp [intOf]; omega
              case rel => exact ⟨k + 1, f5, vals, by omega, by go_num, hr5.out, b5, h5⟩
        · obtain rfl : k = G.length := by omega
          have hWL := h2.lists hr2
          have hWL : ListsAt wo (.slice oa on oc) (wideG G v) := hWL
          obtain ⟨oa', oc', he⟩ := hWL.shape
          injection he with he1 he2 he3
          clear he1 he3
          rw [he2] at hWL
          have hF := first_any oa oc (wideG G v) v G.length wo hWL (wideG_ok hok.out v) (by rw [wideG_len]; omega) (by rw [wideG_len]; omega) (by rw [wideG_len]; omega) (fun u hu => by
            rw [wideG_len] at hu
            by_cases e : u < G.length
            · rw [wideG_row G v u e, mapW_len]; exact hsz.out u e
            · obtain rfl : u = G.length := by omega
              rw [wideG_last]; exact Nat.zero_le _)
          rw [← he2] at hF
          replace hF := Lib.hid hF
          replace he2 := Lib.hid he2
          replace hWL := Lib.hid hWL
          replace hr2 := Lib.hid hr2
          go_wp2_with fail
          refine hF.out.mono ?_
          rintro e w5 ⟨xv, rfl, b5, hx⟩
          have hbw : Below w.heap.size w wo := b1.trans (b2.mono b1.size)
          rcases hx with ⟨u, hu, hxo⟩ | ⟨hno, rfl⟩
          · have hul := hu.way.pos
            obtain ⟨g, c, e1, e2⟩ := row_shape (show w5.ownsRow wo.heap.size 3 1 xv (castI u).length ((castI u).map (Value.int .i64)) from hxo) (by rw [castI_len]; exact hul)
            obtain ⟨m, hm⟩ : ∃ m, u.length = m + 1 := ⟨u.length - 1, by omega⟩
            rw [castI_len, hm] at e1 e2
            subst e1
            have hcut := hxo.cut (by rw [castI_len, hm])
            have hdl : (castI u).take m = castI u.dropLast := by
              unfold castI
              rw [List.dropLast_eq_take, hm, ← List.map_take]; rfl
            rw [hdl] at hcut
            have hmb : m ≤ 9223372036854775806 := by
              have := hxo.at.len_le
              rw [castI_len, hm] at this; omega
            have hwr : IntKind.i64.wrap (m : Int) = m := wrapK (by omega) (by omega)
            have hsl : (0 ≤ (m : Int) ∧ (m : Int) ≤ (c : Int)) := ⟨by omega, by omega⟩
            have hne : (((m : Int) + 1) == 0) = false := by rw [beq_eq_false_iff_ne]; omega
            replace hcut := Lib.hid hcut
            replace hxo := Lib.hid hxo
            replace hdl := Lib.hid hdl
            replace hm := Lib.hid hm
            go_wp2
            go_ret2
            exact ⟨_, _, rfl, Below.step hbw b5, ⟨by rw [hp.out]; rfl, ⟨fun _ => by rw [Int.toNat_natCast]; exact .inl ⟨u, hu, hcut.out.mono hbw.size⟩, fun q => absurd hp.out q⟩⟩⟩
          · replace hno := Lib.hid hno
            go_wp2
            go_ret2
            exact ⟨_, _, rfl, Below.step hbw b5, ⟨by rw [hp.out]; rfl, ⟨fun _ => by rw [Int.toNat_natCast]; exact .inr ⟨hno.out, rfl⟩, fun q => absurd hp.out q⟩⟩⟩
end Go.Proofs.YtdldadgnggaopaaDoor

namespace Go.Proofs.YtdldadgnggaopaaDoor
open Go.RowKit
set_option maxRecDepth 100000

def sixG : List (List Int) := [[1], [2], [1, 3], [4], [4], [0]]
theorem six_check : checkG sixG = none := by rfl
theorem six_ok : GraphOk sixG := (checkG_none six_check).2.2
theorem six_sz : ∀ k, k < sixG.length → (sixG.getD k []).length ≤ 17592186044416 := by
  intro k hk
  have : k < 6 := hk
  match k, this with
  | 0, _ => decide
  | 1, _ => decide
  | 2, _ => decide
  | 3, _ => decide
  | 4, _ => decide
  | 5, _ => decide
/-- A number for each vertex that no arrow lowers. -/
def rk6 (v : Nat) : Nat := [1, 2, 2, 3, 4, 0].getD v 9
theorem adj6 (v : Nat) : adjOf sixG v = [[1], [2], [1, 3], [4], [4], [0]].getD v [] := by
  match v with
  | 0 => rfl
  | 1 => rfl
  | 2 => rfl
  | 3 => rfl
  | 4 => rfl
  | 5 => rfl
  | n + 6 => rfl
theorem rk6_step {x t : Nat} (ht : t ∈ adjOf sixG x) : rk6 x ≤ rk6 t := by
  rw [adj6] at ht
  match x, ht with
  | 0, ht => simp at ht; subst ht; decide
  | 1, ht => simp at ht; subst ht; decide
  | 2, ht => simp at ht; rcases ht with rfl | rfl <;> decide
  | 3, ht => simp at ht; subst ht; decide
  | 4, ht => simp at ht; subst ht; decide
  | 5, ht => simp at ht; subst ht; decide
  | n + 6, ht => simp at ht
theorem rk6_goes {x y : Nat} (h : Goes (adjOf sixG) x y) : rk6 x ≤ rk6 y := by
  induction h with
  | refl => exact Nat.le_refl _
  | step _ hz ih => exact Nat.le_trans ih (rk6_step hz)
theorem g01 : Goes (adjOf sixG) 0 1 := .one (by rw [adj6]; decide)
theorem g12 : Goes (adjOf sixG) 1 2 := .one (by rw [adj6]; decide)
theorem g21 : Goes (adjOf sixG) 2 1 := .one (by rw [adj6]; decide)
theorem g23 : Goes (adjOf sixG) 2 3 := .one (by rw [adj6]; decide)
theorem g34 : Goes (adjOf sixG) 3 4 := .one (by rw [adj6]; decide)
theorem six_parts {ps : List Int} (h : PartsOf sixG.length (adjOf sixG) ps) : ps = [0, 1, 1, 2, 3, 4] := by
  obtain ⟨p, hp, rfl⟩ := h
  have ne : ∀ x y, x < 6 → y < 6 → rk6 x ≠ rk6 y → p x ≠ p y := fun x y hx hy hr he => by
    obtain ⟨a, b⟩ := (hp x y hx hy).1 he
    have := rk6_goes a
    have := rk6_goes b
    omega
  have e12 : p 2 = p 1 := (hp 2 1 (by decide) (by decide)).2 ⟨g21, g12⟩
  have h10 := ne 1 0 (by decide) (by decide) (by decide)
  have h30 := ne 3 0 (by decide) (by decide) (by decide)
  have h31 := ne 3 1 (by decide) (by decide) (by decide)
  have h40 := ne 4 0 (by decide) (by decide) (by decide)
  have h41 := ne 4 1 (by decide) (by decide) (by decide)
  have h43 := ne 4 3 (by decide) (by decide) (by decide)
  have h50 := ne 5 0 (by decide) (by decide) (by decide)
  have h51 := ne 5 1 (by decide) (by decide) (by decide)
  have h53 := ne 5 3 (by decide) (by decide) (by decide)
  have h54 := ne 5 4 (by decide) (by decide) (by decide)
  have o0 : numO p 0 = 0 := by simp [numO, numM, updM]
  have o1 : numO p 1 = 1 := by simp [numO, numM, updM, h10]
  have o2 : numO p 2 = 1 := by rw [(numO_eq p 2 1).2 e12]; exact o1
  have m2 : numM p 3 = numM p 2 := by
    show (if _ then _ else _) = _
    rw [if_pos]
    rw [e12]
    have := numM_own p 1
    rw [this]; rfl
  have m2s : (numM p 2).2 = 2 := by simp [numM, updM, h10]
  have m2n : ∀ q, q ≠ p 0 → q ≠ p 1 → (numM p 2).1 q = none := fun q h0 h1 => by simp [numM, updM, h10, h0, h1]
  have m3 : numM p 4 = (updM (numM p 2).1 (p 3) 2, 3) := by
    show (if ((numM p 3).1 (p 3)).isSome then _ else _) = _
    rw [m2, m2n _ h30 h31, m2s]; rfl
  have o3 : numO p 3 = 2 := by unfold numO; rw [m3]; simp [updM]
  have m4 : numM p 5 = (updM (updM (numM p 2).1 (p 3) 2) (p 4) 3, 4) := by
    have e : (updM (numM p 2).1 (p 3) 2) (p 4) = none := by unfold updM; rw [if_neg h43]; exact m2n _ h40 h41
    show (if ((numM p 4).1 (p 4)).isSome then _ else _) = _
    rw [if_neg (by rw [m3]; show ¬ ((updM (numM p 2).1 (p 3) 2) (p 4)).isSome = true; rw [e]; decide), m3]; rfl
  have o4 : numO p 4 = 3 := by unfold numO; rw [m4]; simp [updM]
  have m5 : numM p 6 = (updM (updM (updM (numM p 2).1 (p 3) 2) (p 4) 3) (p 5) 4, 5) := by
    have e : (updM (updM (numM p 2).1 (p 3) 2) (p 4) 3) (p 5) = none := by unfold updM; rw [if_neg h54, if_neg h53]; exact m2n _ h50 h51
    show (if ((numM p 5).1 (p 5)).isSome then _ else _) = _
    rw [if_neg (by rw [m4]; show ¬ ((updM (updM (numM p 2).1 (p 3) 2) (p 4) 3) (p 5)).isSome = true; rw [e]; decide), m4]; rfl
  have o5 : numO p 5 = 4 := by unfold numO; rw [m5]; simp [updM]
  show [numO p 0, numO p 1, numO p 2, numO p 3, numO p 4, numO p 5] = _
  rw [o0, o1, o2, o3, o4, o5]
theorem six_live {L : List Nat} (h : LiveList sixG.length (adjOf sixG) L) : L = [1, 2, 3, 4] := by
  refine h.unique ⟨by decide, fun v => ?_⟩
  have l1 : OnLoop (adjOf sixG) 1 := ⟨2, by rw [adj6]; decide, g21⟩
  have l4 : OnLoop (adjOf sixG) 4 := ⟨4, by rw [adj6]; decide, .refl 4⟩
  have onl : ∀ u, OnLoop (adjOf sixG) u → u < 6 → 2 ≤ rk6 u := fun u ⟨t, ht, hg⟩ hu => by
    rw [adj6] at ht
    match u, ht, hu with
    | 0, ht, _ => simp at ht; subst ht; have := rk6_goes hg; exact absurd this (by decide)
    | 1, _, _ => decide
    | 2, _, _ => decide
    | 3, _, _ => decide
    | 4, _, _ => decide
    | 5, ht, _ => simp at ht; subst ht; have := rk6_goes hg; exact absurd this (by decide)
    | n + 6, _, hu => omega
  constructor
  · intro hv
    simp at hv
    rcases hv with rfl | rfl | rfl | rfl
    · exact ⟨by decide, ⟨1, by decide, l1, .refl 1⟩, 4, by decide, l4, g12.trans (g23.trans g34)⟩
    · exact ⟨by decide, ⟨1, by decide, l1, g12⟩, 4, by decide, l4, g23.trans g34⟩
    · exact ⟨by decide, ⟨1, by decide, l1, g12.trans g23⟩, 4, by decide, l4, g34⟩
    · exact ⟨by decide, ⟨1, by decide, l1, g12.trans (g23.trans g34)⟩, 4, by decide, l4, .refl 4⟩
  · rintro ⟨hv, ⟨u, hu, h1, h2⟩, _⟩
    have a := onl u h1 hu
    have b := rk6_goes h2
    have hv : v < 6 := hv
    match v, hv, b with
    | 0, _, b => exact absurd (Nat.le_trans a b) (by decide)
    | 1, _, _ => decide
    | 2, _, _ => decide
    | 3, _, _ => decide
    | 4, _, _ => decide
    | 5, _, b => exact absurd (Nat.le_trans a b) (by decide)
    | n + 6, hv, _ => omega
/-- How many arrows to 4, at the least. -/
def ds6 (v : Nat) : Nat := [4, 3, 2, 1, 0, 5].getD v 9
theorem ds6_way {x y : Nat} {w : List Nat} (h : Way (adjOf sixG) x y w) : y = 4 → ds6 x + 1 ≤ w.length := by
  induction h with
  | one x => intro h; subst h; decide
  | @cons x t y w ht h ih =>
    intro hy
    have := ih hy
    have hx : ds6 x ≤ ds6 t + 1 := by
      rw [adj6] at ht
      match x, ht with
      | 0, ht => simp at ht; subst ht; decide
      | 1, ht => simp at ht; subst ht; decide
      | 2, ht => simp at ht; rcases ht with rfl | rfl <;> decide
      | 3, ht => simp at ht; subst ht; decide
      | 4, ht => simp at ht; subst ht; decide
      | 5, ht => simp at ht; subst ht; decide
      | n + 6, ht => simp at ht
    simp only [List.length_cons]; omega
theorem six_path {u : List Nat} (h : IsFirst (adjOf sixG) 0 4 u) : u = [0, 1, 2, 3, 4] := by
  have hw : Way (adjOf sixG) 0 4 [0, 1, 2, 3, 4] := .cons (by rw [adj6]; decide) (.cons (by rw [adj6]; decide) (.cons (by rw [adj6]; decide) (.cons (by rw [adj6]; decide) (.one 4))))
  have h5 := h.short _ hw
  have hu := h.way
  cases hu with
  | cons ht h1 =>
    rw [adj6] at ht; simp at ht; subst ht
    cases h1 with
    | cons ht h2 =>
      rw [adj6] at ht; simp at ht; subst ht
      cases h2 with
      | cons ht h3 =>
        rw [adj6] at ht; simp at ht
        rcases ht with rfl | rfl
        · have := ds6_way h3 rfl
          simp only [List.length_cons] at h5
          have e : ds6 1 = 3 := rfl
          simp at h5
          omega
        · cases h3 with
          | cons ht h4 =>
            rw [adj6] at ht; simp at ht; subst ht
            cases h4 with
            | one => rfl
            | cons ht h6 =>
              have := h6.pos
              simp only [List.length_cons, List.length_nil] at h5
              omega
theorem six_goes : Goes (adjOf sixG) 0 4 := g01.trans (g12.trans (g23.trans g34))

set_option maxHeartbeats 1000000 in
theorem six_any (w : World) : Calls Tryd.prog 57 #[] w (Ret1 (fun x w' => ∃ na nc, x = .slice na sixG.length nc ∧ ListsAt w' x sixG) w) := by
  go_enter Tryd.func57, Tryd.ntmps57
  go_wp2
  go_ret
  have hr : ∀ W' : World, W' = (((((((w.alloc (.cells #[.int .i64 1] 3)).alloc (.cells #[.int .i64 2] 3)).alloc (.cells #[.int .i64 1, .int .i64 3] 3)).alloc (.cells #[.int .i64 4] 3)).alloc (.cells #[.int .i64 4] 3)).alloc (.cells #[.int .i64 0] 3)).alloc
      (.cells #[.slice (some ⟨w.heap.size, 0, none⟩) 1 1, .slice (some ⟨w.heap.size + 1, 0, none⟩) 1 1, .slice (some ⟨w.heap.size + 1 + 1, 0, none⟩) 2 2, .slice (some ⟨w.heap.size + 1 + 1 + 1, 0, none⟩) 1 1, .slice (some ⟨w.heap.size + 1 + 1 + 1 + 1, 0, none⟩) 1 1, .slice (some ⟨w.heap.size + 1 + 1 + 1 + 1 + 1, 0, none⟩) 1 1] 22)) →
      Below w.heap.size w W' ∧ ListsAt W' (.slice (some ⟨w.heap.size + 1 + 1 + 1 + 1 + 1 + 1, 0, none⟩) 6 6) sixG := by
    intro W' hW'
    obtain ⟨W1, e1⟩ : ∃ W1 : World, W1 = w.alloc (.cells #[.int .i64 1] 3) := ⟨_, rfl⟩
    rw [← e1] at hW'
    obtain ⟨W2, e2⟩ : ∃ W2 : World, W2 = W1.alloc (.cells #[.int .i64 2] 3) := ⟨_, rfl⟩
    rw [← e2] at hW'
    obtain ⟨W3, e3⟩ : ∃ W3 : World, W3 = W2.alloc (.cells #[.int .i64 1, .int .i64 3] 3) := ⟨_, rfl⟩
    rw [← e3] at hW'
    obtain ⟨W4, e4⟩ : ∃ W4 : World, W4 = W3.alloc (.cells #[.int .i64 4] 3) := ⟨_, rfl⟩
    rw [← e4] at hW'
    obtain ⟨W5, e5⟩ : ∃ W5 : World, W5 = W4.alloc (.cells #[.int .i64 4] 3) := ⟨_, rfl⟩
    rw [← e5] at hW'
    obtain ⟨W6, e6⟩ : ∃ W6 : World, W6 = W5.alloc (.cells #[.int .i64 0] 3) := ⟨_, rfl⟩
    rw [← e6] at hW'
    have s1 : W1.heap.size = w.heap.size + 1 := by rw [e1]; simp
    have s2 : W2.heap.size = W1.heap.size + 1 := by rw [e2]; simp
    have s3 : W3.heap.size = W2.heap.size + 1 := by rw [e3]; simp
    have s4 : W4.heap.size = W3.heap.size + 1 := by rw [e4]; simp
    have s5 : W5.heap.size = W4.heap.size + 1 := by rw [e5]; simp
    have s6 : W6.heap.size = W5.heap.size + 1 := by rw [e6]; simp
    rw [← s1, ← s2, ← s3, ← s4, ← s5] at hW'
    rw [← s1, ← s2, ← s3, ← s4, ← s5, ← s6]
    have lit : ∀ (W V : World) (xs : List Int) (cs : Array Value), V = W.alloc (.cells cs 3) → cs.toList = xs.map (Value.int .i64) → xs.length ≤ 10 → Below W.heap.size W V ∧ IntsAt V (.slice (some ⟨W.heap.size, 0, none⟩) xs.length xs.length) xs := by
      intro W V xs cs hV hc hl
      subst hV
      exact ⟨belowAlloc W _, (OwnI.lit W.heap.size W (Nat.le_refl _) xs (by unfold maxLen; omega) cs hc xs.length rfl).at⟩
    obtain ⟨b1, i1⟩ := lit w W1 [1] _ e1 rfl (by decide)
    obtain ⟨b2, i2⟩ := lit W1 W2 [2] _ e2 rfl (by decide)
    obtain ⟨b3, i3⟩ := lit W2 W3 [1, 3] _ e3 rfl (by decide)
    obtain ⟨b4, i4⟩ := lit W3 W4 [4] _ e4 rfl (by decide)
    obtain ⟨b5, i5⟩ := lit W4 W5 [4] _ e5 rfl (by decide)
    obtain ⟨b6, i6⟩ := lit W5 W6 [0] _ e6 rfl (by decide)
    have b7 : Below W6.heap.size W6 W' := by rw [hW']; exact belowAlloc W6 _
    have b26 := Below.step b3 (Below.step b4 (Below.step b5 b6))
    refine ⟨Below.step b1 (Below.step b2 (Below.step b26 b7)), [.slice (some ⟨w.heap.size, 0, none⟩) 1 1, .slice (some ⟨W1.heap.size, 0, none⟩) 1 1, .slice (some ⟨W2.heap.size, 0, none⟩) 2 2, .slice (some ⟨W3.heap.size, 0, none⟩) 1 1, .slice (some ⟨W4.heap.size, 0, none⟩) 1 1, .slice (some ⟨W5.heap.size, 0, none⟩) 1 1], ?_, rfl, fun i hi => ?_⟩
    · have hown : OwnV 22 W6.heap.size W' (.slice (some ⟨W6.heap.size, 0, none⟩) 6 6) [.slice (some ⟨w.heap.size, 0, none⟩) 1 1, .slice (some ⟨W1.heap.size, 0, none⟩) 1 1, .slice (some ⟨W2.heap.size, 0, none⟩) 2 2, .slice (some ⟨W3.heap.size, 0, none⟩) 1 1, .slice (some ⟨W4.heap.size, 0, none⟩) 1 1, .slice (some ⟨W5.heap.size, 0, none⟩) 1 1] := by
        rw [hW']
        exact ⟨rfl, .inr ⟨W6.heap.size, 6, _, rfl, Nat.le_refl _, heap_alloc_new W6 _, Nat.le_refl _, by unfold maxLen; omega, rfl, rfl⟩⟩
      exact hown.at
    · have hi : i < 6 := hi
      match i, hi with
      | 0, _ => exact ((i1.below b2).below b26).below b7
      | 1, _ => exact (i2.below b26).below b7
      | 2, _ => exact (i3.below (Below.step b4 (Below.step b5 b6))).below b7
      | 3, _ => exact (i4.below (Below.step b5 b6)).below b7
      | 4, _ => exact (i5.below b6).below b7
      | 5, _ => exact i6.below b7
      | n + 6, hi => omega
  have := hr _ rfl
  exact ⟨_, rfl, this.1, _, _, rfl, this.2⟩
end Go.Proofs.YtdldadgnggaopaaDoor
