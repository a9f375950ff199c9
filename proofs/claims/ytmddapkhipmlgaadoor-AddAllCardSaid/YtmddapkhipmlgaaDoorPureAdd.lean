/-
  Plain mathematics of layer 18: the table of a sum, the factors of a rule.
-/
import Derived.Test.YtmddapkhipmlgaaDoorPure
namespace Go.Proofs.YtmddapkhipmlgaaDoor

/-- One entry's followers. -/
def sumRow (K : Nat) (x y : Int) (s : Nat) : List Int := (List.range s).map fun (t : Nat) => (y + x * t) % K
/-- The table's next state. -/
def sumStep (K : Nat) (x : Int) (T : List Int) : List Int := T.flatMap fun y => sumRow K x y K
def sumTable (K : Nat) : List Int → List Int → List Int
  | T, [] => T
  | T, x :: f => sumTable K (sumStep K x T) f
/-- The table of a sum. -/
def sumT (K : Nat) (f : List Int) : List Int := sumTable K [0] f

theorem sumRow_length (K : Nat) (x y : Int) (s : Nat) : (sumRow K x y s).length = s := by simp [sumRow]
theorem sumRow_succ (K : Nat) (x y : Int) (s : Nat) : sumRow K x y (s + 1) = sumRow K x y s ++ [(y + x * s) % K] := by simp [sumRow, List.range_succ]
theorem sumStep_length (K : Nat) (x : Int) (T : List Int) : (sumStep K x T).length = T.length * K := by
  induction T with
  | nil => simp [sumStep]
  | cons y T ih => simp only [sumStep, List.flatMap_cons, List.length_append, sumRow_length, List.length_cons] at *; rw [ih, Nat.succ_mul]; omega
theorem sumStep_snoc (K : Nat) (x y : Int) (T : List Int) : sumStep K x (T ++ [y]) = sumStep K x T ++ sumRow K x y K := by simp [sumStep]
theorem sumStep_nil (K : Nat) (x : Int) : sumStep K x [] = [] := rfl
theorem sumTable_snoc (K : Nat) (T f : List Int) (x : Int) : sumTable K T (f ++ [x]) = sumStep K x (sumTable K T f) := by
  induction f generalizing T with
  | nil => rfl
  | cons y f ih => exact ih _
theorem sumTable_length (K : Nat) (T f : List Int) : (sumTable K T f).length = T.length * pw K f.length := by
  induction f generalizing T with
  | nil => simp [sumTable, pw]
  | cons y f ih => rw [sumTable, ih, sumStep_length, List.length_cons, pw_succ, Nat.mul_assoc, Nat.mul_comm K]
theorem sumT_length (K : Nat) (f : List Int) : (sumT K f).length = pw K f.length := by rw [sumT, sumTable_length]; simp
theorem sumRow_syms {K : Nat} (hK : 1 ≤ K) (x y : Int) (s : Nat) : Syms K (sumRow K x y s) := by
  intro z hz
  obtain ⟨t, _, rfl⟩ := List.mem_map.1 hz
  exact ⟨Int.emod_nonneg _ (by omega), Int.emod_lt_of_pos _ (by omega)⟩
theorem sumStep_syms {K : Nat} (hK : 1 ≤ K) (x : Int) (T : List Int) : Syms K (sumStep K x T) := by
  intro z hz
  obtain ⟨y, _, h⟩ := List.mem_flatMap.1 hz
  exact sumRow_syms hK x y K z h
theorem sumTable_syms {K : Nat} (hK : 1 ≤ K) (T f : List Int) (hT : Syms K T) : Syms K (sumTable K T f) := by
  induction f generalizing T with
  | nil => exact hT
  | cons y f ih => exact ih _ (sumStep_syms hK y T)
theorem sumT_syms {K : Nat} (hK : 1 ≤ K) (f : List Int) : Syms K (sumT K f) := sumTable_syms hK _ _ (by intro x hx; simp at hx; omega)
theorem take_snoc (l : List Int) (k : Nat) (h : k < l.length) : l.take (k + 1) = l.take k ++ [l[k]] := by rw [List.take_succ_eq_append_getElem h]

/-- additive.numbers' answer. -/
def numP (k : Int) (f : List Int) (from_ : Int) : PErr := if idxOf (odd1 k) f = -1 then none else fresh sAdditive (from_ + idxOf (odd1 k) f) 2
def oddP (n : Nat) : Bool := decide (n % 2 = 1) && decide (n ≤ 7)
/-- additive.check's answer. -/
def factP (k : Int) (f : List Int) : PErr :=
  if k < 1 ∨ 4 < k then fresh sAdditive 0 3 else if oddP f.length = false then fresh sAdditive 1 3 else numP k f 0
/-- additive.Make's fault. -/
def makeP (k R : Int) (f : List Int) : PErr :=
  if k < 1 ∨ 4 < k ∨ R < 0 ∨ 3 < R then fresh sAdditive 0 3 else if (f.length : Int) ≠ 2 * R + 1 then fresh sAdditive 1 3 else numP k f 0

theorem numP_none {k : Int} {f : List Int} {a : Int} (h : numP k f a = none) : Syms k f := by
  unfold numP at h
  rcases syms_or k f with hs | ⟨i, hi, _⟩
  · exact hs
  · rw [if_neg (by omega)] at h; cases h
theorem Syms.num {k : Int} {f : List Int} (h : Syms k f) (a : Int) : numP k f a = none := by rw [numP, if_pos h.odd]

/-- The factors that may be, i of them found, the last first. -/
def facL (K n : Nat) (xs : List Int) (i : Nat) : List Int := (List.range n).map fun j => if n ≤ i + j then xs.getD (pw K (n - 1 - j)) 0 else 0
theorem facL_length (K n : Nat) (xs : List Int) (i : Nat) : (facL K n xs i).length = n := by simp [facL]
theorem facL_zero (K n : Nat) (xs : List Int) : facL K n xs 0 = List.replicate n 0 := by
  refine List.ext_getElem (by simp [facL]) fun j h1 h2 => ?_
  simp [facL] at h1 ⊢
  omega
theorem facL_succ (K n : Nat) (xs : List Int) (i : Nat) (hi : i < n) (hx : pw K i < xs.length) : (facL K n xs i).set (n - 1 - i) xs[pw K i] = facL K n xs (i + 1) := by
  refine List.ext_getElem (by simp [facL]) fun j h1 h2 => ?_
  simp only [facL, List.length_set, List.length_map, List.length_range] at h1
  rw [List.getElem_set]
  by_cases e : n - 1 - i = j
  · rw [if_pos e]
    simp only [facL, List.getElem_map, List.getElem_range]
    rw [if_pos (by omega), show n - 1 - j = i by omega]
    simp [List.getD, hx]
  · rw [if_neg e]
    simp only [facL, List.getElem_map, List.getElem_range]
    by_cases c : n ≤ i + j
    · rw [if_pos c, if_pos (by omega)]
    · rw [if_neg c, if_neg (by omega)]
/-- The same, one symbol alone allowed. -/
def facI (K n : Nat) (xs : List Int) (i : Nat) : List Int := if 1 < K then facL K n xs i else List.replicate n 0
def wI (K i : Nat) : Nat := if 1 < K then pw K i else 1
theorem facI_length (K n : Nat) (xs : List Int) (i : Nat) : (facI K n xs i).length = n := by
  unfold facI; split
  · exact facL_length ..
  · simp
theorem facI_zero (K n : Nat) (xs : List Int) : facI K n xs 0 = List.replicate n 0 := by
  unfold facI; split
  · exact facL_zero ..
  · rfl
/-- The factors of a rule, if it is a sum. -/
def facs (K R : Nat) (xs : List Int) : List Int := facI K (2 * R + 1) xs (2 * R + 1)
theorem facs_length (K R : Nat) (xs : List Int) : (facs K R xs).length = 2 * R + 1 := facI_length ..
theorem facs_syms {K R : Nat} {xs : List Int} (h : RuleOk K R xs) : Syms K (facs K R xs) := by
  have hk := h.k1
  intro x hx
  unfold facs facI at hx
  split at hx
  · obtain ⟨j, _, rfl⟩ := List.mem_map.1 hx
    split
    · by_cases hp : pw K (2 * R + 1 - 1 - j) < xs.length
      · simp only [List.getD, List.getElem?_eq_getElem hp, Option.getD_some]
        exact h.syms _ (by simp)
      · simp only [List.getD, List.getElem?_eq_none (Nat.le_of_not_lt hp), Option.getD_none]
        omega
    · omega
  · have := List.eq_of_mem_replicate hx; omega
/-- Is it a sum? -/
def isSum (K R : Nat) (xs : List Int) : Bool := decide (sumT K (facs K R xs) = xs)

/-- How many factors p does not divide. -/
def cnt (p : Int) (f : List Int) : Nat := f.countP fun x => x % p != 0
theorem cnt_snoc (p x : Int) (f : List Int) : cnt p (f ++ [x]) = cnt p f + (if (x % p != 0) = true then 1 else 0) := by
  simp only [cnt, List.countP_append, List.countP_singleton]
theorem cnt_le (p : Int) (f : List Int) : cnt p f ≤ f.length := List.countP_le_length
def primesP (k : Int) : List Int := if k = 2 ∨ k = 4 then [2] else if k = 3 then [3] else []
theorem primesP_mem {k p : Int} (h : p ∈ primesP k) : p = 2 ∨ p = 3 := by
  unfold primesP at h
  split at h
  · simp at h; exact .inl h
  · split at h
    · simp at h; exact .inr h
    · simp at h
/-- additive.whole's answer. -/
def wholeP (may : Int → Bool) (k : Int) (f : List Int) : Bool := (primesP k).all fun p => may (cnt p f)
theorem wholeP_true {may : Int → Bool} {k : Int} {f : List Int} (h : ∀ j (_ : j < (primesP k).length), may (cnt (primesP k)[j] f) = true) : wholeP may k f = true := by
  rw [wholeP, List.all_eq_true]
  intro p hp
  obtain ⟨j, hj, rfl⟩ := List.mem_iff_getElem.1 hp
  exact h j hj
theorem wholeP_false {may : Int → Bool} {k : Int} {f : List Int} (j : Nat) (hj : j < (primesP k).length) (h : may (cnt (primesP k)[j] f) = false) : wholeP may k f = false := by
  rw [wholeP, List.all_eq_false]
  exact ⟨_, List.getElem_mem hj, by simp [h]⟩
def mayOnto (n : Int) : Bool := decide (0 < n)
def mayOne (n : Int) : Bool := n == 1

/-! Products. -/
def addAt (K : Nat) (o : List Int) (p : Nat) (z : Int) : List Int := o.set p ((o.getD p 0 + z) % K)
def mulRow (K i : Nat) (x : Int) (b : List Int) : Nat → List Int → List Int
  | 0, o => o
  | s + 1, o => addAt K (mulRow K i x b s o) (i + s) (x * b.getD s 0)
def mulAll (K : Nat) (a b : List Int) : Nat → List Int
  | 0 => List.replicate (a.length + b.length - 1) 0
  | i + 1 => mulRow K i (a.getD i 0) b b.length (mulAll K a b i)
/-- The factors of one sum behind another. -/
def mulL (K : Nat) (a b : List Int) : List Int := mulAll K a b a.length
theorem addAt_length (K : Nat) (o : List Int) (p : Nat) (z : Int) : (addAt K o p z).length = o.length := by simp [addAt]
theorem mulRow_length (K i : Nat) (x : Int) (b : List Int) (s : Nat) (o : List Int) : (mulRow K i x b s o).length = o.length := by
  induction s with
  | zero => rfl
  | succ s ih => rw [mulRow, addAt_length, ih]
theorem mulAll_length (K : Nat) (a b : List Int) (i : Nat) : (mulAll K a b i).length = a.length + b.length - 1 := by
  induction i with
  | zero => simp [mulAll]
  | succ i ih => rw [mulAll, mulRow_length, ih]
theorem mulL_length (K : Nat) (a b : List Int) : (mulL K a b).length = a.length + b.length - 1 := mulAll_length ..
theorem addAt_syms {K : Nat} (hK : 1 ≤ K) {o : List Int} (h : Syms K o) (p : Nat) (z : Int) : Syms K (addAt K o p z) := by
  intro x hx
  rcases List.mem_or_eq_of_mem_set hx with h1 | h1
  · exact h x h1
  · subst h1
    exact ⟨Int.emod_nonneg _ (by omega), Int.emod_lt_of_pos _ (by omega)⟩
theorem mulRow_syms {K : Nat} (hK : 1 ≤ K) (i : Nat) (x : Int) (b : List Int) (s : Nat) {o : List Int} (h : Syms K o) : Syms K (mulRow K i x b s o) := by
  induction s with
  | zero => exact h
  | succ s ih => exact addAt_syms hK ih _ _
theorem mulAll_syms {K : Nat} (hK : 1 ≤ K) (a b : List Int) (i : Nat) : Syms K (mulAll K a b i) := by
  induction i with
  | zero => intro x hx; have := List.eq_of_mem_replicate hx; omega
  | succ i ih => exact mulRow_syms hK _ _ _ _ ih
theorem Syms.getD {K : Int} {xs : List Int} (hK : 0 < K) (h : Syms K xs) (i : Nat) : 0 ≤ xs.getD i 0 ∧ xs.getD i 0 < K := by
  by_cases c : i < xs.length
  · simp only [List.getD, List.getElem?_eq_getElem c, Option.getD_some]
    exact h _ (by simp)
  · simp only [List.getD, List.getElem?_eq_none (Nat.le_of_not_lt c), Option.getD_none]
    omega
/-- additive.Mul's fault. -/
def mulP (k : Int) (a b : List Int) : PErr :=
  match factP k a with
  | some t => some t
  | none => if oddP b.length = false then fresh sAdditive 2 3 else
    match numP k b a.length with
    | some t => some t
    | none => if oddP (a.length + b.length - 1) = false then fresh sAdditive 2 3 else none
end Go.Proofs.YtmddapkhipmlgaaDoor
