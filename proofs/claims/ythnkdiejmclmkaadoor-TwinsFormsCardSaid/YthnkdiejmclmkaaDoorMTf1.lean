/-
  Plain mathematics of the first layers: no program in sight.
  Plain mathematics of layer 18: the table of a sum, the factors of a rule.
  Plain mathematics of layer 19: rules that permute at one end.
  Plain mathematics: one sum behind another is the sum of the product.
  Plain mathematics: the running number of rule.Step is the window's.
  Plain mathematics: the document's sides, mirrored rule and preimages with given ends are the program's.
  Plain mathematics: the sides of mirrored, renamed and composed rules.
  Plain mathematics: graphs: what leads where; Tarjan's search and the parts that it tells.
  Plain mathematics of layer 13: pairs of nodes, their arrows; words and the nodes along them.
  Plain mathematics of layer 15: twins, and the ways from a pair of equal nodes through pairs that are apart to a pair of equal nodes.
-/

namespace Go.Proofs.YthnkdiejmclmkaaDoor

/-- An error as plain data: its number, and packages and places from the outermost on; none: no error. -/
abbrev PErr := Option (Int × List (ByteArray × Int))
def under (op : ByteArray) (at_ : Int) (t : PErr) : PErr := t.map fun x => (x.1, (op, at_) :: x.2)
def fresh (op : ByteArray) (at_ : Int) (n : Int) : PErr := some (n, [(op, at_)])
def sRule : ByteArray := ⟨#[114, 117, 108, 101]⟩
def sAdditive : ByteArray := ⟨#[97, 100, 100, 105, 116, 105, 118, 101]⟩

def pw (K i : Nat) : Nat := K ^ i
theorem pw_zero (K : Nat) : pw K 0 = 1 := rfl
theorem pw_succ (K i : Nat) : pw K (i + 1) = pw K i * K := Nat.pow_succ ..
theorem pw_one (K : Nat) : pw K 1 = K := by simp [pw]
theorem pw_add (K i j : Nat) : pw K (i + j) = pw K i * pw K j := Nat.pow_add ..
theorem pw_pos {K : Nat} (i : Nat) (h : 1 ≤ K) : 1 ≤ pw K i := Nat.one_le_pow _ _ h
theorem pw_mono {K i j : Nat} (h1 : 1 ≤ K) (h : i ≤ j) : pw K i ≤ pw K j := Nat.pow_le_pow_right h1 h
theorem pw_le {K i : Nat} (_h1 : 1 ≤ K) (h4 : K ≤ 4) (hi : i ≤ 7) : pw K i ≤ 16384 :=
  Nat.le_trans (Nat.pow_le_pow_left h4 i) (Nat.le_trans (Nat.pow_le_pow_right (by omega) hi) (by decide))

theorem pw_lt {K i j : Nat} (h1 : 1 < K) (h : i < j) : pw K i < pw K j := Nat.pow_lt_pow_right h1 h

/-- The first place that p holds of; -1: none. -/
def idxOf (p : Int → Bool) (xs : List Int) : Int := match xs.findIdx? p with | some i => i | none => -1
theorem idxOf_neg {p : Int → Bool} {xs : List Int} (h : ∀ x ∈ xs, p x = false) : idxOf p xs = -1 := by
  have : xs.findIdx? p = none := List.findIdx?_eq_none_iff.2 h
  simp [idxOf, this]
theorem idxOf_at {p : Int → Bool} {xs : List Int} (k : Nat) (hk : k < xs.length) (hp : p xs[k] = true) (hj : ∀ j (h : j < xs.length), j < k → p xs[j] = false) : idxOf p xs = k := by
  have : xs.findIdx? p = some k := by
    rw [List.findIdx?_eq_some_iff_getElem]
    exact ⟨hk, hp, fun j hjk => by simp [hj j (by omega) hjk]⟩
  simp [idxOf, this]
theorem idxOf_cases (p : Int → Bool) (xs : List Int) : (idxOf p xs = -1 ∧ ∀ x ∈ xs, p x = false) ∨ (∃ k : Nat, idxOf p xs = k ∧ ∃ h : k < xs.length, p xs[k] = true ∧ ∀ j (h : j < xs.length), j < k → p xs[j] = false) := by
  cases h : xs.findIdx? p with
  | none => exact .inl ⟨by simp [idxOf, h], List.findIdx?_eq_none_iff.1 h⟩
  | some k =>
    obtain ⟨hk, hp, hj⟩ := List.findIdx?_eq_some_iff_getElem.1 h
    exact .inr ⟨k, by simp [idxOf, h], hk, hp, fun j hj' hjk => by simpa using hj j hjk⟩

/-- No symbol below k. -/
def odd1 (k : Int) (x : Int) : Bool := decide (x < 0) || decide (k ≤ x)
theorem odd1_false {k x : Int} : odd1 k x = false ↔ 0 ≤ x ∧ x < k := by simp [odd1]
/-- Are all symbols below k? -/
def Syms (k : Int) (xs : List Int) : Prop := ∀ x ∈ xs, 0 ≤ x ∧ x < k
theorem Syms.odd {k : Int} {xs : List Int} (h : Syms k xs) : idxOf (odd1 k) xs = -1 := idxOf_neg fun x hx => odd1_false.2 (h x hx)
theorem syms_or (k : Int) (xs : List Int) : Syms k xs ∨ ∃ i : Nat, idxOf (odd1 k) xs = i ∧ i < xs.length := by
  rcases idxOf_cases (odd1 k) xs with ⟨_, h⟩ | ⟨i, h, hi, _⟩
  · exact .inl fun x hx => odd1_false.1 (h x hx)
  · exact .inr ⟨i, h, hi⟩

/-- Is it a rule, with K symbols and radius R? -/
structure RuleOk (K R : Nat) (xs : List Int) : Prop where
  k1 : 1 ≤ K
  k4 : K ≤ 4
  r3 : R ≤ 3
  len : xs.length = pw K (2 * R + 1)
  syms : Syms K xs

theorem RuleOk.len_le {K R : Nat} {xs : List Int} (h : RuleOk K R xs) : xs.length ≤ 16384 := by
  rw [h.len]; exact pw_le h.k1 h.k4 (by have := h.r3; omega)
theorem RuleOk.len_pos {K R : Nat} {xs : List Int} (h : RuleOk K R xs) : 1 ≤ xs.length := by
  rw [h.len]; exact pw_pos _ h.k1

/-- rule.Check's answer. -/
def checkP (k r : Int) (xs : List Int) : PErr :=
  if k < 1 ∨ 4 < k then fresh sRule 0 1
  else if r < 0 ∨ 3 < r then fresh sRule 1 1
  else if xs.length ≠ pw k.toNat (2 * r.toNat + 1) then fresh sRule 2 1
  else if idxOf (odd1 k) xs = -1 then none
  else fresh sRule (3 + idxOf (odd1 k) xs) 1

theorem checkP_none {k r : Int} {xs : List Int} (h : checkP k r xs = none) : ∃ K R : Nat, k = K ∧ r = R ∧ RuleOk K R xs := by
  unfold checkP at h
  by_cases h1 : k < 1 ∨ 4 < k
  · rw [if_pos h1] at h; cases h
  rw [if_neg h1] at h
  by_cases h2 : r < 0 ∨ 3 < r
  · rw [if_pos h2] at h; cases h
  rw [if_neg h2] at h
  by_cases h3 : xs.length ≠ pw k.toNat (2 * r.toNat + 1)
  · rw [if_pos h3] at h; cases h
  rw [if_neg h3] at h
  by_cases h4 : idxOf (odd1 k) xs = -1
  · refine ⟨k.toNat, r.toNat, by omega, by omega, by omega, by omega, by omega, by omega, ?_⟩
    rw [show ((k.toNat : Nat) : Int) = k by omega]
    rcases syms_or k xs with h5 | ⟨i, h5, _⟩
    · exact h5
    · omega
  · rw [if_neg h4] at h; cases h

theorem RuleOk.check {K R : Nat} {xs : List Int} (h : RuleOk K R xs) : checkP K R xs = none := by
  have := h.k1; have := h.k4; have := h.r3
  unfold checkP
  rw [if_neg (by omega), if_neg (by omega), if_neg (by simp [h.len]), if_pos h.syms.odd]
end Go.Proofs.YthnkdiejmclmkaaDoor

namespace Go.Proofs.YthnkdiejmclmkaaDoor

/-- One entry's followers. -/
def sumRow (K : Nat) (x y : Int) (s : Nat) : List Int := (List.range s).map fun (t : Nat) => (y + x * t) % K
/-- The table's next state. -/
def sumStep (K : Nat) (x : Int) (T : List Int) : List Int := T.flatMap fun y => sumRow K x y K
def sumTable (K : Nat) : List Int → List Int → List Int
  | T, [] => T
  | T, x :: f => sumTable K (sumStep K x T) f
/-- The table of a sum. -/
def sumT (K : Nat) (f : List Int) : List Int := sumTable K [0] f

theorem sumRow_length (K : Nat) (x y : Int) (s : Nat) : (sumRow K x y s).length = s := by simp [sumRow]
theorem sumRow_succ (K : Nat) (x y : Int) (s : Nat) : sumRow K x y (s + 1) = sumRow K x y s ++ [(y + x * s) % K] := by simp [sumRow, List.range_succ]
theorem sumStep_length (K : Nat) (x : Int) (T : List Int) : (sumStep K x T).length = T.length * K := by
  induction T with
  | nil => simp [sumStep]
  | cons y T ih => simp only [sumStep, List.flatMap_cons, List.length_append, sumRow_length, List.length_cons] at *; rw [ih, Nat.succ_mul]; omega
theorem sumStep_snoc (K : Nat) (x y : Int) (T : List Int) : sumStep K x (T ++ [y]) = sumStep K x T ++ sumRow K x y K := by simp [sumStep]
theorem sumStep_nil (K : Nat) (x : Int) : sumStep K x [] = [] := rfl
theorem sumTable_snoc (K : Nat) (T f : List Int) (x : Int) : sumTable K T (f ++ [x]) = sumStep K x (sumTable K T f) := by
  induction f generalizing T with
  | nil => rfl
  | cons y f ih => exact ih _
theorem sumTable_length (K : Nat) (T f : List Int) : (sumTable K T f).length = T.length * pw K f.length := by
  induction f generalizing T with
  | nil => simp [sumTable, pw]
  | cons y f ih => rw [sumTable, ih, sumStep_length, List.length_cons, pw_succ, Nat.mul_assoc, Nat.mul_comm K]
theorem sumT_length (K : Nat) (f : List Int) : (sumT K f).length = pw K f.length := by rw [sumT, sumTable_length]; simp
theorem sumRow_syms {K : Nat} (hK : 1 ≤ K) (x y : Int) (s : Nat) : Syms K (sumRow K x y s) := by
  intro z hz
  obtain ⟨t, _, rfl⟩ := List.mem_map.1 hz
  exact ⟨Int.emod_nonneg _ (by omega), Int.emod_lt_of_pos _ (by omega)⟩
theorem sumStep_syms {K : Nat} (hK : 1 ≤ K) (x : Int) (T : List Int) : Syms K (sumStep K x T) := by
  intro z hz
  obtain ⟨y, _, h⟩ := List.mem_flatMap.1 hz
  exact sumRow_syms hK x y K z h
theorem sumTable_syms {K : Nat} (hK : 1 ≤ K) (T f : List Int) (hT : Syms K T) : Syms K (sumTable K T f) := by
  induction f generalizing T with
  | nil => exact hT
  | cons y f ih => exact ih _ (sumStep_syms hK y T)
theorem sumT_syms {K : Nat} (hK : 1 ≤ K) (f : List Int) : Syms K (sumT K f) := sumTable_syms hK _ _ (by intro x hx; simp at hx; omega)
theorem take_snoc (l : List Int) (k : Nat) (h : k < l.length) : l.take (k + 1) = l.take k ++ [l[k]] := by rw [List.take_succ_eq_append_getElem h]

/-- additive.numbers' answer. -/
def numP (k : Int) (f : List Int) (from_ : Int) : PErr := if idxOf (odd1 k) f = -1 then none else fresh sAdditive (from_ + idxOf (odd1 k) f) 2
def oddP (n : Nat) : Bool := decide (n % 2 = 1) && decide (n ≤ 7)
/-- additive.check's answer. -/
def factP (k : Int) (f : List Int) : PErr :=
  if k < 1 ∨ 4 < k then fresh sAdditive 0 3 else if oddP f.length = false then fresh sAdditive 1 3 else numP k f 0
/-- additive.Make's fault. -/
def makeP (k R : Int) (f : List Int) : PErr :=
  if k < 1 ∨ 4 < k ∨ R < 0 ∨ 3 < R then fresh sAdditive 0 3 else if (f.length : Int) ≠ 2 * R + 1 then fresh sAdditive 1 3 else numP k f 0

theorem numP_none {k : Int} {f : List Int} {a : Int} (h : numP k f a = none) : Syms k f := by
  unfold numP at h
  rcases syms_or k f with hs | ⟨i, hi, _⟩
  · exact hs
  · rw [if_neg (by omega)] at h; cases h
theorem Syms.num {k : Int} {f : List Int} (h : Syms k f) (a : Int) : numP k f a = none := by rw [numP, if_pos h.odd]

/-- The factors that may be, i of them found, the last first. -/
def facL (K n : Nat) (xs : List Int) (i : Nat) : List Int := (List.range n).map fun j => if n ≤ i + j then xs.getD (pw K (n - 1 - j)) 0 else 0
theorem facL_length (K n : Nat) (xs : List Int) (i : Nat) : (facL K n xs i).length = n := by simp [facL]
theorem facL_zero (K n : Nat) (xs : List Int) : facL K n xs 0 = List.replicate n 0 := by
  refine List.ext_getElem (by simp [facL]) fun j h1 h2 => ?_
  simp [facL] at h1 ⊢
  omega
theorem facL_succ (K n : Nat) (xs : List Int) (i : Nat) (hi : i < n) (hx : pw K i < xs.length) : (facL K n xs i).set (n - 1 - i) xs[pw K i] = facL K n xs (i + 1) := by
  refine List.ext_getElem (by simp [facL]) fun j h1 h2 => ?_
  simp only [facL, List.length_set, List.length_map, List.length_range] at h1
  rw [List.getElem_set]
  by_cases e : n - 1 - i = j
  · rw [if_pos e]
    simp only [facL, List.getElem_map, List.getElem_range]
    rw [if_pos (by omega), show n - 1 - j = i by omega]
    simp [List.getD, hx]
  · rw [if_neg e]
    simp only [facL, List.getElem_map, List.getElem_range]
    by_cases c : n ≤ i + j
    · rw [if_pos c, if_pos (by omega)]
    · rw [if_neg c, if_neg (by omega)]
/-- The same, one symbol alone allowed. -/
def facI (K n : Nat) (xs : List Int) (i : Nat) : List Int := if 1 < K then facL K n xs i else List.replicate n 0
def wI (K i : Nat) : Nat := if 1 < K then pw K i else 1
theorem facI_length (K n : Nat) (xs : List Int) (i : Nat) : (facI K n xs i).length = n := by
  unfold facI; split
  · exact facL_length ..
  · simp
theorem facI_zero (K n : Nat) (xs : List Int) : facI K n xs 0 = List.replicate n 0 := by
  unfold facI; split
  · exact facL_zero ..
  · rfl
/-- The factors of a rule, if it is a sum. -/
def facs (K R : Nat) (xs : List Int) : List Int := facI K (2 * R + 1) xs (2 * R + 1)
theorem facs_length (K R : Nat) (xs : List Int) : (facs K R xs).length = 2 * R + 1 := facI_length ..
theorem facs_syms {K R : Nat} {xs : List Int} (h : RuleOk K R xs) : Syms K (facs K R xs) := by
  have hk := h.k1
  intro x hx
  unfold facs facI at hx
  split at hx
  · obtain ⟨j, _, rfl⟩ := List.mem_map.1 hx
    split
    · by_cases hp : pw K (2 * R + 1 - 1 - j) < xs.length
      · simp only [List.getD, List.getElem?_eq_getElem hp, Option.getD_some]
        exact h.syms _ (by simp)
      · simp only [List.getD, List.getElem?_eq_none (Nat.le_of_not_lt hp), Option.getD_none]
        omega
    · omega
  · have := List.eq_of_mem_replicate hx; omega
/-- Is it a sum? -/
def isSum (K R : Nat) (xs : List Int) : Bool := decide (sumT K (facs K R xs) = xs)

/-- How many factors p does not divide. -/
def cnt (p : Int) (f : List Int) : Nat := f.countP fun x => x % p != 0
theorem cnt_snoc (p x : Int) (f : List Int) : cnt p (f ++ [x]) = cnt p f + (if (x % p != 0) = true then 1 else 0) := by
  simp only [cnt, List.countP_append, List.countP_singleton]
theorem cnt_le (p : Int) (f : List Int) : cnt p f ≤ f.length := List.countP_le_length
def primesP (k : Int) : List Int := if k = 2 ∨ k = 4 then [2] else if k = 3 then [3] else []
theorem primesP_mem {k p : Int} (h : p ∈ primesP k) : p = 2 ∨ p = 3 := by
  unfold primesP at h
  split at h
  · simp at h; exact .inl h
  · split at h
    · simp at h; exact .inr h
    · simp at h
/-- additive.whole's answer. -/
def wholeP (may : Int → Bool) (k : Int) (f : List Int) : Bool := (primesP k).all fun p => may (cnt p f)
theorem wholeP_true {may : Int → Bool} {k : Int} {f : List Int} (h : ∀ j (_ : j < (primesP k).length), may (cnt (primesP k)[j] f) = true) : wholeP may k f = true := by
  rw [wholeP, List.all_eq_true]
  intro p hp
  obtain ⟨j, hj, rfl⟩ := List.mem_iff_getElem.1 hp
  exact h j hj
theorem wholeP_false {may : Int → Bool} {k : Int} {f : List Int} (j : Nat) (hj : j < (primesP k).length) (h : may (cnt (primesP k)[j] f) = false) : wholeP may k f = false := by
  rw [wholeP, List.all_eq_false]
  exact ⟨_, List.getElem_mem hj, by simp [h]⟩
def mayOnto (n : Int) : Bool := decide (0 < n)
def mayOne (n : Int) : Bool := n == 1

/-! Products. -/
def addAt (K : Nat) (o : List Int) (p : Nat) (z : Int) : List Int := o.set p ((o.getD p 0 + z) % K)
def mulRow (K i : Nat) (x : Int) (b : List Int) : Nat → List Int → List Int
  | 0, o => o
  | s + 1, o => addAt K (mulRow K i x b s o) (i + s) (x * b.getD s 0)
def mulAll (K : Nat) (a b : List Int) : Nat → List Int
  | 0 => List.replicate (a.length + b.length - 1) 0
  | i + 1 => mulRow K i (a.getD i 0) b b.length (mulAll K a b i)
/-- The factors of one sum behind another. -/
def mulL (K : Nat) (a b : List Int) : List Int := mulAll K a b a.length
theorem addAt_length (K : Nat) (o : List Int) (p : Nat) (z : Int) : (addAt K o p z).length = o.length := by simp [addAt]
theorem mulRow_length (K i : Nat) (x : Int) (b : List Int) (s : Nat) (o : List Int) : (mulRow K i x b s o).length = o.length := by
  induction s with
  | zero => rfl
  | succ s ih => rw [mulRow, addAt_length, ih]
theorem mulAll_length (K : Nat) (a b : List Int) (i : Nat) : (mulAll K a b i).length = a.length + b.length - 1 := by
  induction i with
  | zero => simp [mulAll]
  | succ i ih => rw [mulAll, mulRow_length, ih]
theorem mulL_length (K : Nat) (a b : List Int) : (mulL K a b).length = a.length + b.length - 1 := mulAll_length ..
theorem addAt_syms {K : Nat} (hK : 1 ≤ K) {o : List Int} (h : Syms K o) (p : Nat) (z : Int) : Syms K (addAt K o p z) := by
  intro x hx
  rcases List.mem_or_eq_of_mem_set hx with h1 | h1
  · exact h x h1
  · subst h1
    exact ⟨Int.emod_nonneg _ (by omega), Int.emod_lt_of_pos _ (by omega)⟩
theorem mulRow_syms {K : Nat} (hK : 1 ≤ K) (i : Nat) (x : Int) (b : List Int) (s : Nat) {o : List Int} (h : Syms K o) : Syms K (mulRow K i x b s o) := by
  induction s with
  | zero => exact h
  | succ s ih => exact addAt_syms hK ih _ _
theorem mulAll_syms {K : Nat} (hK : 1 ≤ K) (a b : List Int) (i : Nat) : Syms K (mulAll K a b i) := by
  induction i with
  | zero => intro x hx; have := List.eq_of_mem_replicate hx; omega
  | succ i ih => exact mulRow_syms hK _ _ _ _ ih
theorem Syms.getD {K : Int} {xs : List Int} (hK : 0 < K) (h : Syms K xs) (i : Nat) : 0 ≤ xs.getD i 0 ∧ xs.getD i 0 < K := by
  by_cases c : i < xs.length
  · simp only [List.getD, List.getElem?_eq_getElem c, Option.getD_some]
    exact h _ (by simp)
  · simp only [List.getD, List.getElem?_eq_none (Nat.le_of_not_lt c), Option.getD_none]
    omega
/-- additive.Mul's fault. -/
def mulP (k : Int) (a b : List Int) : PErr :=
  match factP k a with
  | some t => some t
  | none => if oddP b.length = false then fresh sAdditive 2 3 else
    match numP k b a.length with
    | some t => some t
    | none => if oddP (a.length + b.length - 1) = false then fresh sAdditive 2 3 else none
end Go.Proofs.YthnkdiejmclmkaaDoor

namespace Go.Proofs.YthnkdiejmclmkaaDoor

def sPermut : ByteArray := ⟨#[112, 101, 114, 109, 117, 116]⟩

/-- The symbols seen in a group of windows, as bits. -/
def seenP (T : List Int) (W i : Nat) : Nat → Nat
  | 0 => 0
  | s + 1 => seenP T W i s ||| 2 ^ (T.getD (i + s * W) 0).toNat
theorem seenP_lt {K : Nat} (hK : 1 ≤ K) {T : List Int} (h : Syms K T) (W i s : Nat) : seenP T W i s < 2 ^ K := by
  induction s with
  | zero => exact Nat.two_pow_pos K
  | succ s ih =>
    have := h.getD (by omega) (i + s * W)
    exact Nat.or_lt_two_pow ih (Nat.pow_lt_pow_right (by decide) (by omega))
theorem two_pow_K {K : Nat} (h : K ≤ 4) : 2 ^ K ≤ 16 := by
  have : K = 0 ∨ K = 1 ∨ K = 2 ∨ K = 3 ∨ K = 4 := by omega
  rcases this with rfl | rfl | rfl | rfl | rfl <;> decide

/-- The group of window i. -/
def fullP (K : Nat) (T : List Int) (W i : Nat) : Bool := seenP T W i K == 2 ^ K - 1
/-- permut.unlike's answer. -/
def unlikeP (K : Nat) (T : List Int) (W : Nat) : Bool := (List.range T.length).all fun i => i / W % K != 0 || fullP K T W i
theorem unlikeP_true {K : Nat} {T : List Int} {W : Nat} (h : ∀ i, i < T.length → i / W % K = 0 → fullP K T W i = true) : unlikeP K T W = true := by
  rw [unlikeP, List.all_eq_true]
  intro i hi
  have hi' := List.mem_range.1 hi
  by_cases c : i / W % K = 0
  · simp [h i hi' c]
  · simp [c]
theorem unlikeP_false {K : Nat} {T : List Int} {W : Nat} (i : Nat) (hi : i < T.length) (hm : i / W % K = 0) (h : fullP K T W i = false) : unlikeP K T W = false := by
  rw [unlikeP, List.all_eq_false]
  exact ⟨i, List.mem_range.2 hi, by simp [hm, h]⟩
theorem unlikeP_full {K : Nat} {T : List Int} {W : Nat} (h : unlikeP K T W = true) (i : Nat) (hi : i < T.length) (hm : i / W % K = 0) : fullP K T W i = true := by
  rw [unlikeP, List.all_eq_true] at h
  have := h i (List.mem_range.2 hi)
  simpa [hm] using this

/-- A bit is seen just if a symbol is. -/
theorem seenP_bit {K : Nat} {T : List Int} (hK : 1 ≤ K) (h : Syms K T) (W i s y : Nat) : (seenP T W i s).testBit y = true ↔ ∃ t, t < s ∧ T.getD (i + t * W) 0 = y := by
  induction s with
  | zero => simp [seenP]
  | succ s ih =>
    have hx := h.getD (by omega) (i + s * W)
    rw [seenP, Nat.testBit_or, Bool.or_eq_true, ih, Nat.testBit_two_pow]
    constructor
    · rintro (⟨t, ht, e⟩ | e)
      · exact ⟨t, by omega, e⟩
      · rw [decide_eq_true_iff] at e; exact ⟨s, by omega, by omega⟩
    · rintro ⟨t, ht, e⟩
      by_cases c : t = s
      · subst c; right; rw [decide_eq_true_iff]; omega
      · left; exact ⟨t, by omega, e⟩

/-- In a full group each symbol stands. -/
theorem fullP_all {K : Nat} {T : List Int} (hK : 1 ≤ K) (h : Syms K T) {W i : Nat} (hf : fullP K T W i = true) (y : Nat) (hy : y < K) : ∃ t, t < K ∧ T.getD (i + t * W) 0 = y := by
  have e : seenP T W i K = 2 ^ K - 1 := by simpa [fullP] using hf
  rw [← seenP_bit hK h, e, Nat.testBit_two_pow_sub_one]
  simpa using hy

/-- permut.fits' answer. -/
def fitP (T : List Int) (rest W : Nat) (image : Int) : Nat → Nat → Nat
  | 0, _ => 0
  | n + 1, s => if T.getD (rest + s * W) 0 = image then s else fitP T rest W image n (s + 1)
def fit (K : Nat) (T : List Int) (rest W : Nat) (image : Int) : Nat := fitP T rest W image K 0
theorem fitP_lt (T : List Int) (rest W : Nat) (image : Int) (n s : Nat) (h : 0 < s + n) : fitP T rest W image n s < s + n := by
  induction n generalizing s with
  | zero => exact h
  | succ n ih =>
    rw [fitP]
    split
    · omega
    · have := ih (s + 1) (by omega); omega
theorem fit_lt {K : Nat} (hK : 1 ≤ K) (T : List Int) (rest W : Nat) (image : Int) : fit K T rest W image < K := by
  have := fitP_lt T rest W image K 0 (by omega); simpa [fit] using this
theorem fitP_at (T : List Int) (rest W : Nat) (image : Int) (n s k : Nat) (hk : k < n) (h : T.getD (rest + (s + k) * W) 0 = image) (hj : ∀ j, j < k → T.getD (rest + (s + j) * W) 0 ≠ image) : fitP T rest W image n s = s + k := by
  induction n generalizing s k with
  | zero => omega
  | succ n ih =>
    rw [fitP]
    by_cases c : k = 0
    · subst c; rw [if_pos (by simpa using h)]; rfl
    · have := hj 0 (by omega)
      rw [if_neg (by simpa using this), ih (s + 1) (k - 1) (by omega) (by rw [show s + 1 + (k - 1) = s + k by omega]; exact h) (fun j hj' => by rw [show s + 1 + j = s + (j + 1) by omega]; exact hj (j + 1) (by omega))]
      omega
theorem fit_at {K : Nat} (T : List Int) (rest W : Nat) (image : Int) (k : Nat) (hk : k < K) (h : T.getD (rest + k * W) 0 = image) (hj : ∀ j, j < k → T.getD (rest + j * W) 0 ≠ image) : fit K T rest W image = k := by
  have := fitP_at T rest W image K 0 k hk (by simpa using h) (by simpa using hj)
  simpa [fit] using this
theorem fitP_none (T : List Int) (rest W : Nat) (image : Int) (n s : Nat) (hj : ∀ j, j < n → T.getD (rest + (s + j) * W) 0 ≠ image) : fitP T rest W image n s = 0 := by
  induction n generalizing s with
  | zero => rfl
  | succ n ih =>
    rw [fitP, if_neg (by simpa using hj 0 (by omega))]
    exact ih (s + 1) (fun j h => by rw [show s + 1 + j = s + (j + 1) by omega]; exact hj (j + 1) (by omega))
theorem fit_none {K : Nat} (T : List Int) (rest W : Nat) (image : Int) (hj : ∀ j, j < K → T.getD (rest + j * W) 0 ≠ image) : fit K T rest W image = 0 :=
  fitP_none T rest W image K 0 (by simpa using hj)
/-- Where some symbol fits, the answer fits. -/
theorem fit_ok {K : Nat} (T : List Int) (rest W : Nat) (image : Int) (h : ∃ t, t < K ∧ T.getD (rest + t * W) 0 = image) : T.getD (rest + fit K T rest W image * W) 0 = image := by
  suffices H : ∀ n s, (∃ t, t < n ∧ T.getD (rest + (s + t) * W) 0 = image) → T.getD (rest + fitP T rest W image n s * W) 0 = image by
    exact H K 0 (by simpa using h)
  intro n
  induction n with
  | zero => rintro s ⟨t, ht, _⟩; omega
  | succ n ih =>
    rintro s ⟨t, ht, e⟩
    rw [fitP]
    split
    · assumption
    · rename_i hne
      refine ih (s + 1) ⟨t - 1, ?_, ?_⟩
      · by_cases c : t = 0
        · subst c; simp at e; exact absurd e hne
        · omega
      · by_cases c : t = 0
        · subst c; simp at e; exact absurd e hne
        · rw [show s + 1 + (t - 1) = s + t by omega]; exact e

/-- The number of a word. -/
def numW (K : Nat) (xs : List Int) : Nat := xs.foldl (fun n x => n * K + x.toNat) 0
theorem numW_snoc (K : Nat) (xs : List Int) (x : Int) : numW K (xs ++ [x]) = numW K xs * K + x.toNat := by simp [numW]
theorem numW_lt {K : Nat} (xs : List Int) (h : Syms K xs) : numW K xs < pw K xs.length := by
  suffices H : ∀ ys zs, xs = ys ++ zs → numW K ys < pw K ys.length from H xs [] (by simp)
  intro ys
  induction hn : ys.length generalizing ys with
  | zero => intro zs _; have := List.eq_nil_of_length_eq_zero hn; subst this; simp [numW, pw]
  | succ n ih =>
    intro zs e
    have hne : ys ≠ [] := by intro e; subst e; simp at hn
    obtain ⟨b, x, rfl⟩ : ∃ b x, ys = b ++ [x] := ⟨ys.dropLast, ys.getLast hne, (List.dropLast_concat_getLast hne).symm⟩
    have hb : b.length = n := by simpa using hn
    have h1 := ih b hb ([x] ++ zs) (by rw [e]; simp)
    have hx := h x (by rw [e]; simp)
    rw [numW_snoc, pw_succ]
    have : (numW K b + 1) * K ≤ pw K n * K := Nat.mul_le_mul_right _ (by omega)
    rw [Nat.succ_mul] at this
    omega

/-- permut.Right's symbols. -/
def rightP (K : Nat) (T : List Int) : Nat → List Int → List Int
  | _, [] => []
  | node, x :: w => (fit K T (node * K) 1 x : Int) :: rightP K T ((node * K + fit K T (node * K) 1 x) % (T.length / K)) w
/-- The node behind them. -/
def rightN (K : Nat) (T : List Int) : Nat → List Int → Nat
  | node, [] => node
  | node, x :: w => rightN K T ((node * K + fit K T (node * K) 1 x) % (T.length / K)) w
theorem rightP_snoc (K : Nat) (T : List Int) (node : Nat) (w : List Int) (x : Int) : rightP K T node (w ++ [x]) = rightP K T node w ++ [(fit K T (rightN K T node w * K) 1 x : Int)] := by
  induction w generalizing node with
  | nil => rfl
  | cons y w ih => simp [rightP, rightN, ih]
theorem rightN_snoc (K : Nat) (T : List Int) (node : Nat) (w : List Int) (x : Int) : rightN K T node (w ++ [x]) = (rightN K T node w * K + fit K T (rightN K T node w * K) 1 x) % (T.length / K) := by
  induction w generalizing node with
  | nil => rfl
  | cons y w ih => simp [rightN, ih]
theorem rightP_length (K : Nat) (T : List Int) (node : Nat) (w : List Int) : (rightP K T node w).length = w.length := by
  induction w generalizing node with
  | nil => rfl
  | cons y w ih => simp [rightP, ih]
theorem rightN_lt {K : Nat} {T : List Int} (h : 0 < T.length / K) (node : Nat) (hn : node < T.length / K) (w : List Int) : rightN K T node w < T.length / K := by
  induction w generalizing node with
  | nil => exact hn
  | cons y w ih => exact ih _ (Nat.mod_lt _ h)

/-- permut.Left's symbols, from the last on: the node behind them and they. -/
def leftS (K : Nat) (T : List Int) : Nat → List Int → Nat × List Int
  | node, [] => (node, [])
  | node, x :: w =>
    let p := leftS K T node w
    let s := fit K T p.1 (T.length / K) x
    ((s * (T.length / K) + p.1) / K, (s : Int) :: p.2)
theorem leftS_length (K : Nat) (T : List Int) (node : Nat) (w : List Int) : (leftS K T node w).2.length = w.length := by
  induction w with
  | nil => rfl
  | cons y w ih => simp [leftS, ih]

/-- permut.check's fault. -/
def checkM (K R : Nat) (w ends : List Int) : PErr :=
  if 4096 < w.length then fresh sPermut 1 4 else if ends.length ≠ 2 * R then fresh sPermut 2 3
  else if idxOf (odd1 K) (w ++ ends) = -1 then none else fresh sPermut (idxOf (odd1 K) (w ++ ends)) 2
theorem checkM_none {K R : Nat} {w ends : List Int} (h : checkM K R w ends = none) : w.length ≤ 4096 ∧ ends.length = 2 * R ∧ Syms K w ∧ Syms K ends := by
  unfold checkM at h
  by_cases h1 : 4096 < w.length
  · rw [if_pos h1] at h; cases h
  rw [if_neg h1] at h
  by_cases h2 : ends.length ≠ 2 * R
  · rw [if_pos h2] at h; cases h
  rw [if_neg h2] at h
  rcases syms_or K (w ++ ends) with hs | ⟨i, hi, _⟩
  · exact ⟨by omega, by omega, fun x hx => hs x (by simp [hx]), fun x hx => hs x (by simp [hx])⟩
  · rw [if_neg (by omega)] at h; cases h
/-- permut.Right's and Left's faults: the side's weight is handed in. -/
def permF (k R : Int) (xs : List Int) (W : Nat) (w ends : List Int) : PErr :=
  match checkP k R xs with
  | some t => under sPermut 0 (some t)
  | none => if unlikeP k.toNat xs W = false then fresh sPermut 0 3 else checkM k.toNat R.toNat w ends

/-- A group of windows lies within the table. -/
theorem group_lt {K W q j s n : Nat} (hW : 1 ≤ W) (hn : n = q * (W * K)) (hj : j < n) (hm : j / W % K = 0) (hs : s < K) : j + s * W < n := by
  have h1 := Nat.div_add_mod j W
  have h2 := Nat.div_add_mod (j / W) K
  have h3 := Nat.mod_lt j hW
  rw [hm, Nat.add_zero] at h2
  have e : j = W * K * (j / W / K) + j % W := by
    rw [Nat.mul_assoc, h2]; omega
  have hc : j / W / K < q := by
    rw [Nat.div_div_eq_div_mul]
    exact Nat.div_lt_of_lt_mul (by rw [Nat.mul_comm]; omega)
  have h4 : W * K * (j / W / K + 1) ≤ W * K * q := Nat.mul_le_mul_left _ hc
  rw [Nat.mul_add, Nat.mul_one] at h4
  have h5 : (s + 1) * W ≤ K * W := Nat.mul_le_mul_right _ hs
  rw [Nat.succ_mul, Nat.mul_comm K W] at h5
  rw [hn, Nat.mul_comm q]
  omega

theorem RuleOk.half {K R : Nat} {xs : List Int} (h : RuleOk K R xs) : xs.length / K = pw K (2 * R) ∧ xs.length = pw K (2 * R) * K := by
  have e := h.len
  rw [pw_succ] at e
  have := h.k1
  exact ⟨by rw [e, Nat.mul_div_cancel _ (by omega)], e⟩
end Go.Proofs.YthnkdiejmclmkaaDoor

namespace Go.Proofs.YthnkdiejmclmkaaDoor

/-- f 0 + .. + f (n - 1). -/
def Sm (f : Nat → Int) : Nat → Int
  | 0 => 0
  | n + 1 => Sm f n + f n
theorem Sm_congr {f g : Nat → Int} (n : Nat) (h : ∀ i, i < n → f i = g i) : Sm f n = Sm g n := by
  induction n with
  | zero => rfl
  | succ n ih => rw [Sm, Sm, ih fun i hi => h i (by omega), h n (by omega)]
theorem Sm_zero {f : Nat → Int} (n : Nat) (h : ∀ i, i < n → f i = 0) : Sm f n = 0 := by
  induction n with
  | zero => rfl
  | succ n ih => rw [Sm, ih fun i hi => h i (by omega), h n (by omega)]; rfl
theorem Sm_mod {f g : Nat → Int} {K : Int} (n : Nat) (h : ∀ i, i < n → f i % K = g i % K) : Sm f n % K = Sm g n % K := by
  induction n with
  | zero => rfl
  | succ n ih => rw [Sm, Sm, Int.add_emod, ih fun i hi => h i (by omega), h n (by omega), ← Int.add_emod]

/-- A cell set changes the sum by what it is more. -/
theorem Sm_set (O : List Int) (p : Nat) (v : Int) (hp : p < O.length) (u : Nat → Int) (n : Nat) :
    Sm (fun i => (O.set p v).getD i 0 * u i) n = Sm (fun i => O.getD i 0 * u i) n + if p < n then (v - O.getD p 0) * u p else 0 := by
  induction n with
  | zero => simp [Sm]
  | succ n ih =>
    rw [Sm, Sm, ih]
    by_cases e : n = p
    · subst e
      rw [if_neg (by omega), if_pos (by omega)]
      have : (O.set n v).getD n 0 = v := by simp [List.getD, hp]
      rw [this, Int.sub_mul]
      omega
    · have : (O.set p v).getD n 0 = O.getD n 0 := by simp [List.getD, show ¬ p = n by omega]
      rw [this]
      by_cases c : p < n
      · rw [if_pos c, if_pos (by omega)]; omega
      · rw [if_neg c, if_neg (by omega)]; omega

theorem mulRow_sum (K i : Nat) (x : Int) (b : List Int) (u : Nat → Int) (q : Nat) (O : List Int) (hq : i + q ≤ O.length) :
    Sm (fun t => (mulRow K i x b q O).getD t 0 * u t) O.length % K = (Sm (fun t => O.getD t 0 * u t) O.length + x * Sm (fun j => b.getD j 0 * u (i + j)) q) % K := by
  induction q with
  | zero => simp [mulRow, Sm]
  | succ q ih =>
    have ih' := ih (by omega)
    rw [mulRow, addAt, Sm_set _ _ _ (by rw [mulRow_length]; omega), if_pos (by omega), Int.add_emod, ih', ← Int.add_emod, Sm]
    generalize (mulRow K i x b q O).getD (i + q) 0 = z
    generalize Sm (fun j => b.getD j 0 * u (i + j)) q = A
    generalize Sm (fun t => O.getD t 0 * u t) O.length = B
    have e : (((z + x * b.getD q 0) % (K : Int) - z) * u (i + q)) % K = (x * b.getD q 0 * u (i + q)) % K := by
      rw [Int.mul_emod, Int.sub_emod, Int.emod_emod, ← Int.sub_emod, ← Int.mul_emod]
      congr 2
      omega
    rw [Int.add_emod, e, ← Int.add_emod]
    congr 1
    rw [Int.mul_add, Int.mul_assoc]
    omega

theorem mulAll_length' (K : Nat) (a b : List Int) (i : Nat) : (mulAll K a b i).length = a.length + b.length - 1 := mulAll_length ..

theorem mulAll_sum (K : Nat) (a b : List Int) (u : Nat → Int) (hb : 1 ≤ b.length) (i : Nat) (hi : i ≤ a.length) :
    Sm (fun t => (mulAll K a b i).getD t 0 * u t) (a.length + b.length - 1) % K = Sm (fun i => a.getD i 0 * Sm (fun j => b.getD j 0 * u (i + j)) b.length) i % K := by
  induction i with
  | zero =>
    rw [mulAll, Sm_zero]
    · rfl
    · intro t _
      by_cases c : t < a.length + b.length - 1
      · simp [List.getD, c]
      · simp [List.getD, c]
  | succ i ih =>
    have h := mulRow_sum K i (a.getD i 0) b u b.length (mulAll K a b i) (by rw [mulAll_length]; omega)
    rw [mulAll_length] at h
    rw [mulAll, h, Int.add_emod, ih (by omega), ← Int.add_emod, Sm]

/-- The product's sum. -/
theorem mulL_sum (K : Nat) (a b : List Int) (u : Nat → Int) (hb : 1 ≤ b.length) :
    Sm (fun t => (mulL K a b).getD t 0 * u t) (a.length + b.length - 1) % K = Sm (fun i => a.getD i 0 * (Sm (fun j => b.getD j 0 * u (i + j)) b.length % K)) a.length % K := by
  rw [mulL, mulAll_sum K a b u hb a.length (Nat.le_refl _)]
  refine Sm_mod _ fun i _ => ?_
  rw [Int.mul_emod, ← Int.mul_emod, Int.mul_emod (a.getD i 0) (_ % _), Int.emod_emod, ← Int.mul_emod]

theorem sumStep_at (K : Nat) (x : Int) (T : List Int) (n s : Nat) (hn : n < T.length) (hs : s < K) : (sumStep K x T).getD (n * K + s) 0 = (T.getD n 0 + x * s) % K := by
  induction T generalizing n with
  | nil => simp at hn
  | cons y T ih =>
    have e : sumStep K x (y :: T) = sumRow K x y K ++ sumStep K x T := by simp [sumStep]
    rw [e]
    cases n with
    | zero =>
      have h : s < (sumRow K x y K).length := by rw [sumRow_length]; exact hs
      rw [Nat.zero_mul, Nat.zero_add]
      simp only [List.getD, List.getElem?_append_left h]
      simp [sumRow, hs]
    | succ n =>
      have h : (sumRow K x y K).length ≤ (n + 1) * K + s := by rw [sumRow_length, Nat.succ_mul]; omega
      have e2 : (n + 1) * K + s - (sumRow K x y K).length = n * K + s := by rw [sumRow_length, Nat.succ_mul]; omega
      have := ih n (by simpa using hn)
      simp only [List.getD, List.getElem?_append_right h, e2, List.getElem?_cons_succ] at this ⊢
      exact this

theorem numW_bound {K : Nat} {w : List Int} (h : Syms K w) {f : List Int} (hl : f.length = w.length) : numW K w < (sumT K f).length := by
  rw [sumT_length, hl]; exact numW_lt w h

/-- A sum's symbol at a window. -/
theorem sumT_at (K : Nat) (f w : List Int) (hl : f.length = w.length) (hw : Syms K w) :
    (sumT K f).getD (numW K w) 0 = Sm (fun i => f.getD i 0 * w.getD i 0) f.length % K := by
  induction hn : f.length generalizing f w with
  | zero =>
    obtain rfl := List.eq_nil_of_length_eq_zero hn
    obtain rfl := List.eq_nil_of_length_eq_zero (hl.symm.trans hn)
    simp [sumT, sumTable, numW, Sm]
  | succ n ih =>
    have hf : f ≠ [] := by intro e; subst e; simp at hn
    have hwe : w ≠ [] := by intro e; subst e; simp at hl; exact hf hl
    obtain ⟨g, x, rfl⟩ : ∃ g x, f = g ++ [x] := ⟨f.dropLast, f.getLast hf, (List.dropLast_concat_getLast hf).symm⟩
    obtain ⟨v, y, rfl⟩ : ∃ v y, w = v ++ [y] := ⟨w.dropLast, w.getLast hwe, (List.dropLast_concat_getLast hwe).symm⟩
    have hgn : g.length = n := by simpa using hn
    have hgv : g.length = v.length := by simpa using hl
    have hv : Syms K v := fun z hz => hw z (by simp [hz])
    have hy := hw y (by simp)
    rw [numW_snoc, sumT, sumTable_snoc]
    have := sumStep_at K x (sumTable K [0] g) (numW K v) y.toNat (numW_bound hv hgv) (by omega)
    rw [this, show (sumTable K [0] g).getD (numW K v) 0 = (sumT K g).getD (numW K v) 0 from rfl, ih g v hgv hv hgn, Int.emod_add_emod, Sm]
    congr 2
    · refine Sm_congr _ fun i hi => ?_
      rw [← hgn] at hi
      simp only [List.getD, List.getElem?_append_left hi, List.getElem?_append_left (show i < v.length by omega)]
    · have e1 : (g ++ [x]).getD n 0 = x := by rw [← hgn]; simp [List.getD]
      have e2 : (v ++ [y]).getD n 0 = y := by rw [← hgn, hgv]; simp [List.getD]
      rw [e1, e2]
      rw [show ((y.toNat : Nat) : Int) = y by omega]

/-- The window of a number. -/
def digs (K : Nat) : Nat → Nat → List Int
  | 0, _ => []
  | n + 1, x => digs K n (x / K) ++ [((x % K : Nat) : Int)]
theorem digs_length (K n x : Nat) : (digs K n x).length = n := by
  induction n generalizing x with
  | zero => rfl
  | succ n ih => simp [digs, ih]
theorem digs_syms {K : Nat} (hK : 1 ≤ K) (n x : Nat) : Syms K (digs K n x) := by
  induction n generalizing x with
  | zero => intro y hy; simp [digs] at hy
  | succ n ih =>
    intro y hy
    rw [digs, List.mem_append, List.mem_singleton] at hy
    rcases hy with hy | rfl
    · exact ih _ y hy
    · have := Nat.mod_lt x (show 0 < K by omega); omega
theorem numW_digs {K : Nat} (hK : 1 ≤ K) (n x : Nat) (hx : x < pw K n) : numW K (digs K n x) = x := by
  induction n generalizing x with
  | zero => simp [pw] at hx; subst hx; rfl
  | succ n ih =>
    rw [digs, numW_snoc, ih _ (by rw [Nat.div_lt_iff_lt_mul (by omega), ← pw_succ]; exact hx), Int.toNat_natCast]
    exact Nat.div_add_mod' x K

/-- The image of a word, window by window. -/
def imgP (K R : Nat) (T : List Int) (w : List Int) : List Int := (List.range (w.length - 2 * R)).map fun i => T.getD (numW K ((w.drop i).take (2 * R + 1))) 0
/-- The table of one rule behind another. -/
def behindT (K R1 : Nat) (T1 : List Int) (R2 : Nat) (T2 : List Int) : List Int :=
  (List.range (pw K (2 * (R1 + R2) + 1))).map fun x => T1.getD (numW K (imgP K R2 T2 (digs K (2 * (R1 + R2) + 1) x))) 0

theorem imgP_length (K R : Nat) (T w : List Int) : (imgP K R T w).length = w.length - 2 * R := by simp [imgP]
theorem imgP_getD (K R : Nat) (T w : List Int) (i : Nat) (hi : i < w.length - 2 * R) : (imgP K R T w).getD i 0 = T.getD (numW K ((w.drop i).take (2 * R + 1))) 0 := by
  simp [imgP, List.getD, hi]
theorem imgP_syms {K : Nat} (hK : 1 ≤ K) {R : Nat} {T w : List Int} (hT : Syms K T) : Syms K (imgP K R T w) := by
  intro y hy
  obtain ⟨i, _, rfl⟩ := List.mem_map.1 hy
  exact hT.getD (by omega) _

theorem window_sum {K R1 R2 : Nat} (hK : 1 ≤ K) {a b w : List Int} (ha : a.length = 2 * R1 + 1) (hb : b.length = 2 * R2 + 1) (hw : Syms K w) (hl : w.length = 2 * (R1 + R2) + 1) :
    (sumT K a).getD (numW K (imgP K R2 (sumT K b) w)) 0 = (sumT K (mulL K a b)).getD (numW K w) 0 := by
  have hml : (mulL K a b).length = a.length + b.length - 1 := mulL_length ..
  rw [sumT_at K a _ (by rw [imgP_length]; omega) (imgP_syms hK (sumT_syms hK b)), sumT_at K (mulL K a b) w (by omega) hw, hml, mulL_sum K a b (fun i => w.getD i 0) (by omega)]
  refine Sm_mod _ fun i hi => ?_
  rw [imgP_getD _ _ _ _ _ (by omega)]
  congr 2
  have hwl : ((w.drop i).take (2 * R2 + 1)).length = 2 * R2 + 1 := by simp; omega
  rw [sumT_at K b _ (by omega) (fun x hx => hw x (List.mem_of_mem_drop (List.mem_of_mem_take hx)))]
  congr 1
  refine Sm_congr _ fun j hj => ?_
  congr 1
  simp [List.getD, List.getElem?_drop, show j < 2 * R2 + 1 by omega]

/-- One sum behind another is the sum of the product. -/
theorem behind_sum {K R1 R2 : Nat} (hK : 1 ≤ K) {a b : List Int} (ha : a.length = 2 * R1 + 1) (hb : b.length = 2 * R2 + 1) :
    behindT K R1 (sumT K a) R2 (sumT K b) = sumT K (mulL K a b) := by
  have hml : (mulL K a b).length = 2 * (R1 + R2) + 1 := by rw [mulL_length]; omega
  refine List.ext_getElem (by simp [behindT, sumT_length, hml]) fun x h1 h2 => ?_
  have hx : x < pw K (2 * (R1 + R2) + 1) := by simpa [behindT] using h1
  simp only [behindT, List.getElem_map, List.getElem_range]
  rw [window_sum hK ha hb (digs_syms hK _ _) (digs_length ..), numW_digs hK _ _ hx]
  simp [List.getD, h2]
end Go.Proofs.YthnkdiejmclmkaaDoor

namespace Go.Proofs.YthnkdiejmclmkaaDoor

theorem numW_append (K : Nat) (u v : List Int) : numW K (u ++ v) = numW K u * pw K v.length + numW K v := by
  induction hn : v.length generalizing v with
  | zero =>
    obtain rfl := List.eq_nil_of_length_eq_zero hn
    simp [numW, pw]
  | succ n ih =>
    have hne : v ≠ [] := by intro e; subst e; simp at hn
    obtain ⟨b, x, rfl⟩ : ∃ b x, v = b ++ [x] := ⟨v.dropLast, v.getLast hne, (List.dropLast_concat_getLast hne).symm⟩
    have hb : b.length = n := by simpa using hn
    rw [← List.append_assoc, numW_snoc, numW_snoc, ih b hb, pw_succ, Nat.add_mul, Nat.mul_assoc]
    omega
theorem numW_mod {K : Nat} {u v : List Int} (h : Syms K v) : numW K (u ++ v) % pw K v.length = numW K v := by
  rw [numW_append, Nat.mul_comm, Nat.mul_add_mod, Nat.mod_eq_of_lt (numW_lt v h)]

/-- One symbol more. -/
theorem imgP_snoc {K R : Nat} {T w : List Int} {x : Int} (hT : T.length = pw K (2 * R + 1)) (hw : Syms K (w ++ [x])) :
    imgP K R T (w ++ [x]) = if 2 * R ≤ w.length then imgP K R T w ++ [T.getD (numW K (w ++ [x]) % T.length) 0] else imgP K R T w := by
  by_cases h : 2 * R ≤ w.length
  · rw [if_pos h]
    unfold imgP
    rw [show (w ++ [x]).length - 2 * R = (w.length - 2 * R) + 1 by simp; omega, List.range_succ, List.map_append]
    congr 1
    · refine List.map_congr_left fun i hi => ?_
      have hi' := List.mem_range.1 hi
      congr 2
      rw [List.drop_append_of_le_length (by omega), List.take_append_of_le_length (by simp; omega)]
    · simp only [List.map_cons, List.map_nil]
      congr 2
      have e : ((w ++ [x]).drop (w.length - 2 * R)).take (2 * R + 1) = (w ++ [x]).drop (w.length - 2 * R) := List.take_of_length_le (by simp; omega)
      rw [e, hT]
      have hl : ((w ++ [x]).drop (w.length - 2 * R)).length = 2 * R + 1 := by simp; omega
      have := numW_mod (K := K) (u := (w ++ [x]).take (w.length - 2 * R)) (v := (w ++ [x]).drop (w.length - 2 * R)) (fun y hy => hw y (List.mem_of_mem_drop hy))
      rw [List.take_append_drop, hl] at this
      exact this.symm
  · rw [if_neg h]
    unfold imgP
    rw [show (w ++ [x]).length - 2 * R = 0 by simp; omega, show w.length - 2 * R = 0 by omega]
    rfl
theorem numW_step (K : Nat) (w : List Int) (x : Int) (L : Nat) : numW K (w ++ [x]) % L = (numW K w % L * K + x.toNat) % L := by
  rw [numW_snoc, Nat.add_mod, Nat.mul_mod, ← Nat.mod_mod (numW K w) L, ← Nat.mul_mod, ← Nat.add_mod, Nat.mod_mod]

/-- A window's digits, from the last on. -/
theorem digs_getD (K n x j : Nat) (hj : j < n) : (digs K n x).getD (n - 1 - j) 0 = ((x / pw K j % K : Nat) : Int) := by
  induction n generalizing x j with
  | zero => omega
  | succ n ih =>
    rw [digs]
    cases j with
    | zero =>
      rw [pw_zero, Nat.div_one, show n + 1 - 1 - 0 = (digs K n (x / K)).length by rw [digs_length]; omega]
      simp [List.getD]
    | succ j =>
      have h := ih (x / K) j (by omega)
      have hl : n + 1 - 1 - (j + 1) < (digs K n (x / K)).length := by rw [digs_length]; omega
      simp only [List.getD, List.getElem?_append_left hl] at h ⊢
      rw [show n + 1 - 1 - (j + 1) = n - 1 - j by omega, h, pw_succ, Nat.div_div_eq_div_mul, Nat.mul_comm]

/-- The window's list while it is filled from its end. -/
theorem digs_fill (K n x j : Nat) (hj : j < n) (p : List Int) (hp : p.length = n) :
    (p.take (n - j) ++ (digs K n x).drop (n - j)).set (n - 1 - j) ((x / pw K j % K : Nat) : Int) = p.take (n - (j + 1)) ++ (digs K n x).drop (n - (j + 1)) := by
  have hd := digs_getD K n x j hj
  have hdl := digs_length K n x
  rw [show n - (j + 1) = n - 1 - j by omega, show n - j = n - 1 - j + 1 by omega]
  have hm : n - 1 - j < n := by omega
  generalize n - 1 - j = m at hd hm
  rw [← hd, take_snoc p m (by omega), List.drop_eq_getElem_cons (show m < (digs K n x).length by omega), List.append_assoc, List.set_append_right _ _ (by simp; omega)]
  have e : m - (p.take m).length = 0 := by simp; omega
  rw [e]
  simp [List.getD, show m < (digs K n x).length by omega]
end Go.Proofs.YthnkdiejmclmkaaDoor

namespace Go.Proofs.YthnkdiejmclmkaaDoor

theorem numW_cons (K : Nat) (s : Int) (u : List Int) : numW K (s :: u) = s.toNat * pw K u.length + numW K u := by
  have := numW_append K [s] u
  simpa [numW] using this

theorem digs_numW {K : Nat} (hK : 1 ≤ K) (w : List Int) (h : Syms K w) : digs K w.length (numW K w) = w := by
  induction hn : w.length generalizing w with
  | zero => obtain rfl := List.eq_nil_of_length_eq_zero hn; rfl
  | succ n ih =>
    have hne : w ≠ [] := by intro e; subst e; simp at hn
    obtain ⟨b, x, rfl⟩ : ∃ b x, w = b ++ [x] := ⟨w.dropLast, w.getLast hne, (List.dropLast_concat_getLast hne).symm⟩
    have hb : b.length = n := by simpa using hn
    have hx := h x (by simp)
    have hxn : x.toNat < K := by omega
    have := ih b (fun y hy => h y (by simp [hy])) hb
    rw [digs, numW_snoc]
    rw [show (numW K b * K + x.toNat) / K = numW K b by rw [Nat.mul_comm, Nat.mul_add_div (by omega), Nat.div_eq_of_lt hxn, Nat.add_zero], this,
      show (numW K b * K + x.toNat) % K = x.toNat by rw [Nat.mul_comm, Nat.mul_add_mod, Nat.mod_eq_of_lt hxn]]
    congr 2
    omega

/-- The mirrored table. -/
def mirT (K n : Nat) (T : List Int) : List Int := (List.range T.length).map fun i => T.getD (numW K (digs K n i).reverse) 0
theorem mirT_length (K n : Nat) (T : List Int) : (mirT K n T).length = T.length := by simp [mirT]
theorem mirT_syms {K : Nat} (hK : 1 ≤ K) (n : Nat) {T : List Int} (h : Syms K T) : Syms K (mirT K n T) := by
  intro y hy
  obtain ⟨i, _, rfl⟩ := List.mem_map.1 hy
  exact h.getD (by omega) _
theorem mirT_at {K n : Nat} (hK : 1 ≤ K) {T : List Int} (hT : T.length = pw K n) (w : List Int) (hw : Syms K w) (hl : w.length = n) : (mirT K n T).getD (numW K w) 0 = T.getD (numW K w.reverse) 0 := by
  have hlt := numW_lt w hw
  rw [hl, ← hT] at hlt
  have : (mirT K n T).getD (numW K w) 0 = T.getD (numW K (digs K n (numW K w)).reverse) 0 := by simp [mirT, List.getD, hlt]
  rw [this, ← hl, digs_numW hK w hw]
theorem mirT_ok {K R : Nat} {T : List Int} (h : RuleOk K R T) : RuleOk K R (mirT K (2 * R + 1) T) :=
  ⟨h.k1, h.k4, h.r3, by rw [mirT_length]; exact h.len, mirT_syms h.k1 _ h.syms⟩

/-- edenref19.right's answer. -/
def rightR (K : Nat) (T : List Int) : Bool := decide (∀ i, i < T.length → ∀ j, j < T.length → i < j → j / K = i / K → T.getD i 0 ≠ T.getD j 0)
theorem rightR_false {K : Nat} {T : List Int} (i j : Nat) (hj : j < T.length) (h : i < j) (hq : j / K = i / K) (e : T.getD i 0 = T.getD j 0) : rightR K T = false := by
  rw [rightR, decide_eq_false_iff_not]
  intro hh
  exact hh i (by omega) j hj h hq e
theorem rightR_true {K : Nat} {T : List Int} (h : ∀ i, i < T.length → ∀ j, j < T.length → i < j → j / K = i / K → T.getD i 0 ≠ T.getD j 0) : rightR K T = true := by
  rw [rightR, decide_eq_true_iff]; exact h

theorem bits2 : ∀ a b : Fin 2, ((0 ||| 2 ^ a.val) ||| 2 ^ b.val == 2 ^ 2 - 1) = decide (a ≠ b) := by decide
theorem bits3 : ∀ a b c : Fin 3, (((0 ||| 2 ^ a.val) ||| 2 ^ b.val) ||| 2 ^ c.val == 2 ^ 3 - 1) = decide (a ≠ b ∧ a ≠ c ∧ b ≠ c) := by decide
theorem bits4 : ∀ a b c d : Fin 4, ((((0 ||| 2 ^ a.val) ||| 2 ^ b.val) ||| 2 ^ c.val) ||| 2 ^ d.val == 2 ^ 4 - 1) = decide (a ≠ b ∧ a ≠ c ∧ a ≠ d ∧ b ≠ c ∧ b ≠ d ∧ c ≠ d) := by decide +kernel

theorem fullP_iff {K : Nat} (h1 : 1 ≤ K) (h4 : K ≤ 4) {T : List Int} (hT : Syms K T) (W i : Nat) :
    fullP K T W i = true ↔ ∀ s t, s < t → t < K → T.getD (i + s * W) 0 ≠ T.getD (i + t * W) 0 := by
  have hx : ∀ s, ∃ a : Fin K, T.getD (i + s * W) 0 = (a.val : Int) := fun s => by
    have := hT.getD (by omega) (i + s * W)
    exact ⟨⟨(T.getD (i + s * W) 0).toNat, by omega⟩, by simp only []; omega⟩
  have hk : K = 1 ∨ K = 2 ∨ K = 3 ∨ K = 4 := by omega
  unfold fullP
  rcases hk with rfl | rfl | rfl | rfl
  · obtain ⟨a, ha⟩ := hx 0
    simp only [seenP, ha, Int.toNat_natCast]
    have : a.val = 0 := by omega
    rw [this]
    exact ⟨fun _ s t h h' => by omega, fun _ => rfl⟩
  · obtain ⟨a, ha⟩ := hx 0
    obtain ⟨b, hb⟩ := hx 1
    simp only [seenP, ha, hb, Int.toNat_natCast, bits2, decide_eq_true_iff]
    constructor
    · intro h s t hst ht
      obtain rfl : s = 0 := by omega
      obtain rfl : t = 1 := by omega
      rw [ha, hb]
      intro e; exact h (Fin.ext (by omega))
    · intro h e
      have := h 0 1 (by omega) (by omega)
      rw [ha, hb, e] at this; exact this rfl
  · obtain ⟨a, ha⟩ := hx 0
    obtain ⟨b, hb⟩ := hx 1
    obtain ⟨c, hc⟩ := hx 2
    simp only [seenP, ha, hb, hc, Int.toNat_natCast, bits3, decide_eq_true_iff]
    constructor
    · rintro ⟨n1, n2, n3⟩ s t hst ht
      have : (s = 0 ∧ t = 1) ∨ (s = 0 ∧ t = 2) ∨ (s = 1 ∧ t = 2) := by omega
      rcases this with ⟨rfl, rfl⟩ | ⟨rfl, rfl⟩ | ⟨rfl, rfl⟩
      · rw [ha, hb]; intro e; exact n1 (Fin.ext (by omega))
      · rw [ha, hc]; intro e; exact n2 (Fin.ext (by omega))
      · rw [hb, hc]; intro e; exact n3 (Fin.ext (by omega))
    · intro h
      refine ⟨fun e => ?_, fun e => ?_, fun e => ?_⟩
      · have := h 0 1 (by omega) (by omega); rw [ha, hb, e] at this; exact this rfl
      · have := h 0 2 (by omega) (by omega); rw [ha, hc, e] at this; exact this rfl
      · have := h 1 2 (by omega) (by omega); rw [hb, hc, e] at this; exact this rfl
  · obtain ⟨a, ha⟩ := hx 0
    obtain ⟨b, hb⟩ := hx 1
    obtain ⟨c, hc⟩ := hx 2
    obtain ⟨d, hd⟩ := hx 3
    simp only [seenP, ha, hb, hc, hd, Int.toNat_natCast, bits4, decide_eq_true_iff]
    constructor
    · rintro ⟨n1, n2, n3, n4, n5, n6⟩ s t hst ht
      have : (s = 0 ∧ t = 1) ∨ (s = 0 ∧ t = 2) ∨ (s = 0 ∧ t = 3) ∨ (s = 1 ∧ t = 2) ∨ (s = 1 ∧ t = 3) ∨ (s = 2 ∧ t = 3) := by omega
      rcases this with ⟨rfl, rfl⟩ | ⟨rfl, rfl⟩ | ⟨rfl, rfl⟩ | ⟨rfl, rfl⟩ | ⟨rfl, rfl⟩ | ⟨rfl, rfl⟩
      · rw [ha, hb]; intro e; exact n1 (Fin.ext (by omega))
      · rw [ha, hc]; intro e; exact n2 (Fin.ext (by omega))
      · rw [ha, hd]; intro e; exact n3 (Fin.ext (by omega))
      · rw [hb, hc]; intro e; exact n4 (Fin.ext (by omega))
      · rw [hb, hd]; intro e; exact n5 (Fin.ext (by omega))
      · rw [hc, hd]; intro e; exact n6 (Fin.ext (by omega))
    · intro h
      refine ⟨fun e => ?_, fun e => ?_, fun e => ?_, fun e => ?_, fun e => ?_, fun e => ?_⟩
      · have := h 0 1 (by omega) (by omega); rw [ha, hb, e] at this; exact this rfl
      · have := h 0 2 (by omega) (by omega); rw [ha, hc, e] at this; exact this rfl
      · have := h 0 3 (by omega) (by omega); rw [ha, hd, e] at this; exact this rfl
      · have := h 1 2 (by omega) (by omega); rw [hb, hc, e] at this; exact this rfl
      · have := h 1 3 (by omega) (by omega); rw [hb, hd, e] at this; exact this rfl
      · have := h 2 3 (by omega) (by omega); rw [hc, hd, e] at this; exact this rfl

theorem unlikeP_iff {K : Nat} {T : List Int} {W : Nat} : unlikeP K T W = true ↔ ∀ i, i < T.length → i / W % K = 0 → fullP K T W i = true :=
  ⟨fun h i => unlikeP_full h i, unlikeP_true⟩

theorem mul_add_lt {K q s m : Nat} (hs : s < K) (hq : q < m) : q * K + s < m * K := by
  have := Nat.mul_le_mul_right K (show q + 1 ≤ m from hq)
  rw [Nat.succ_mul] at this
  omega
theorem div_mk {K q s : Nat} (hs : s < K) : (q * K + s) / K = q := by
  rw [Nat.mul_comm, Nat.mul_add_div (by omega), Nat.div_eq_of_lt hs, Nat.add_zero]
theorem mod_mk {K q s : Nat} (hs : s < K) : (q * K + s) % K = s := by
  rw [Nat.mul_comm, Nat.mul_add_mod, Nat.mod_eq_of_lt hs]

/-- The last place permutes: the program's test is the document's. -/
theorem unlike_right {K R : Nat} {T : List Int} (h : RuleOk K R T) : unlikeP K T 1 = rightR K T := by
  have h1 := h.k1
  have hl := h.half.2
  rw [Bool.eq_iff_iff, unlikeP_iff, rightR, decide_eq_true_iff]
  constructor
  · intro hu i hi j hj hij hq
    have e1 := Nat.div_add_mod' i K
    have e2 := Nat.div_add_mod' j K
    have m1 := Nat.mod_lt i (show K > 0 by omega)
    have m2 := Nat.mod_lt j (show K > 0 by omega)
    rw [hq] at e2
    have := (fullP_iff h1 h.k4 h.syms 1 (i / K * K)).1 (hu _ (by omega) (by rw [Nat.div_one, Nat.mul_mod_left])) (i % K) (j % K) (by omega) m2
    rwa [Nat.mul_one, Nat.mul_one, e1, e2] at this
  · intro hr i hi hm
    rw [Nat.div_one] at hm
    obtain ⟨q, rfl⟩ : ∃ q, i = q * K := ⟨i / K, by have := Nat.div_add_mod' i K; omega⟩
    have hq : q < pw K (2 * R) := Nat.lt_of_mul_lt_mul_right (a := K) (by rw [← hl]; exact hi)
    refine (fullP_iff h1 h.k4 h.syms 1 _).2 fun s t hst ht => ?_
    have l2 := mul_add_lt ht hq
    rw [← hl] at l2
    have := hr (q * K + s) (by omega) (q * K + t) l2 (by omega) (by rw [div_mk ht, div_mk (by omega)])
    rwa [Nat.mul_one, Nat.mul_one]

theorem digs_snoc {K : Nat} (n x : Nat) : digs K (n + 1) x = digs K n (x / K) ++ [((x % K : Nat) : Int)] := rfl

/-- The first place permutes just if the mirrored rule's last does. -/
theorem unlike_left {K R : Nat} {T : List Int} (h : RuleOk K R T) : unlikeP K T (T.length / K) = rightR K (mirT K (2 * R + 1) T) := by
  have h1 := h.k1
  obtain ⟨hW, hl⟩ := h.half
  have hMl := mirT_length K (2 * R + 1) T
  have hp := pw_pos (K := K) (2 * R) h1
  rw [hW, Bool.eq_iff_iff, unlikeP_iff, rightR, decide_eq_true_iff, hMl]
  have key : ∀ q s, q < pw K (2 * R) → s < K → (mirT K (2 * R + 1) T).getD (q * K + s) 0 = T.getD (numW K (digs K (2 * R) q).reverse + s * pw K (2 * R)) 0 := by
    intro q s hq hs
    have hsy : Syms K (digs K (2 * R) q ++ [(s : Int)]) := by
      intro y hy
      rcases List.mem_append.1 hy with hy | hy
      · exact digs_syms h1 _ _ y hy
      · rw [List.mem_singleton] at hy; subst hy; omega
    have := mirT_at h1 h.len (digs K (2 * R) q ++ [(s : Int)]) hsy (by simp [digs_length])
    rw [numW_snoc, numW_digs h1 _ _ hq, Int.toNat_natCast, List.reverse_append, List.reverse_singleton, List.singleton_append, numW_cons, Int.toNat_natCast, List.length_reverse, digs_length, Nat.add_comm (s * _)] at this
    exact this
  have rsy : ∀ q, Syms K (digs K (2 * R) q).reverse := fun q y hy => digs_syms h1 _ _ y (List.mem_reverse.1 hy)
  have rlt : ∀ q, numW K (digs K (2 * R) q).reverse < pw K (2 * R) := fun q => by
    have := numW_lt _ (rsy q)
    rwa [List.length_reverse, digs_length] at this
  constructor
  · intro hu i hi j hj hij hq
    have e1 := Nat.div_add_mod' i K
    have e2 := Nat.div_add_mod' j K
    have m1 := Nat.mod_lt i (show K > 0 by omega)
    have m2 := Nat.mod_lt j (show K > 0 by omega)
    rw [hq] at e2
    have hqi : i / K < pw K (2 * R) := by rw [Nat.div_lt_iff_lt_mul (by omega), ← hl]; exact hi
    have a1 := key (i / K) (i % K) hqi m1
    have a2 := key (i / K) (j % K) hqi m2
    rw [e1] at a1
    rw [e2] at a2
    rw [a1, a2]
    have lt := rlt (i / K)
    refine (fullP_iff h1 h.k4 h.syms (pw K (2 * R)) _).1 (hu _ ?_ ?_) (i % K) (j % K) (by omega) m2
    · rw [hl]; have := Nat.mul_le_mul_left (pw K (2 * R)) h1; omega
    · rw [Nat.div_eq_of_lt lt, Nat.zero_mod]
  · intro hr i hi hm
    have hiW : i < pw K (2 * R) := by
      have hdl : i / pw K (2 * R) < K := by rw [Nat.div_lt_iff_lt_mul (by omega), Nat.mul_comm, ← hl]; exact hi
      rw [Nat.mod_eq_of_lt hdl] at hm
      have := Nat.div_add_mod i (pw K (2 * R))
      have := Nat.mod_lt i (show pw K (2 * R) > 0 by omega)
      rw [hm] at *
      omega
    refine (fullP_iff h1 h.k4 h.syms (pw K (2 * R)) i).2 fun s t hst ht => ?_
    have hq := rlt i
    have a1 := key _ s hq (by omega)
    have a2 := key _ t hq ht
    have back : numW K (digs K (2 * R) (numW K (digs K (2 * R) i).reverse)).reverse = i := by
      have := digs_numW h1 _ (rsy i)
      rw [List.length_reverse, digs_length] at this
      rw [this, List.reverse_reverse, numW_digs h1 _ _ hiW]
    rw [back] at a1 a2
    rw [← a1, ← a2]
    have l2 := mul_add_lt ht hq
    rw [← hl] at l2
    exact hr _ (by omega) _ l2 (by omega) (by rw [div_mk ht, div_mk (by omega)])

/-- The symbols to the right, and the node behind them: the last 2 R symbols. -/
theorem num_shift {K : Nat} {u : List Int} {s : Int} (h : Syms K (u ++ [s])) : numW K ((u ++ [s]).drop 1) = numW K (u ++ [s]) % pw K u.length := by
  have hl : ((u ++ [s]).drop 1).length = u.length := by simp
  have := numW_mod (K := K) (u := (u ++ [s]).take 1) (v := (u ++ [s]).drop 1) (fun y hy => h y (List.mem_of_mem_drop hy))
  rw [List.take_append_drop, hl] at this
  exact this.symm
theorem rightP_syms {K : Nat} (hK : 1 ≤ K) (T : List Int) (node : Nat) (w : List Int) : Syms K (rightP K T node w) := by
  induction w generalizing node with
  | nil => intro y hy; cases hy
  | cons x w ih =>
    intro y hy
    rw [rightP, List.mem_cons] at hy
    rcases hy with rfl | hy
    · have := fit_lt hK T (node * K) 1 x; omega
    · exact ih _ y hy
theorem on_front {K R : Nat} {T : List Int} (hK : 1 ≤ K) (hW : T.length / K = pw K (2 * R)) (zs ys : List Int) (hz : Syms K zs) (hl : zs.length = 2 * R) :
    numW K ((zs ++ rightP K T (numW K zs) ys).drop ys.length) = rightN K T (numW K zs) ys := by
  induction hn : ys.length generalizing ys with
  | zero => obtain rfl := List.eq_nil_of_length_eq_zero hn; simp [rightP, rightN]
  | succ n ih =>
    have hne : ys ≠ [] := by intro e; subst e; simp at hn
    obtain ⟨b, x, rfl⟩ : ∃ b x, ys = b ++ [x] := ⟨ys.dropLast, ys.getLast hne, (List.dropLast_concat_getLast hne).symm⟩
    have hb : b.length = n := by simpa using hn
    have ih' := ih b hb
    rw [rightP_snoc, rightN_snoc, ← List.append_assoc, ← ih', hW]
    have hPl := rightP_length K T (numW K zs) b
    have hs := fit_lt hK T (numW K ((zs ++ rightP K T (numW K zs) b).drop n) * K) 1 x
    generalize fit K T (numW K ((zs ++ rightP K T (numW K zs) b).drop n) * K) 1 x = s at *
    have hu : Syms K (zs ++ rightP K T (numW K zs) b) := by
      intro y hy
      rcases List.mem_append.1 hy with hy | hy
      · exact hz y hy
      · exact rightP_syms hK _ _ _ y hy
    have hul : (zs ++ rightP K T (numW K zs) b).length = 2 * R + n := by simp [hPl, hl, hb]
    generalize zs ++ rightP K T (numW K zs) b = u at *
    have e : (u ++ [(s : Int)]).drop (n + 1) = (u.drop n ++ [(s : Int)]).drop 1 := by
      rw [← List.drop_drop, List.drop_append_of_le_length (by omega)]
    have hdl : (u.drop n).length = 2 * R := by simp; omega
    rw [e, num_shift, numW_snoc, hdl, Int.toNat_natCast]
    intro y hy
    rcases List.mem_append.1 hy with hy | hy
    · exact hu y (List.mem_of_mem_drop hy)
    · rw [List.mem_singleton] at hy; subst hy; omega

theorem fitP_congr {T M : List Int} {r1 W1 r2 W2 : Nat} (image : Int) (n s : Nat) (h : ∀ t, t < s + n → T.getD (r1 + t * W1) 0 = M.getD (r2 + t * W2) 0) : fitP T r1 W1 image n s = fitP M r2 W2 image n s := by
  induction n generalizing s with
  | zero => rfl
  | succ n ih => rw [fitP, fitP, h s (by omega), ih (s + 1) (fun t ht => h t (by omega))]

/-- The symbols to the left are those to the right by the mirrored rule, mirrored. -/
theorem left_mirror {K R : Nat} {T : List Int} (h : RuleOk K R T) (zs ys : List Int) (hz : Syms K zs) (hl : zs.length = 2 * R) :
    ∃ u, u.length = 2 * R ∧ Syms K u ∧ (leftS K T (numW K zs) ys).1 = numW K u ∧ rightN K (mirT K (2 * R + 1) T) (numW K zs.reverse) ys.reverse = numW K u.reverse ∧
      (leftS K T (numW K zs) ys).2 = (rightP K (mirT K (2 * R + 1) T) (numW K zs.reverse) ys.reverse).reverse := by
  have h1 := h.k1
  obtain ⟨hW, hlen⟩ := h.half
  have hMW : (mirT K (2 * R + 1) T).length / K = pw K (2 * R) := by rw [mirT_length]; exact hW
  induction ys with
  | nil => exact ⟨zs, hl, hz, rfl, rfl, rfl⟩
  | cons x w ih =>
    obtain ⟨u, hul, hu, e1, e2, e3⟩ := ih
    have hf : fit K T (numW K u) (T.length / K) x = fit K (mirT K (2 * R + 1) T) (numW K u.reverse * K) 1 x := by
      refine fitP_congr x K 0 fun t ht => ?_
      have hsy : Syms K (u.reverse ++ [(t : Int)]) := by
        intro y hy
        rcases List.mem_append.1 hy with hy | hy
        · exact hu y (List.mem_reverse.1 hy)
        · rw [List.mem_singleton] at hy; subst hy; omega
      have := mirT_at h1 h.len (u.reverse ++ [(t : Int)]) hsy (by simp [hul])
      rw [numW_snoc, Int.toNat_natCast, List.reverse_append, List.reverse_singleton, List.singleton_append, List.reverse_reverse, numW_cons, Int.toNat_natCast, hul] at this
      rw [hW, Nat.mul_one, this, Nat.add_comm]
    have hs := fit_lt h1 T (numW K u) (T.length / K) x
    have es : (leftS K T (numW K zs) (x :: w)) = ((fit K T (numW K u) (T.length / K) x * (T.length / K) + numW K u) / K, (fit K T (numW K u) (T.length / K) x : Int) :: (leftS K T (numW K zs) w).2) := by
      rw [leftS, e1]
    rw [es, List.reverse_cons, rightP_snoc, rightN_snoc, e2, ← hf, e3, hMW]
    rw [hW] at hf hs es ⊢
    generalize fit K T (numW K u) (pw K (2 * R)) x = s at *
    have hsu : Syms K ((s : Int) :: u) := by
      intro y hy
      rcases List.mem_cons.1 hy with rfl | hy
      · omega
      · exact hu y hy
    have hne : ((s : Int) :: u) ≠ [] := by simp
    have hcat := List.dropLast_concat_getLast hne
    have hv : Syms K ((s : Int) :: u).dropLast := fun y hy => hsu y (List.dropLast_subset _ hy)
    refine ⟨((s : Int) :: u).dropLast, by simp [hul], hv, ?_, ?_, ?_⟩
    · have e := numW_cons K s u
      rw [Int.toNat_natCast, hul] at e
      show (s * pw K (2 * R) + numW K u) / K = _
      rw [← e, ← hcat, numW_snoc, hcat, div_mk]
      have := hsu _ (List.getLast_mem hne)
      omega
    · have e : (u.reverse ++ [(s : Int)]).drop 1 = ((s : Int) :: u).dropLast.reverse := by
        rw [List.dropLast_eq_take, List.reverse_take]
        simp
      have hr : Syms K (u.reverse ++ [(s : Int)]) := by
        intro y hy
        apply hsu
        simpa [or_comm] using hy
      rw [← e, num_shift hr, numW_snoc, List.length_reverse, hul, Int.toNat_natCast]
    · simp
end Go.Proofs.YthnkdiejmclmkaaDoor

namespace Go.Proofs.YthnkdiejmclmkaaDoor

theorem syms_cons {K : Nat} {s : Int} {u : List Int} (h0 : 0 ≤ s) (h1 : s < K) (hu : Syms K u) : Syms K (s :: u) := by
  intro y hy
  rcases List.mem_cons.1 hy with rfl | hy
  · exact ⟨h0, h1⟩
  · exact hu y hy
theorem syms_snoc {K : Nat} {s : Int} {u : List Int} (h0 : 0 ≤ s) (h1 : s < K) (hu : Syms K u) : Syms K (u ++ [s]) := by
  intro y hy
  rcases List.mem_append.1 hy with hy | hy
  · exact hu y hy
  · rw [List.mem_singleton] at hy; subst hy; exact ⟨h0, h1⟩
theorem syms_rev {K : Nat} {u : List Int} (hu : Syms K u) : Syms K u.reverse := fun y hy => hu y (List.mem_reverse.1 hy)

/-- The first symbol of the window permutes. -/
def LeftW (K m : Nat) (T : List Int) : Prop := ∀ u, Syms K u → u.length = m → ∀ s t : Int, 0 ≤ s → s < K → 0 ≤ t → t < K → s ≠ t → T.getD (numW K (s :: u)) 0 ≠ T.getD (numW K (t :: u)) 0
/-- The last one does. -/
def RightW (K m : Nat) (T : List Int) : Prop := ∀ u, Syms K u → u.length = m → ∀ s t : Int, 0 ≤ s → s < K → 0 ≤ t → t < K → s ≠ t → T.getD (numW K (u ++ [s])) 0 ≠ T.getD (numW K (u ++ [t])) 0

theorem unlike_leftW {K R : Nat} {T : List Int} (h : RuleOk K R T) : unlikeP K T (T.length / K) = true ↔ LeftW K (2 * R) T := by
  have h1 := h.k1
  obtain ⟨hW, hl⟩ := h.half
  have hp := pw_pos (K := K) (2 * R) h1
  rw [hW, unlikeP_iff]
  constructor
  · intro hu u hsy hul s t hs0 hs1 ht0 ht1 hne
    have hlt := numW_lt u hsy
    rw [hul] at hlt
    have hf := hu (numW K u) (by rw [hl]; have := Nat.mul_le_mul_left (pw K (2 * R)) h1; omega) (by rw [Nat.div_eq_of_lt hlt, Nat.zero_mod])
    have hf := (fullP_iff h1 h.k4 h.syms (pw K (2 * R)) _).1 hf
    rw [numW_cons, numW_cons, hul, Nat.add_comm (s.toNat * _), Nat.add_comm (t.toNat * _)]
    rcases Nat.lt_or_ge s.toNat t.toNat with hst | hst
    · exact hf _ _ hst (by omega)
    · exact (hf t.toNat s.toNat (by omega) (by omega)).symm
  · intro hw i hi hm
    have hiW : i < pw K (2 * R) := by
      have hdl : i / pw K (2 * R) < K := by rw [Nat.div_lt_iff_lt_mul (by omega), Nat.mul_comm, ← hl]; exact hi
      rw [Nat.mod_eq_of_lt hdl] at hm
      have := Nat.div_add_mod i (pw K (2 * R))
      have := Nat.mod_lt i (show pw K (2 * R) > 0 by omega)
      rw [hm] at *
      omega
    refine (fullP_iff h1 h.k4 h.syms (pw K (2 * R)) i).2 fun s t hst ht => ?_
    have := hw (digs K (2 * R) i) (digs_syms h1 _ _) (digs_length ..) s t (by omega) (by omega) (by omega) (by omega) (by omega)
    rwa [numW_cons, numW_cons, digs_length, numW_digs h1 _ _ hiW, Int.toNat_natCast, Int.toNat_natCast, Nat.add_comm (s * _), Nat.add_comm (t * _)] at this

theorem unlike_rightW {K R : Nat} {T : List Int} (h : RuleOk K R T) : unlikeP K T 1 = true ↔ RightW K (2 * R) T := by
  have h1 := h.k1
  obtain ⟨hW, hl⟩ := h.half
  rw [unlikeP_iff]
  constructor
  · intro hu u hsy hul s t hs0 hs1 ht0 ht1 hne
    have hlt := numW_lt u hsy
    rw [hul] at hlt
    have hf := hu (numW K u * K) (by rw [hl]; exact Nat.mul_lt_mul_of_pos_right hlt (by omega)) (by rw [Nat.div_one, Nat.mul_mod_left])
    have hf := (fullP_iff h1 h.k4 h.syms 1 _).1 hf
    rw [numW_snoc, numW_snoc]
    rcases Nat.lt_or_ge s.toNat t.toNat with hst | hst
    · have := hf _ _ hst (by omega); rwa [Nat.mul_one, Nat.mul_one] at this
    · have := (hf t.toNat s.toNat (by omega) (by omega)).symm; rwa [Nat.mul_one, Nat.mul_one] at this
  · intro hw i hi hm
    rw [Nat.div_one] at hm
    obtain ⟨q, rfl⟩ : ∃ q, i = q * K := ⟨i / K, by have := Nat.div_add_mod' i K; omega⟩
    have hq : q < pw K (2 * R) := Nat.lt_of_mul_lt_mul_right (a := K) (by rw [← hl]; exact hi)
    refine (fullP_iff h1 h.k4 h.syms 1 _).2 fun s t hst ht => ?_
    have := hw (digs K (2 * R) q) (digs_syms h1 _ _) (digs_length ..) s t (by omega) (by omega) (by omega) (by omega) (by omega)
    rwa [numW_snoc, numW_snoc, numW_digs h1 _ _ hq, Int.toNat_natCast, Int.toNat_natCast, ← Nat.mul_one s, ← Nat.mul_one t] at this

/-- Mirrored: the other sides. -/
theorem mir_leftW {K R : Nat} {T : List Int} (h : RuleOk K R T) : LeftW K (2 * R) (mirT K (2 * R + 1) T) ↔ RightW K (2 * R) T := by
  have e : ∀ (u : List Int) (s : Int), Syms K u → u.length = 2 * R → 0 ≤ s → s < K → (mirT K (2 * R + 1) T).getD (numW K (s :: u)) 0 = T.getD (numW K (u.reverse ++ [s])) 0 := fun u s hu hl h0 h1 => by
    have := mirT_at h.k1 h.len (s :: u) (syms_cons h0 h1 hu) (by simp [hl])
    rwa [List.reverse_cons] at this
  constructor
  · intro hw u hu hl s t a b c d hne
    have := hw u.reverse (syms_rev hu) (by simpa using hl) s t a b c d hne
    rwa [e _ _ (syms_rev hu) (by simpa using hl) a b, e _ _ (syms_rev hu) (by simpa using hl) c d, List.reverse_reverse] at this
  · intro hw u hu hl s t a b c d hne
    rw [e _ _ hu hl a b, e _ _ hu hl c d]
    exact hw u.reverse (syms_rev hu) (by simpa using hl) s t a b c d hne
theorem mir_rightW {K R : Nat} {T : List Int} (h : RuleOk K R T) : RightW K (2 * R) (mirT K (2 * R + 1) T) ↔ LeftW K (2 * R) T := by
  have e : ∀ (u : List Int) (s : Int), Syms K u → u.length = 2 * R → 0 ≤ s → s < K → (mirT K (2 * R + 1) T).getD (numW K (u ++ [s])) 0 = T.getD (numW K (s :: u.reverse)) 0 := fun u s hu hl h0 h1 => by
    have := mirT_at h.k1 h.len (u ++ [s]) (syms_snoc h0 h1 hu) (by simp [hl])
    rwa [List.reverse_append, List.reverse_singleton, List.singleton_append] at this
  constructor
  · intro hw u hu hl s t a b c d hne
    have := hw u.reverse (syms_rev hu) (by simpa using hl) s t a b c d hne
    rwa [e _ _ (syms_rev hu) (by simpa using hl) a b, e _ _ (syms_rev hu) (by simpa using hl) c d, List.reverse_reverse] at this
  · intro hw u hu hl s t a b c d hne
    rw [e _ _ hu hl a b, e _ _ hu hl c d]
    exact hw u.reverse (syms_rev hu) (by simpa using hl) s t a b c d hne
theorem mir_sides {K R : Nat} {T : List Int} (h : RuleOk K R T) :
    unlikeP K (mirT K (2 * R + 1) T) ((mirT K (2 * R + 1) T).length / K) = unlikeP K T 1 ∧ unlikeP K (mirT K (2 * R + 1) T) 1 = unlikeP K T (T.length / K) := by
  constructor
  · rw [Bool.eq_iff_iff, unlike_leftW (mirT_ok h), unlike_rightW h, mir_leftW h]
  · rw [Bool.eq_iff_iff, unlike_rightW (mirT_ok h), unlike_leftW h, mir_rightW h]

/-- One rule behind another. -/
theorem imgP_cons {K R : Nat} {T : List Int} {x : Int} {w : List Int} (h : 2 * R ≤ w.length) : imgP K R T (x :: w) = T.getD (numW K (x :: w.take (2 * R))) 0 :: imgP K R T w := by
  unfold imgP
  rw [show (x :: w).length - 2 * R = (w.length - 2 * R) + 1 by simp; omega, List.range_succ_eq_map, List.map_cons, List.map_map]
  congr 1
theorem behindT_length (K R1 : Nat) (T1 : List Int) (R2 : Nat) (T2 : List Int) : (behindT K R1 T1 R2 T2).length = pw K (2 * (R1 + R2) + 1) := by simp [behindT]
theorem behindT_at {K R1 R2 : Nat} {T1 T2 : List Int} (hK : 1 ≤ K) (w : List Int) (hw : Syms K w) (hl : w.length = 2 * (R1 + R2) + 1) : (behindT K R1 T1 R2 T2).getD (numW K w) 0 = T1.getD (numW K (imgP K R2 T2 w)) 0 := by
  have hlt := numW_lt w hw
  rw [hl] at hlt
  have : (behindT K R1 T1 R2 T2).getD (numW K w) 0 = T1.getD (numW K (imgP K R2 T2 (digs K (2 * (R1 + R2) + 1) (numW K w)))) 0 := by simp [behindT, List.getD, hlt]
  rw [this, ← hl, digs_numW hK w hw]
theorem behindT_ok {K R1 R2 : Nat} {T1 T2 : List Int} (h1 : RuleOk K R1 T1) (hR : R1 + R2 ≤ 3) : RuleOk K (R1 + R2) (behindT K R1 T1 R2 T2) :=
  ⟨h1.k1, h1.k4, hR, behindT_length .., fun y hy => by
    obtain ⟨i, _, rfl⟩ := List.mem_map.1 hy
    exact h1.syms.getD (by have := h1.k1; omega) _⟩
theorem behind_left {K R1 R2 : Nat} {T1 T2 : List Int} (h1 : RuleOk K R1 T1) (h2 : RuleOk K R2 T2) (w1 : LeftW K (2 * R1) T1) (w2 : LeftW K (2 * R2) T2) : LeftW K (2 * (R1 + R2)) (behindT K R1 T1 R2 T2) := by
  intro u hu hl s t a b c d hne
  have hk := h1.k1
  rw [behindT_at hk _ (syms_cons a b hu) (by simp [hl]), behindT_at hk _ (syms_cons c d hu) (by simp [hl]), imgP_cons (by omega), imgP_cons (by omega)]
  have htk : Syms K (u.take (2 * R2)) := fun y hy => hu y (List.mem_of_mem_take hy)
  have hne2 := w2 (u.take (2 * R2)) htk (by simp; omega) s t a b c d hne
  have s1 := h2.syms.getD (by omega) (numW K (s :: u.take (2 * R2)))
  have s2 := h2.syms.getD (by omega) (numW K (t :: u.take (2 * R2)))
  exact w1 (imgP K R2 T2 u) (imgP_syms hk h2.syms) (by rw [imgP_length]; omega) _ _ s1.1 s1.2 s2.1 s2.2 hne2
theorem behind_right {K R1 R2 : Nat} {T1 T2 : List Int} (h1 : RuleOk K R1 T1) (h2 : RuleOk K R2 T2) (w1 : RightW K (2 * R1) T1) (w2 : RightW K (2 * R2) T2) : RightW K (2 * (R1 + R2)) (behindT K R1 T1 R2 T2) := by
  intro u hu hl s t a b c d hne
  have hk := h1.k1
  have win : ∀ x : Int, 0 ≤ x → x < K → imgP K R2 T2 (u ++ [x]) = imgP K R2 T2 u ++ [T2.getD (numW K (u.drop (u.length - 2 * R2) ++ [x])) 0] := fun x x0 x1 => by
    rw [imgP_snoc h2.len (syms_snoc x0 x1 hu), if_pos (by omega)]
    have hdl : (u.drop (u.length - 2 * R2) ++ [x]).length = 2 * R2 + 1 := by simp; omega
    have := numW_mod (K := K) (u := u.take (u.length - 2 * R2)) (v := u.drop (u.length - 2 * R2) ++ [x]) (syms_snoc x0 x1 fun y hy => hu y (List.mem_of_mem_drop hy))
    rw [← List.append_assoc, List.take_append_drop, hdl, ← h2.len] at this
    rw [this]
  rw [behindT_at hk _ (syms_snoc a b hu) (by simp [hl]), behindT_at hk _ (syms_snoc c d hu) (by simp [hl]), win s a b, win t c d]
  have hdk : Syms K (u.drop (u.length - 2 * R2)) := fun y hy => hu y (List.mem_of_mem_drop hy)
  have hne2 := w2 (u.drop (u.length - 2 * R2)) hdk (by simp; omega) s t a b c d hne
  have s1 := h2.syms.getD (by omega) (numW K (u.drop (u.length - 2 * R2) ++ [s]))
  have s2 := h2.syms.getD (by omega) (numW K (u.drop (u.length - 2 * R2) ++ [t]))
  exact w1 (imgP K R2 T2 u) (imgP_syms hk h2.syms) (by rw [imgP_length]; omega) _ _ s1.1 s1.2 s2.1 s2.2 hne2
theorem behind_sides {K R1 R2 : Nat} {T1 T2 : List Int} (h1 : RuleOk K R1 T1) (h2 : RuleOk K R2 T2) (hR : R1 + R2 ≤ 3) :
    (unlikeP K T1 (T1.length / K) = true → unlikeP K T2 (T2.length / K) = true → unlikeP K (behindT K R1 T1 R2 T2) ((behindT K R1 T1 R2 T2).length / K) = true) ∧
    (unlikeP K T1 1 = true → unlikeP K T2 1 = true → unlikeP K (behindT K R1 T1 R2 T2) 1 = true) := by
  have hb := behindT_ok (T2 := T2) h1 hR
  rw [unlike_leftW h1, unlike_leftW h2, unlike_leftW hb, unlike_rightW h1, unlike_rightW h2, unlike_rightW hb]
  exact ⟨behind_left h1 h2, behind_right h1 h2⟩
end Go.Proofs.YthnkdiejmclmkaaDoor

namespace Go.Proofs.YthnkdiejmclmkaaDoor

/-- There is a way. -/
inductive Goes (adj : Nat → List Nat) : Nat → Nat → Prop
  | refl (x : Nat) : Goes adj x x
  | step {x y z : Nat} (h : Goes adj x y) (hz : z ∈ adj y) : Goes adj x z
theorem Goes.one {adj : Nat → List Nat} {x y : Nat} (h : y ∈ adj x) : Goes adj x y := .step (.refl x) h
theorem Goes.trans {adj : Nat → List Nat} {x y z : Nat} (h : Goes adj x y) (h2 : Goes adj y z) : Goes adj x z := by
  induction h2 with
  | refl => exact h
  | step _ hz ih => exact .step ih hz
theorem Goes.closed {adj : Nat → List Nat} {P : Nat → Prop} (hP : ∀ x, P x → ∀ t ∈ adj x, P t) {x y : Nat} (h : Goes adj x y) (hx : P x) : P y := by
  induction h with
  | refl => exact hx
  | step _ hz ih => exact hP _ ih _ hz

/-- A function with one value changed. -/
def updN {α : Type} (f : Nat → α) (v : Nat) (a : α) : Nat → α := fun x => if x = v then a else f x
theorem updN_same {α : Type} (f : Nat → α) (v : Nat) (a : α) : updN f v a v = a := by simp [updN]
theorem updN_other {α : Type} (f : Nat → α) (v : Nat) (a : α) {x : Nat} (h : x ≠ v) : updN f v a x = f x := by simp [updN, h]
theorem updN_self {α : Type} (f : Nat → α) (v : Nat) : updN f v (f v) = f := by funext x; by_cases h : x = v <;> simp [updN, h]

/-- The search's state: tops at the head. -/
structure TS where
  time : Nat
  low : Nat → Nat
  found : Nat → Nat
  idx : Nat → Nat
  opn : List Nat
  part : Nat → Int
  calls : List Nat

def enterS (S : TS) (v : Nat) : TS := { S with time := S.time + 1, low := updN S.low v (S.time + 1), found := updN S.found v (S.time + 1), idx := updN S.idx v 0, opn := v :: S.opn, calls := v :: S.calls }
/-- A part is closed: the stack's vertices down to v. -/
def closeS (v : Nat) : List Nat → (Nat → Int) → List Nat × (Nat → Int)
  | [], p => ([], p)
  | t :: r, p => if t = v then (r, updN p t v) else closeS v r (updN p t v)
def lowS (low : Nat → Nat) (v : Nat) : List Nat → Nat → Nat
  | [] => low
  | u :: _ => updN low u (min (low u) (low v))
def leaveS (S : TS) (v : Nat) (r : List Nat) : TS :=
  if lowS S.low v r v = S.found v then { S with low := lowS S.low v r, calls := r, opn := (closeS v S.opn S.part).1, part := (closeS v S.opn S.part).2 }
  else { S with low := lowS S.low v r, calls := r }
/-- One round of the search. -/
def stepS (adj : Nat → List Nat) (S : TS) : TS :=
  match S.calls with
  | [] => S
  | v :: r =>
    if S.idx v = (adj v).length then leaveS S v r
    else
      let t := (adj v).getD (S.idx v) 0
      let S1 := { S with idx := updN S.idx v (S.idx v + 1) }
      if S.found t = 0 then enterS S1 t
      else if S.part t < 0 then { S1 with low := updN S.low v (min (S.low v) (S.found t)) }
      else S1

theorem stepS_nil {adj : Nat → List Nat} {S : TS} (hc : S.calls = []) : stepS adj S = S := by
  cases S; simp only at hc; subst hc; rfl
theorem stepS_cons {adj : Nat → List Nat} {S : TS} {v : Nat} {r : List Nat} (hc : S.calls = v :: r) : stepS adj S =
    if S.idx v = (adj v).length then leaveS S v r
    else if S.found ((adj v).getD (S.idx v) 0) = 0 then enterS { S with idx := updN S.idx v (S.idx v + 1) } ((adj v).getD (S.idx v) 0)
    else if S.part ((adj v).getD (S.idx v) 0) < 0 then { S with idx := updN S.idx v (S.idx v + 1), low := updN S.low v (min (S.low v) (S.found ((adj v).getD (S.idx v) 0))) }
    else { S with idx := updN S.idx v (S.idx v + 1) } := by
  cases S; simp only at hc; subst hc; rfl

/-- The weights of the vertices not yet found. -/
def wsum (c found : Nat → Nat) : Nat → Nat
  | 0 => 0
  | n + 1 => wsum c found n + if found n = 0 then c n else 0
theorem wsum_upd (c found : Nat → Nat) (t a : Nat) (ha : a ≠ 0) (ht : found t = 0) (n : Nat) :
    wsum c (updN found t a) n + (if t < n then c t else 0) = wsum c found n := by
  induction n with
  | zero => simp [wsum]
  | succ n ih =>
    simp only [wsum]
    by_cases e : n = t
    · subst e
      rw [if_neg (Nat.lt_irrefl n)] at ih
      rw [updN_same, if_neg ha, if_pos ht, if_pos (by omega)]; omega
    · rw [updN_other _ _ _ e]
      by_cases h : t < n
      · rw [if_pos h] at ih; rw [if_pos (show t < n + 1 by omega)]; omega
      · rw [if_neg h] at ih; rw [if_neg (show ¬ t < n + 1 by omega)]; omega

structure TInv (n : Nat) (adj : Nat → List Nat) (S : TS) : Prop where
  adjLt : ∀ v, v < n → ∀ t ∈ adj v, t < n
  seenLt : ∀ v, S.found v ≠ 0 → v < n
  leTime : ∀ v, S.found v ≤ S.time
  count : S.time + wsum (fun _ => 1) S.found n = n
  inj : ∀ x y, S.found x = S.found y → S.found x ≠ 0 → x = y
  opnIff : ∀ v, v ∈ S.opn ↔ S.found v ≠ 0 ∧ S.part v < 0
  opnSorted : S.opn.Pairwise (fun a b => S.found b < S.found a)
  callsSorted : S.calls.Pairwise (fun a b => S.found b < S.found a)
  callsOpen : ∀ c ∈ S.calls, c ∈ S.opn
  idxLe : ∀ v, v ∈ S.opn → S.idx v ≤ (adj v).length
  idxDone : ∀ v, v ∈ S.opn → v ∉ S.calls → S.idx v = (adj v).length
  partSeen : ∀ v, 0 ≤ S.part v → S.found v ≠ 0
  partLow : ∀ v, -1 ≤ S.part v
  A : ∀ c ∈ S.calls, ∀ x ∈ S.opn, S.found c ≤ S.found x → Goes adj c x
  B : ∀ x ∈ S.opn, ∃ c ∈ S.calls, S.found c ≤ S.found x ∧ Goes adj x c
  C : ∀ x, 0 ≤ S.part x → ∀ t ∈ adj x, 0 ≤ S.part t
  D : ∀ x ∈ S.opn, ∀ j < S.idx x, ∀ t, (adj x)[j]? = some t → S.found t ≠ 0
  E : ∀ x ∈ S.opn, ∀ j < S.idx x, ∀ t ∈ S.opn, (adj x)[j]? = some t → ∀ c ∈ S.calls, S.found c ≤ S.found x →
        (∀ d ∈ S.calls, S.found d ≤ S.found x → S.found d ≤ S.found c) → S.low c ≤ S.found t
  F : ∀ c ∈ S.calls, S.low c ≤ S.found c
  G : ∀ c ∈ S.calls, ∃ z ∈ S.opn, S.found z = S.low c ∧ Goes adj c z
  P1 : ∀ x, 0 ≤ S.part x → ∃ p : Nat, S.part x = p ∧ 0 ≤ S.part p ∧ Goes adj x p ∧ Goes adj p x
  P2 : ∀ x y, 0 ≤ S.part x → 0 ≤ S.part y → Goes adj x y → Goes adj y x → S.part x = S.part y

variable {n : Nat} {adj : Nat → List Nat} {S : TS}

theorem TInv.callsSeen (h : TInv n adj S) {c : Nat} (hc : c ∈ S.calls) : S.found c ≠ 0 ∧ S.part c < 0 := (h.opnIff c).1 (h.callsOpen c hc)
/-- Nothing is open when nothing is called. -/
theorem TInv.opn_nil (h : TInv n adj S) (hc : S.calls = []) : S.opn = [] := by
  cases e : S.opn with
  | nil => rfl
  | cons x l =>
    obtain ⟨c, hm, _⟩ := h.B x (by rw [e]; exact List.mem_cons_self)
    rw [hc] at hm; cases hm

/-- A root is begun. -/
theorem TInv.enterRoot (h : TInv n adj S) (hc : S.calls = []) {v : Nat} (hv : v < n) (hw : S.found v = 0) : TInv n adj (enterS S v) := by
  have ho := h.opn_nil hc
  have hp : S.part v < 0 := by
    by_cases hp : S.part v < 0
    · exact hp
    · exact absurd hw (h.partSeen v (by omega))
  have hcnt := wsum_upd (fun _ => 1) S.found v (S.time + 1) (by omega) hw n
  rw [if_pos hv] at hcnt
  have hcl : ∀ x, 0 ≤ S.part x → x ≠ v := fun x hx e => by subst e; omega
  constructor
  case adjLt => exact h.adjLt
  case seenLt =>
    intro x hx
    by_cases e : x = v
    · omega
    · simp only [enterS, updN_other _ _ _ e] at hx; exact h.seenLt x hx
  case leTime =>
    intro x
    simp only [enterS]
    by_cases e : x = v
    · subst e; rw [updN_same]; omega
    · rw [updN_other _ _ _ e]; have := h.leTime x; omega
  case count => simp only [enterS]; have := h.count; omega
  case inj =>
    intro x y hxy hx
    simp only [enterS] at hxy hx
    by_cases ex : x = v <;> by_cases ey : y = v
    · omega
    · subst ex; rw [updN_same, updN_other _ _ _ ey] at hxy; have := h.leTime y; omega
    · subst ey; rw [updN_same, updN_other _ _ _ ex] at hxy; have := h.leTime x; omega
    · rw [updN_other _ _ _ ex, updN_other _ _ _ ey] at hxy; rw [updN_other _ _ _ ex] at hx; exact h.inj x y hxy hx
  case opnIff =>
    intro x
    simp only [enterS, ho, List.mem_singleton]
    by_cases e : x = v
    · subst e; rw [updN_same]; exact ⟨fun _ => ⟨by omega, hp⟩, fun _ => rfl⟩
    · rw [updN_other _ _ _ e]
      refine ⟨fun h1 => absurd h1 e, fun h1 => ?_⟩
      have := (h.opnIff x).2 h1; rw [ho] at this; cases this
  case opnSorted => simp only [enterS, ho]; exact List.pairwise_singleton _ _
  case callsSorted => simp only [enterS, hc]; exact List.pairwise_singleton _ _
  case callsOpen => intro c hc2; simp only [enterS, hc, ho] at hc2 ⊢; exact hc2
  case idxLe =>
    intro x hx; simp only [enterS, ho, List.mem_singleton] at hx ⊢; subst hx; rw [updN_same]; omega
  case idxDone => intro x hx hx2; simp only [enterS, hc, ho] at hx hx2; exact absurd hx hx2
  case partSeen =>
    intro x hx; simp only [enterS] at hx ⊢; rw [updN_other _ _ _ (hcl x hx)]; exact h.partSeen x hx
  case partLow => exact h.partLow
  case A =>
    intro c hc2 x hx _
    simp only [enterS, hc, ho, List.mem_singleton] at hc2 hx
    subst hc2; subst hx; exact .refl _
  case B =>
    intro x hx
    simp only [enterS, ho, List.mem_singleton] at hx
    subst hx; exact ⟨x, by simp [enterS], Nat.le_refl _, .refl _⟩
  case C => exact h.C
  case D =>
    intro x hx j hj; simp only [enterS, ho, List.mem_singleton] at hx hj; subst hx; rw [updN_same] at hj; omega
  case E =>
    intro x hx j hj; simp only [enterS, ho, List.mem_singleton] at hx hj; subst hx; rw [updN_same] at hj; omega
  case F =>
    intro c hc2; simp only [enterS, hc, List.mem_singleton] at hc2 ⊢; subst hc2; rw [updN_same, updN_same]; exact Nat.le_refl _
  case G =>
    intro c hc2; simp only [enterS, hc, List.mem_singleton] at hc2 ⊢; subst hc2; exact ⟨c, List.mem_cons_self, by rw [updN_same, updN_same], .refl _⟩
  case P1 => exact h.P1
  case P2 => exact h.P2

/-- An arrow to a vertex not yet found. -/
theorem TInv.enterEdge (h : TInv n adj S) {v : Nat} {r : List Nat} (hc : S.calls = v :: r) {t : Nat} (ht : (adj v)[S.idx v]? = some t) (hw : S.found t = 0) :
    TInv n adj (enterS { S with idx := updN S.idx v (S.idx v + 1) } t) := by
  have hvc : v ∈ S.calls := by rw [hc]; exact List.mem_cons_self
  have hvo := h.callsOpen v hvc
  have hvs := h.callsSeen hvc
  have hvn := h.seenLt v hvs.1
  have htm : t ∈ adj v := List.mem_of_getElem? ht
  have htn := h.adjLt v hvn t htm
  have hil : S.idx v < (adj v).length := by
    by_cases q : S.idx v < (adj v).length
    · exact q
    · rw [List.getElem?_eq_none (by omega)] at ht; cases ht
  have hp : S.part t < 0 := by
    by_cases hp : S.part t < 0
    · exact hp
    · exact absurd hw (h.partSeen t (by omega))
  have hcnt := wsum_upd (fun _ => 1) S.found t (S.time + 1) (by omega) hw n
  rw [if_pos htn] at hcnt
  have hcl : ∀ x, 0 ≤ S.part x → x ≠ t := fun x hx e => by subst e; omega
  have hop : ∀ x, x ∈ S.opn → x ≠ t := fun x hx e => by subst e; exact ((h.opnIff x).1 hx).1 hw
  have hca : ∀ x, x ∈ S.calls → x ≠ t := fun x hx => hop x (h.callsOpen x hx)
  have fo : ∀ x, x ∈ S.opn → updN S.found t (S.time + 1) x = S.found x := fun x hx => updN_other _ _ _ (hop x hx)
  have fc : ∀ x, x ∈ S.calls → updN S.found t (S.time + 1) x = S.found x := fun x hx => updN_other _ _ _ (hca x hx)
  have lc : ∀ x, x ∈ S.calls → updN S.low t (S.time + 1) x = S.low x := fun x hx => updN_other _ _ _ (hca x hx)
  have ft : updN S.found t (S.time + 1) t = S.time + 1 := updN_same _ _ _
  have lt : updN S.low t (S.time + 1) t = S.time + 1 := updN_same _ _ _
  have hgt : ∀ c ∈ S.calls, Goes adj c t := fun c hcm => by
    refine .step (h.A c hcm v hvo ?_) htm
    have := h.callsSorted
    rw [hc] at this hcm
    rcases List.mem_cons.1 hcm with e | e
    · rw [e]; exact Nat.le_refl _
    · exact Nat.le_of_lt ((List.pairwise_cons.1 this).1 c e)
  have ix : ∀ x, x ∈ S.opn → ∀ j, j < updN (updN S.idx v (S.idx v + 1)) t 0 x → j < S.idx x ∨ (x = v ∧ j = S.idx v) := fun x hx j hj => by
    rw [updN_other _ _ _ (hop x hx)] at hj
    by_cases e : x = v
    · subst e; rw [updN_same] at hj; omega
    · rw [updN_other _ _ _ e] at hj; exact .inl hj
  have mono : ∀ x, S.found x ≠ 0 → updN S.found t (S.time + 1) x ≠ 0 := fun x hx => by
    by_cases e : x = t
    · subst e; exact absurd hw hx
    · rw [updN_other _ _ _ e]; exact hx
  constructor
  case adjLt => exact h.adjLt
  case seenLt =>
    intro x hx
    by_cases e : x = t
    · omega
    · simp only [enterS, updN_other _ _ _ e] at hx; exact h.seenLt x hx
  case leTime =>
    intro x
    simp only [enterS]
    by_cases e : x = t
    · subst e; rw [updN_same]; omega
    · rw [updN_other _ _ _ e]; have := h.leTime x; omega
  case count => simp only [enterS]; have := h.count; omega
  case inj =>
    intro x y hxy hx
    simp only [enterS] at hxy hx
    by_cases ex : x = t <;> by_cases ey : y = t
    · omega
    · subst ex; rw [updN_same, updN_other _ _ _ ey] at hxy; have := h.leTime y; omega
    · subst ey; rw [updN_same, updN_other _ _ _ ex] at hxy; have := h.leTime x; omega
    · rw [updN_other _ _ _ ex, updN_other _ _ _ ey] at hxy; rw [updN_other _ _ _ ex] at hx; exact h.inj x y hxy hx
  case opnIff =>
    intro x
    simp only [enterS, List.mem_cons]
    by_cases e : x = t
    · subst e; rw [updN_same]; exact ⟨fun _ => ⟨by omega, hp⟩, fun _ => .inl rfl⟩
    · rw [updN_other _ _ _ e, ← h.opnIff x]
      exact ⟨fun h1 => h1.resolve_left e, .inr⟩
  case opnSorted =>
    simp only [enterS]
    refine List.pairwise_cons.2 ⟨fun x hx => ?_, h.opnSorted.imp_of_mem fun ha hb hab => ?_⟩
    · rw [fo x hx, ft]; have := h.leTime x; omega
    · rw [fo _ ha, fo _ hb]; exact hab
  case callsSorted =>
    simp only [enterS]
    refine List.pairwise_cons.2 ⟨fun x hx => ?_, h.callsSorted.imp_of_mem fun ha hb hab => ?_⟩
    · rw [fc x hx, ft]; have := h.leTime x; omega
    · rw [fc _ ha, fc _ hb]; exact hab
  case callsOpen =>
    intro c hc2; simp only [enterS, List.mem_cons] at hc2 ⊢; exact hc2.imp id (h.callsOpen c)
  case idxLe =>
    intro x hx; simp only [enterS, List.mem_cons] at hx ⊢
    rcases hx with rfl | hx
    · rw [updN_same]; omega
    · rw [updN_other _ _ _ (hop x hx)]
      by_cases e : x = v
      · subst e; rw [updN_same]; omega
      · rw [updN_other _ _ _ e]; exact h.idxLe x hx
  case idxDone =>
    intro x hx hx2; simp only [enterS, List.mem_cons, not_or] at hx hx2 ⊢
    have hx3 := hx.resolve_left hx2.1
    rw [updN_other _ _ _ hx2.1, updN_other _ _ _ (fun e => hx2.2 (by rw [e]; exact hvc))]
    exact h.idxDone x hx3 hx2.2
  case partSeen =>
    intro x hx; simp only [enterS] at hx ⊢; rw [updN_other _ _ _ (hcl x hx)]; exact h.partSeen x hx
  case partLow => exact h.partLow
  case A =>
    intro c hc2 x hx hle
    simp only [enterS, List.mem_cons] at hc2 hx hle
    rcases hc2 with rfl | hc2
    · rcases hx with rfl | hx
      · exact .refl _
      · rw [ft, fo x hx] at hle; have := h.leTime x; omega
    · rcases hx with rfl | hx
      · exact hgt c hc2
      · rw [fo x hx, fc c hc2] at hle; exact h.A c hc2 x hx hle
  case B =>
    intro x hx
    simp only [enterS, List.mem_cons] at hx
    rcases hx with rfl | hx
    · exact ⟨x, by simp [enterS], Nat.le_refl _, .refl _⟩
    · obtain ⟨c, h1, h2, h3⟩ := h.B x hx
      refine ⟨c, by simp only [enterS, List.mem_cons]; exact .inr h1, ?_, h3⟩
      simp only [enterS]; rw [fo x hx, fc c h1]; exact h2
  case C => exact h.C
  case D =>
    intro x hx j hj t' ht'
    simp only [enterS, List.mem_cons] at hx hj ⊢
    rcases hx with rfl | hx
    · rw [updN_same] at hj; omega
    · rcases ix x hx j hj with hj | ⟨rfl, rfl⟩
      · exact mono _ (h.D x hx j hj t' ht')
      · rw [ht] at ht'; cases ht'; rw [ft]; omega
  case E =>
    intro x hx j hj t' hto ht' c hc2 hle htop
    simp only [enterS, List.mem_cons] at hx hj hto hc2 hle htop ⊢
    rcases hx with rfl | hx
    · rw [updN_same] at hj; omega
    · rcases hc2 with rfl | hc2
      · rw [ft, fo x hx] at hle; have := h.leTime x; omega
      · rw [fc c hc2, fo x hx] at hle
        rw [lc c hc2]
        rcases hto with rfl | hto
        · rw [ft]; have := h.F c hc2; have := h.leTime c; omega
        · rw [fo _ hto]
          rcases ix x hx j hj with hj | ⟨rfl, rfl⟩
          · refine h.E x hx j hj t' hto ht' c hc2 hle fun d hd hd2 => ?_
            have := htop d (.inr hd) (by rw [fc d hd, fo x hx]; exact hd2)
            rwa [fc d hd, fc c hc2] at this
          · rw [ht] at ht'; cases ht'; exact absurd rfl (hop _ hto)
  case F =>
    intro c hc2; simp only [enterS, List.mem_cons] at hc2 ⊢
    rcases hc2 with rfl | hc2
    · rw [updN_same, updN_same]; exact Nat.le_refl _
    · rw [lc c hc2, fc c hc2]; exact h.F c hc2
  case G =>
    intro c hc2; simp only [enterS, List.mem_cons] at hc2 ⊢
    rcases hc2 with rfl | hc2
    · exact ⟨c, .inl rfl, by rw [updN_same, updN_same], .refl _⟩
    · obtain ⟨z, h1, h2, h3⟩ := h.G c hc2
      exact ⟨z, .inr h1, by rw [lc c hc2, fo z h1]; exact h2, h3⟩
  case P1 => exact h.P1
  case P2 => exact h.P2

/-- An arrow to a vertex that is found already. -/
theorem TInv.edge (h : TInv n adj S) {v : Nat} {r : List Nat} (hc : S.calls = v :: r) {t : Nat} (ht : (adj v)[S.idx v]? = some t) (hw : S.found t ≠ 0) (lo : Nat → Nat)
    (hlo : ∀ c, c ≠ v → lo c = S.low c) (hle : lo v ≤ S.low v) (hlt : S.part t < 0 → lo v ≤ S.found t) (hlg : lo v = S.low v ∨ (S.part t < 0 ∧ lo v = S.found t)) :
    TInv n adj { S with idx := updN S.idx v (S.idx v + 1), low := lo } := by
  have hvc : v ∈ S.calls := by rw [hc]; exact List.mem_cons_self
  have hvo := h.callsOpen v hvc
  have htm : t ∈ adj v := List.mem_of_getElem? ht
  have hil : S.idx v < (adj v).length := by
    by_cases q : S.idx v < (adj v).length
    · exact q
    · rw [List.getElem?_eq_none (by omega)] at ht; cases ht
  have lol : ∀ c, lo c ≤ S.low c := fun c => by
    by_cases e : c = v
    · rw [e]; exact hle
    · rw [hlo c e]; exact Nat.le_refl _
  have ix : ∀ x, ∀ j, j < updN S.idx v (S.idx v + 1) x → j < S.idx x ∨ (x = v ∧ j = S.idx v) := fun x j hj => by
    by_cases e : x = v
    · subst e; rw [updN_same] at hj; omega
    · rw [updN_other _ _ _ e] at hj; exact .inl hj
  constructor
  case adjLt => exact h.adjLt
  case seenLt => exact h.seenLt
  case leTime => exact h.leTime
  case count => exact h.count
  case inj => exact h.inj
  case opnIff => exact h.opnIff
  case opnSorted => exact h.opnSorted
  case callsSorted => exact h.callsSorted
  case callsOpen => exact h.callsOpen
  case idxLe =>
    intro x hx
    show updN S.idx v (S.idx v + 1) x ≤ _
    by_cases e : x = v
    · subst e; rw [updN_same]; omega
    · rw [updN_other _ _ _ e]; exact h.idxLe x hx
  case idxDone =>
    intro x hx hx2
    show updN S.idx v (S.idx v + 1) x = _
    rw [updN_other _ _ _ (fun e => hx2 (by rw [e]; exact hvc))]
    exact h.idxDone x hx hx2
  case partSeen => exact h.partSeen
  case partLow => exact h.partLow
  case A => exact h.A
  case B => exact h.B
  case C => exact h.C
  case D =>
    intro x hx j hj t' ht'
    rcases ix x j hj with hj | ⟨rfl, rfl⟩
    · exact h.D x hx j hj t' ht'
    · rw [ht] at ht'; cases ht'; exact hw
  case E =>
    intro x hx j hj t' hto ht' c hc2 hcx htop
    show lo c ≤ _
    rcases ix x j hj with hj | ⟨rfl, rfl⟩
    · exact Nat.le_trans (lol c) (h.E x hx j hj t' hto ht' c hc2 hcx htop)
    · rw [ht] at ht'; cases ht'
      have e : c = x := by
        have h1 := htop x hvc (Nat.le_refl _)
        exact h.inj c x (by have h2 : S.found c ≤ S.found x := hcx; have h3 : S.found x ≤ S.found c := h1; omega) (h.callsSeen hc2).1
      subst e
      exact hlt ((h.opnIff t).1 hto).2
  case F => intro c hc2; exact Nat.le_trans (lol c) (h.F c hc2)
  case G =>
    intro c hc2
    show ∃ z ∈ S.opn, S.found z = lo c ∧ _
    by_cases e : c = v
    · subst e
      rcases hlg with e | ⟨e1, e2⟩
      · rw [e]; exact h.G c hc2
      · exact ⟨t, (h.opnIff t).2 ⟨hw, e1⟩, e2.symm, .one htm⟩
    · rw [hlo c e]; exact h.G c hc2
  case P1 => exact h.P1
  case P2 => exact h.P2

theorem TInv.low_eq (h : TInv n adj S) {v : Nat} {r : List Nat} (hc : S.calls = v :: r) : lowS S.low v r v = S.low v := by
  cases r with
  | nil => rfl
  | cons u r =>
    have := h.callsSorted
    rw [hc] at this
    have h1 := (List.pairwise_cons.1 this).1 u List.mem_cons_self
    exact updN_other _ _ _ (fun e => by subst e; omega)

/-- A vertex is left whose part begins lower. -/
theorem TInv.leaveN (h : TInv n adj S) {v : Nat} {r : List Nat} (hc : S.calls = v :: r) (hi : S.idx v = (adj v).length) (hl : S.low v ≠ S.found v) :
    TInv n adj { S with low := lowS S.low v r, calls := r } := by
  have hvc : v ∈ S.calls := by rw [hc]; exact List.mem_cons_self
  have hvo := h.callsOpen v hvc
  have hsrt := h.callsSorted
  rw [hc] at hsrt
  have hrl : ∀ c ∈ r, S.found c < S.found v := (List.pairwise_cons.1 hsrt).1
  have hsub : ∀ c ∈ r, c ∈ S.calls := fun c hm => by rw [hc]; exact List.mem_cons_of_mem _ hm
  have hcs : ∀ c ∈ S.calls, c = v ∨ c ∈ r := fun c hm => by rw [hc] at hm; exact List.mem_cons.1 hm
  have hF := h.F v hvc
  obtain ⟨z, hz1, hz2, hz3⟩ := h.G v hvc
  obtain ⟨g, hg1, hg2, hg3⟩ := h.B z hz1
  have hgr : g ∈ r := (hcs g hg1).resolve_left (fun e => by subst e; omega)
  obtain ⟨u, r', rfl⟩ : ∃ u r', r = u :: r' := by cases r with
    | nil => cases hgr
    | cons u r' => exact ⟨u, r', rfl⟩
  have hur : u ∈ u :: r' := List.mem_cons_self
  have huc := hsub u hur
  have hru : ∀ c ∈ u :: r', S.found c ≤ S.found u := fun c hm => by
    rcases List.mem_cons.1 hm with e | e
    · rw [e]; exact Nat.le_refl _
    · exact Nat.le_of_lt ((List.pairwise_cons.1 (List.pairwise_cons.1 hsrt).2).1 c e)
  have lol : ∀ c, lowS S.low v (u :: r') c ≤ S.low c := fun c => by
    show updN S.low u _ c ≤ _
    by_cases e : c = u
    · subst e; rw [updN_same]; omega
    · rw [updN_other _ _ _ e]; exact Nat.le_refl _
  have lou : lowS S.low v (u :: r') u = min (S.low u) (S.low v) := updN_same _ _ _
  have loc : ∀ c, c ≠ u → lowS S.low v (u :: r') c = S.low c := fun c e => updN_other _ _ _ e
  constructor
  case adjLt => exact h.adjLt
  case seenLt => exact h.seenLt
  case leTime => exact h.leTime
  case count => exact h.count
  case inj => exact h.inj
  case opnIff => exact h.opnIff
  case opnSorted => exact h.opnSorted
  case callsSorted => exact (List.pairwise_cons.1 hsrt).2
  case callsOpen => exact fun c hm => h.callsOpen c (hsub c hm)
  case idxLe => exact h.idxLe
  case idxDone =>
    intro x hx hx2
    show S.idx x = _
    by_cases e : x = v
    · rw [e]; exact hi
    · exact h.idxDone x hx (fun hm => (hcs x hm).elim e hx2)
  case partSeen => exact h.partSeen
  case partLow => exact h.partLow
  case A => exact fun c hm => h.A c (hsub c hm)
  case B =>
    intro x hx
    obtain ⟨c, h1, h2, h3⟩ := h.B x hx
    rcases hcs c h1 with rfl | hcr
    · refine ⟨g, hgr, ?_, h3.trans (hz3.trans hg3)⟩
      show S.found g ≤ S.found x
      omega
    · exact ⟨c, hcr, h2, h3⟩
  case C => exact h.C
  case D => exact h.D
  case E =>
    intro x hx j hj t hto ht c hc2 hcx htop
    have hcx : S.found c ≤ S.found x := hcx
    have htop : ∀ d ∈ u :: r', S.found d ≤ S.found x → S.found d ≤ S.found c := htop
    show lowS S.low v (u :: r') c ≤ S.found t
    by_cases hvx : S.found v ≤ S.found x
    · have hux := htop u hur (by have := hrl u hur; omega)
      have hcu := hru c hc2
      have e : c = u := h.inj c u (by omega) (h.callsSeen (hsub c hc2)).1
      rw [e, lou]
      have := h.E x hx j hj t hto ht v hvc hvx (fun d hd _ => by
        rcases hcs d hd with e | e
        · rw [e]; exact Nat.le_refl _
        · exact Nat.le_of_lt (hrl d e))
      omega
    · refine Nat.le_trans (lol c) (h.E x hx j hj t hto ht c (hsub c hc2) hcx fun d hd hdx => ?_)
      rcases hcs d hd with e | e
      · rw [e] at hdx; exact absurd hdx hvx
      · exact htop d e hdx
  case F => exact fun c hm => Nat.le_trans (lol c) (h.F c (hsub c hm))
  case G =>
    intro c hc2
    show ∃ z ∈ S.opn, S.found z = lowS S.low v (u :: r') c ∧ _
    by_cases e : c = u
    · subst e
      rw [lou]
      by_cases q : S.low v ≤ S.low c
      · rw [Nat.min_eq_right q]
        exact ⟨z, hz1, hz2, (h.A c huc v hvo (Nat.le_of_lt (hrl c hur))).trans hz3⟩
      · rw [Nat.min_eq_left (by omega)]; exact h.G c huc
    · rw [loc c e]; exact h.G c (hsub c hc2)
  case P1 => exact h.P1
  case P2 => exact h.P2

theorem closeS_spec (found : Nat → Nat) (v : Nat) : ∀ (l : List Nat) (p : Nat → Int), l.Pairwise (fun a b => found b < found a) → v ∈ l →
    (closeS v l p).1.Sublist l ∧ (∀ x, x ∈ (closeS v l p).1 ↔ x ∈ l ∧ found x < found v) ∧
    (∀ x, (x ∈ l ∧ found v ≤ found x) → (closeS v l p).2 x = (v : Int)) ∧ (∀ x, ¬ (x ∈ l ∧ found v ≤ found x) → (closeS v l p).2 x = p x) := by
  intro l
  induction l with
  | nil => intro p _ h; cases h
  | cons t r ih =>
    intro p hs hv
    have ⟨h1, h2⟩ := List.pairwise_cons.1 hs
    unfold closeS
    by_cases e : t = v
    · subst e
      rw [if_pos rfl]
      refine ⟨List.sublist_cons_self _ _, fun x => ?_, fun x ⟨hx, hf⟩ => ?_, fun x hx => ?_⟩
      · refine ⟨fun hx => ⟨List.mem_cons_of_mem _ hx, h1 x hx⟩, fun ⟨hx, hf⟩ => ?_⟩
        rcases List.mem_cons.1 hx with e | e
        · subst e; omega
        · exact e
      · rcases List.mem_cons.1 hx with e | e
        · subst e; exact updN_same _ _ _
        · have := h1 x e; omega
      · exact updN_other _ _ _ (fun e => hx (by rw [e]; exact ⟨List.mem_cons_self, Nat.le_refl _⟩))
    · rw [if_neg e]
      have hvr : v ∈ r := (List.mem_cons.1 hv).resolve_left (fun q => e q.symm)
      obtain ⟨i1, i2, i3, i4⟩ := ih (updN p t v) h2 hvr
      have htv := h1 v hvr
      refine ⟨i1.trans (List.sublist_cons_self _ _), fun x => ?_, fun x ⟨hx, hf⟩ => ?_, fun x hx => ?_⟩
      · rw [i2 x]
        refine ⟨fun ⟨a, b⟩ => ⟨List.mem_cons_of_mem _ a, b⟩, fun ⟨a, b⟩ => ⟨?_, b⟩⟩
        rcases List.mem_cons.1 a with e | e
        · subst e; omega
        · exact e
      · by_cases hxr : x ∈ r
        · exact i3 x ⟨hxr, hf⟩
        · rw [i4 x (fun q => hxr q.1)]
          rcases List.mem_cons.1 hx with e | e
          · subst e; exact updN_same _ _ _
          · exact absurd e hxr
      · rw [i4 x (fun q => hx ⟨List.mem_cons_of_mem _ q.1, q.2⟩)]
        exact updN_other _ _ _ (fun e => hx (by rw [e]; exact ⟨List.mem_cons_self, Nat.le_of_lt htv⟩))

/-- A vertex is left with which its part begins. -/
theorem TInv.leaveC (h : TInv n adj S) {v : Nat} {r : List Nat} (hc : S.calls = v :: r) (hi : S.idx v = (adj v).length) (hl : S.low v = S.found v) :
    TInv n adj { S with low := lowS S.low v r, calls := r, opn := (closeS v S.opn S.part).1, part := (closeS v S.opn S.part).2 } := by
  have hvc : v ∈ S.calls := by rw [hc]; exact List.mem_cons_self
  have hvo := h.callsOpen v hvc
  have hsrt := h.callsSorted
  rw [hc] at hsrt
  have hrl : ∀ c ∈ r, S.found c < S.found v := (List.pairwise_cons.1 hsrt).1
  have hsub : ∀ c ∈ r, c ∈ S.calls := fun c hm => by rw [hc]; exact List.mem_cons_of_mem _ hm
  have hcs : ∀ c ∈ S.calls, c = v ∨ c ∈ r := fun c hm => by rw [hc] at hm; exact List.mem_cons.1 hm
  have hlow : lowS S.low v r = S.low := by
    cases r with
    | nil => rfl
    | cons u r' =>
      have h1 := hrl u List.mem_cons_self
      have h2 := h.F u (hsub u List.mem_cons_self)
      show updN S.low u _ = _
      rw [Nat.min_eq_left (by omega), updN_self]
  rw [hlow]
  obtain ⟨k1, k2, k3, k4⟩ := closeS_spec S.found v S.opn S.part h.opnSorted hvo
  generalize (closeS v S.opn S.part).1 = O at *
  generalize (closeS v S.opn S.part).2 = P at *
  have seg : ∀ x, x ∈ S.opn → S.found v ≤ S.found x → Goes adj v x ∧ Goes adj x v := fun x hx hf => by
    refine ⟨h.A v hvc x hx hf, ?_⟩
    obtain ⟨c, h1, h2, h3⟩ := h.B x hx
    rcases hcs c h1 with e | e
    · rw [← e]; exact h3
    · exact h3.trans (h.A c h1 v hvo (Nat.le_of_lt (hrl c e)))
  have old : ∀ x, 0 ≤ S.part x → P x = S.part x := fun x hx => k4 x (fun q => by have := ((h.opnIff x).1 q.1).2; omega)
  have new : ∀ x, 0 ≤ P x → 0 ≤ S.part x ∨ (x ∈ S.opn ∧ S.found v ≤ S.found x) := fun x hx => by
    by_cases q : x ∈ S.opn ∧ S.found v ≤ S.found x
    · exact .inr q
    · rw [k4 x q] at hx; exact .inl hx
  have C2 : ∀ x, 0 ≤ P x → ∀ t ∈ adj x, 0 ≤ P t := fun x hx t ht => by
    rcases new x hx with hx | ⟨hxo, hxf⟩
    · have := h.C x hx t ht; rw [old t this]; exact this
    · obtain ⟨j, hj⟩ := List.mem_iff_getElem?.1 ht
      have hjl : j < (adj x).length := by
        by_cases q : j < (adj x).length
        · exact q
        · rw [List.getElem?_eq_none (by omega)] at hj; cases hj
      have hix : S.idx x = (adj x).length := by
        by_cases e : x = v
        · rw [e]; exact hi
        · refine h.idxDone x hxo (fun hm => ?_)
          rcases hcs x hm with q | q
          · exact e q
          · have := hrl x q; omega
      have hft := h.D x hxo j (by omega) t hj
      by_cases hp : 0 ≤ S.part t
      · rw [old t hp]; exact hp
      · have hto := (h.opnIff t).2 ⟨hft, by omega⟩
        have := h.E x hxo j (by omega) t hto hj v hvc hxf (fun d hd _ => by
          rcases hcs d hd with e | e
          · rw [e]; exact Nat.le_refl _
          · exact Nat.le_of_lt (hrl d e))
        rw [k3 t ⟨hto, by omega⟩]; omega
  constructor
  case adjLt => exact h.adjLt
  case seenLt => exact h.seenLt
  case leTime => exact h.leTime
  case count => exact h.count
  case inj => exact h.inj
  case opnIff =>
    intro x
    show x ∈ O ↔ S.found x ≠ 0 ∧ P x < 0
    rw [k2 x]
    constructor
    · rintro ⟨a, b⟩
      have := (h.opnIff x).1 a
      rw [k4 x (fun q => by omega)]; exact this
    · rintro ⟨a, b⟩
      by_cases q : x ∈ S.opn ∧ S.found v ≤ S.found x
      · rw [k3 x q] at b; omega
      · rw [k4 x q] at b
        have := (h.opnIff x).2 ⟨a, b⟩
        exact ⟨this, by have : ¬ S.found v ≤ S.found x := fun w => q ⟨this, w⟩; omega⟩
  case opnSorted => exact h.opnSorted.sublist k1
  case callsSorted => exact (List.pairwise_cons.1 hsrt).2
  case callsOpen => exact fun c hm => (k2 c).2 ⟨h.callsOpen c (hsub c hm), hrl c hm⟩
  case idxLe => exact fun x hx => h.idxLe x ((k2 x).1 hx).1
  case idxDone =>
    intro x hx hx2
    refine h.idxDone x ((k2 x).1 hx).1 (fun hm => ?_)
    rcases hcs x hm with e | e
    · have := ((k2 x).1 hx).2; subst e; omega
    · exact hx2 e
  case partSeen =>
    intro x hx
    rcases new x hx with q | q
    · exact h.partSeen x q
    · exact ((h.opnIff x).1 q.1).1
  case partLow =>
    intro x
    show -1 ≤ P x
    by_cases q : x ∈ S.opn ∧ S.found v ≤ S.found x
    · rw [k3 x q]; omega
    · rw [k4 x q]; exact h.partLow x
  case A => exact fun c hm x hx hf => h.A c (hsub c hm) x ((k2 x).1 hx).1 hf
  case B =>
    intro x hx
    have ⟨hx1, hx2⟩ := (k2 x).1 hx
    obtain ⟨c, h1, h2, h3⟩ := h.B x hx1
    rcases hcs c h1 with e | e
    · subst e; omega
    · exact ⟨c, e, h2, h3⟩
  case C => exact C2
  case D => exact fun x hx => h.D x ((k2 x).1 hx).1
  case E =>
    intro x hx j hj t hto ht c hc2 hcx htop
    have ⟨hx1, hx2⟩ := (k2 x).1 hx
    refine h.E x hx1 j hj t ((k2 t).1 hto).1 ht c (hsub c hc2) hcx fun d hd hdx => ?_
    rcases hcs d hd with e | e
    · subst e; omega
    · exact htop d e hdx
  case F => exact fun c hm => h.F c (hsub c hm)
  case G =>
    intro c hm
    obtain ⟨z, h1, h2, h3⟩ := h.G c (hsub c hm)
    have := h.F c (hsub c hm)
    have := hrl c hm
    exact ⟨z, (k2 z).2 ⟨h1, by omega⟩, h2, h3⟩
  case P1 =>
    intro x hx
    rcases new x hx with q | q
    · obtain ⟨p, a, b, c, d⟩ := h.P1 x q
      exact ⟨p, by show P x = _; rw [old x q]; exact a, by show 0 ≤ P p; rw [old _ b]; exact b, c, d⟩
    · have := seg x q.1 q.2
      exact ⟨v, k3 x q, by show 0 ≤ P v; rw [k3 v ⟨hvo, Nat.le_refl _⟩]; omega, this.2, this.1⟩
  case P2 =>
    intro x y hx hy hxy hyx
    show P x = P y
    rcases new x hx with q | q <;> rcases new y hy with q' | q'
    · rw [old x q, old y q']; exact h.P2 x y q q' hxy hyx
    · have := Goes.closed (P := fun z => 0 ≤ S.part z) h.C hxy q
      have := ((h.opnIff y).1 q'.1).2; omega
    · have := Goes.closed (P := fun z => 0 ≤ S.part z) h.C hyx q'
      have := ((h.opnIff x).1 q.1).2; omega
    · rw [k3 x q, k3 y q']

/-- A round keeps all that. -/
theorem TInv.leave (h : TInv n adj S) {v : Nat} {r : List Nat} (hc : S.calls = v :: r) (hi : S.idx v = (adj v).length) : TInv n adj (leaveS S v r) := by
  unfold leaveS
  rw [h.low_eq hc]
  split
  · next q => exact h.leaveC hc hi q
  · next q => exact h.leaveN hc hi q
theorem TInv.idx_get (h : TInv n adj S) {v : Nat} {r : List Nat} (hc : S.calls = v :: r) (hi : S.idx v ≠ (adj v).length) :
    S.idx v < (adj v).length ∧ (adj v)[S.idx v]? = some ((adj v).getD (S.idx v) 0) ∧ (adj v).getD (S.idx v) 0 < n := by
  have hvc : v ∈ S.calls := by rw [hc]; exact List.mem_cons_self
  have hvo := h.callsOpen v hvc
  have h1 : S.idx v < (adj v).length := by have := h.idxLe v hvo; omega
  have h2 : (adj v)[S.idx v]? = some ((adj v).getD (S.idx v) 0) := by simp [List.getD, List.getElem?_eq_getElem h1]
  exact ⟨h1, h2, h.adjLt v (h.seenLt v (h.callsSeen hvc).1) _ (List.mem_of_getElem? h2)⟩
theorem TInv.step (h : TInv n adj S) : TInv n adj (stepS adj S) := by
  cases hc : S.calls with
  | nil => rw [stepS_nil hc]; exact h
  | cons v r =>
    rw [stepS_cons hc]
    by_cases hi : S.idx v = (adj v).length
    · rw [if_pos hi]; exact h.leave hc hi
    · rw [if_neg hi]
      obtain ⟨_, h2, _⟩ := h.idx_get hc hi
      by_cases hf : S.found ((adj v).getD (S.idx v) 0) = 0
      · rw [if_pos hf]; exact h.enterEdge hc h2 hf
      · rw [if_neg hf]
        by_cases hp : S.part ((adj v).getD (S.idx v) 0) < 0
        · rw [if_pos hp]
          refine h.edge hc h2 hf (updN S.low v (min (S.low v) (S.found ((adj v).getD (S.idx v) 0)))) (fun c (hcv : c ≠ v) => updN_other S.low v _ hcv) ?_ (fun _ => ?_) ?_
          · rw [updN_same]; omega
          · rw [updN_same]; omega
          · rw [updN_same]
            by_cases q : S.low v ≤ S.found ((adj v).getD (S.idx v) 0)
            · exact .inl (Nat.min_eq_left q)
            · exact .inr ⟨hp, Nat.min_eq_right (by omega)⟩
        · rw [if_neg hp]
          exact h.edge hc h2 hf S.low (fun _ _ => rfl) (Nat.le_refl _) (fun q => absurd q hp) (.inl rfl)

/-- The stacks are short. -/
theorem sorted_len (found : Nat → Nat) : ∀ (l : List Nat) (b : Nat), l.Pairwise (fun a b => found b < found a) → (∀ x ∈ l, found x ≠ 0 ∧ found x ≤ b) → l.length ≤ b
  | [], b, _, _ => Nat.zero_le b
  | a :: l, b, hs, hb => by
    have ⟨h1, h2⟩ := List.pairwise_cons.1 hs
    have ha := hb a List.mem_cons_self
    have := sorted_len found l (found a - 1) h2 (fun x hx => ⟨(hb x (List.mem_cons_of_mem _ hx)).1, by have := h1 x hx; omega⟩)
    simp only [List.length_cons]; omega
theorem TInv.time_le (h : TInv n adj S) : S.time ≤ n := by have := h.count; omega
theorem TInv.calls_len (h : TInv n adj S) : S.calls.length ≤ n :=
  Nat.le_trans (sorted_len S.found S.calls S.time h.callsSorted (fun x hx => ⟨(h.callsSeen hx).1, h.leTime x⟩)) h.time_le
theorem TInv.opn_len (h : TInv n adj S) : S.opn.length ≤ n :=
  Nat.le_trans (sorted_len S.found S.opn S.time h.opnSorted (fun x hx => ⟨((h.opnIff x).1 hx).1, h.leTime x⟩)) h.time_le

/-- What is left to do. -/
def phi (n : Nat) (adj : Nat → List Nat) (S : TS) : Nat :=
  (S.calls.map fun v => 1 + ((adj v).length - S.idx v)).sum + wsum (fun v => 2 + (adj v).length) S.found n
theorem phi_calls (adj : Nat → List Nat) (l : List Nat) (f g : Nat → Nat) (h : ∀ v ∈ l, f v = g v) :
    (l.map fun v => 1 + ((adj v).length - f v)).sum = (l.map fun v => 1 + ((adj v).length - g v)).sum := by
  congr 1
  exact List.map_congr_left fun v hv => by rw [h v hv]
theorem TInv.phi_step (h : TInv n adj S) {v : Nat} {r : List Nat} (hc : S.calls = v :: r) : phi n adj (stepS adj S) < phi n adj S := by
  have hsrt := h.callsSorted
  rw [hc] at hsrt
  have hnd : ∀ c ∈ r, c ≠ v := fun c hm e => by have := (List.pairwise_cons.1 hsrt).1 c hm; subst e; omega
  have hbase : phi n adj S = (1 + ((adj v).length - S.idx v)) + (r.map fun v => 1 + ((adj v).length - S.idx v)).sum + wsum (fun v => 2 + (adj v).length) S.found n := by
    unfold phi; rw [hc]; simp
  have hbump : ∀ lo, phi n adj { S with idx := updN S.idx v (S.idx v + 1), low := lo } = (1 + ((adj v).length - (S.idx v + 1))) + (r.map fun v => 1 + ((adj v).length - S.idx v)).sum + wsum (fun v => 2 + (adj v).length) S.found n := fun lo => by
    unfold phi; rw [hc]; simp only [List.map_cons, List.sum_cons, updN_same]
    rw [phi_calls adj r _ S.idx (fun c hm => updN_other _ _ _ (hnd c hm))]
  rw [stepS_cons hc]
  by_cases hi : S.idx v = (adj v).length
  · rw [if_pos hi, hbase]
    unfold leaveS
    split <;> · unfold phi; dsimp only; omega
  · rw [if_neg hi]
    obtain ⟨h1, h2, h3⟩ := h.idx_get hc hi
    by_cases hf : S.found ((adj v).getD (S.idx v) 0) = 0
    · rw [if_pos hf, hbase]
      generalize (adj v).getD (S.idx v) 0 = t at *
      have hw := wsum_upd (fun v => 2 + (adj v).length) S.found t (S.time + 1) (by omega) hf n
      rw [if_pos h3] at hw
      have htc : ∀ c ∈ S.calls, c ≠ t := fun c hm e => by have := (h.callsSeen hm).1; rw [e] at this; exact this hf
      unfold phi enterS
      dsimp only
      rw [hc]
      simp only [List.map_cons, List.sum_cons, updN_same]
      rw [phi_calls adj r _ S.idx (fun c hm => by rw [updN_other _ _ _ (htc c (by rw [hc]; exact List.mem_cons_of_mem _ hm)), updN_other _ _ _ (hnd c hm)]),
        updN_other _ _ _ (htc v (by rw [hc]; exact List.mem_cons_self)), updN_same]
      omega
    · rw [if_neg hf]
      by_cases hp : S.part ((adj v).getD (S.idx v) 0) < 0
      · rw [if_pos hp, hbase]; have := hbump (updN S.low v (min (S.low v) (S.found ((adj v).getD (S.idx v) 0)))); omega
      · rw [if_neg hp, hbase]; have := hbump S.low; have e : ({ S with idx := updN S.idx v (S.idx v + 1), low := S.low } : TS) = { S with idx := updN S.idx v (S.idx v + 1) } := rfl
        rw [e] at this; omega
/-- The beginning. -/
def initS : TS := ⟨0, fun _ => 0, fun _ => 0, fun _ => 0, [], fun _ => -1, []⟩
theorem wsum_white (n : Nat) : wsum (fun _ => 1) (fun _ => 0) n = n := by
  induction n with
  | zero => rfl
  | succ n ih => simp [wsum, ih]
theorem TInv.init (n : Nat) (adj : Nat → List Nat) (ha : ∀ v, v < n → ∀ t ∈ adj v, t < n) : TInv n adj initS := by
  constructor
  case adjLt => exact ha
  case count => simp [initS, wsum_white]
  case C => intro x hx; simp [initS] at hx
  case P1 => intro x hx; simp [initS] at hx
  case P2 => intro x y hx; simp [initS] at hx
  all_goals simp [initS]

/-- Rounds one after another. -/
def iterS (adj : Nat → List Nat) : Nat → TS → TS
  | 0, S => S
  | k + 1, S => iterS adj k (stepS adj S)
theorem iterS_succ (adj : Nat → List Nat) (k : Nat) : ∀ S, iterS adj (k + 1) S = stepS adj (iterS adj k S) := by
  induction k with
  | zero => intro S; rfl
  | succ k ih => intro S; show iterS adj (k + 1) (stepS adj S) = _; rw [ih]; rfl
theorem TInv.iter (h : TInv n adj S) (k : Nat) : TInv n adj (iterS adj k S) := by
  induction k with
  | zero => exact h
  | succ k ih => rw [iterS_succ]; exact ih.step

/-- What was found stays found. -/
theorem keepsS (adj : Nat → List Nat) (S : TS) {x : Nat} (hx : S.found x ≠ 0) : (stepS adj S).found x = S.found x := by
  cases hc : S.calls with
  | nil => rw [stepS_nil hc]
  | cons v r =>
    rw [stepS_cons hc]
    split
    · unfold leaveS; split <;> rfl
    · split
      · next hf => exact updN_other _ _ _ (fun e => by rw [e] at hx; exact hx hf)
      · split <;> rfl

/-- At the end: all parts told: one number just where there are ways both ways. -/
theorem TInv.done (h : TInv n adj S) (hc : S.calls = []) (hall : ∀ v, v < n → S.found v ≠ 0) :
    (∀ v, v < n → 0 ≤ S.part v) ∧ ∀ x y, x < n → y < n → (S.part x = S.part y ↔ Goes adj x y ∧ Goes adj y x) := by
  have hp : ∀ v, v < n → 0 ≤ S.part v := fun v hv => by
    by_cases q : S.part v < 0
    · have := (h.opnIff v).2 ⟨hall v hv, q⟩; rw [h.opn_nil hc] at this; cases this
    · omega
  refine ⟨hp, fun x y hx hy => ⟨fun e => ?_, fun ⟨a, b⟩ => h.P2 x y (hp x hx) (hp y hy) a b⟩⟩
  obtain ⟨p, p1, _, p2, p3⟩ := h.P1 x (hp x hx)
  obtain ⟨q, q1, _, q2, q3⟩ := h.P1 y (hp y hy)
  have : p = q := by omega
  subst this
  exact ⟨p2.trans q3, q2.trans p3⟩

end Go.Proofs.YthnkdiejmclmkaaDoor

namespace Go.Proofs.YthnkdiejmclmkaaDoor

def sPairs : ByteArray := ⟨#[112, 97, 105, 114, 115]⟩
/-- Where a symbol leads from a node, and what is told. -/
def toN (K N u s : Nat) : Nat := (u * K + s) % N
def labN (K : Nat) (T : List Int) (u s : Nat) : Int := T.getD (u * K + s) 0
/-- The arrows of a pair as they are found. -/
def rawT (K N : Nat) (T : List Int) (u v s t : Nat) : List Nat := if labN K T u s = labN K T v t then [toN K N u s * N + toN K N v t] else []
def rawS (K N : Nat) (T : List Int) (u v s n : Nat) : List Nat := (List.range n).flatMap fun t => rawT K N T u v s t
def rawP (K N : Nat) (T : List Int) (u v n : Nat) : List Nat := (List.range n).flatMap fun s => rawS K N T u v s K
theorem rawS_succ (K N : Nat) (T : List Int) (u v s n : Nat) : rawS K N T u v s (n + 1) = rawS K N T u v s n ++ rawT K N T u v s n := by
  simp [rawS, List.range_succ]
theorem rawP_succ (K N : Nat) (T : List Int) (u v n : Nat) : rawP K N T u v (n + 1) = rawP K N T u v n ++ rawS K N T u v n K := by
  simp [rawP, List.range_succ]
theorem rawT_len (K N : Nat) (T : List Int) (u v s t : Nat) : (rawT K N T u v s t).length ≤ 1 := by unfold rawT; split <;> simp
theorem rawS_len (K N : Nat) (T : List Int) (u v s n : Nat) : (rawS K N T u v s n).length ≤ n := by
  induction n with
  | zero => simp [rawS]
  | succ n ih => rw [rawS_succ, List.length_append]; have := rawT_len K N T u v s n; omega
theorem rawP_len (K N : Nat) (T : List Int) (u v n : Nat) : (rawP K N T u v n).length ≤ n * K := by
  induction n with
  | zero => simp [rawP]
  | succ n ih => rw [rawP_succ, List.length_append, Nat.add_mul]; have := rawS_len K N T u v n K; omega
/-- Does an arrow lead from the pair u, v to the vertex q? -/
def Arr (K N : Nat) (T : List Int) (u v q : Nat) : Prop := ∃ s t, s < K ∧ t < K ∧ labN K T u s = labN K T v t ∧ q = toN K N u s * N + toN K N v t
theorem mem_rawP {K N : Nat} {T : List Int} {u v q : Nat} : q ∈ rawP K N T u v K ↔ Arr K N T u v q := by
  unfold rawP rawS rawT Arr
  simp only [List.mem_flatMap, List.mem_range]
  constructor
  · rintro ⟨s, hs, t, ht, h⟩
    split at h
    · rename_i e
      exact ⟨s, t, hs, ht, e, by simpa using h⟩
    · cases h
  · rintro ⟨s, t, hs, ht, e, h⟩
    exact ⟨s, hs, t, ht, by rw [if_pos e]; simpa using h⟩
theorem toN_lt {K N u s : Nat} (hN : 0 < N) : toN K N u s < N := Nat.mod_lt _ hN
theorem pair_lt {N a b : Nat} (ha : a < N) (hb : b < N) : a * N + b < N * N := by
  have := Nat.mul_le_mul_right N (show a + 1 ≤ N by omega)
  rw [Nat.add_mul] at this; omega
theorem pair_div {N a b : Nat} (hb : b < N) : (a * N + b) / N = a := div_mk hb
theorem pair_mod {N a b : Nat} (hb : b < N) : (a * N + b) % N = b := mod_mk hb
theorem pair_eq (p N : Nat) : p / N * N + p % N = p := by rw [Nat.mul_comm]; exact Nat.div_add_mod p N
theorem div_lt_of {p N : Nat} (h : p < N * N) : p / N < N := Nat.div_lt_of_lt_mul h
theorem Arr.lt {K N : Nat} {T : List Int} {u v q : Nat} (hN : 0 < N) (h : Arr K N T u v q) : q < N * N := by
  obtain ⟨s, t, _, _, _, rfl⟩ := h
  exact pair_lt (toN_lt hN) (toN_lt hN)
theorem Arr.swap {K N : Nat} {T : List Int} {u v q : Nat} (hN : 0 < N) (h : Arr K N T u v q) : Arr K N T v u (q % N * N + q / N) := by
  obtain ⟨s, t, hs, ht, e, rfl⟩ := h
  rw [pair_div (toN_lt hN), pair_mod (toN_lt hN)]
  exact ⟨t, s, ht, hs, e.symm, rfl⟩
/-- The vertices that arrows lead to, ascending. -/
def pairL (K N : Nat) (T : List Int) (p : Nat) : List Nat := (List.range (N * N)).filter fun q => decide (q ∈ rawP K N T (p / N) (p % N) K)
theorem pairL_sorted (K N : Nat) (T : List Int) (p : Nat) : (pairL K N T p).Pairwise (· < ·) := List.Pairwise.filter _ List.pairwise_lt_range
theorem mem_pairL {K N : Nat} {T : List Int} {p q : Nat} (hN : 0 < N) : q ∈ pairL K N T p ↔ Arr K N T (p / N) (p % N) q := by
  unfold pairL
  rw [List.mem_filter, List.mem_range, decide_eq_true_iff, mem_rawP]
  exact ⟨fun h => h.2, fun h => ⟨h.lt hN, h⟩⟩
theorem nodup_sub {α : Type} [DecidableEq α] : ∀ {l m : List α}, l.Nodup → l ⊆ m → l.length ≤ m.length
  | [], _, _, _ => by simp
  | a :: l, m, hn, hs => by
    obtain ⟨h1, h2⟩ := List.nodup_cons.1 hn
    have ha := hs List.mem_cons_self
    have := nodup_sub (l := l) (m := m.erase a) h2 (fun b hb => (List.mem_erase_of_ne (fun e => h1 (by rw [← e]; exact hb))).2 (hs (List.mem_cons_of_mem _ hb)))
    have hl := List.length_erase_of_mem ha
    have := List.length_pos_of_mem ha
    simp only [List.length_cons]; omega
theorem pairL_len (K N : Nat) (T : List Int) (p : Nat) : (pairL K N T p).length ≤ K * K := by
  have hn : (pairL K N T p).Nodup := (pairL_sorted K N T p).imp (fun h => Nat.ne_of_lt h)
  have hs : pairL K N T p ⊆ rawP K N T (p / N) (p % N) K := fun q hq => by
    unfold pairL at hq
    simpa using (List.mem_filter.1 hq).2
  exact Nat.le_trans (nodup_sub hn hs) (rawP_len ..)

/-- The node of a word at a place. -/
def nodeAt (K m : Nat) (x : List Int) (i : Nat) : Nat := numW K ((x.drop i).take m)
theorem win_snoc {x : List Int} {i m : Nat} (h : i + m < x.length) : (x.drop i).take (m + 1) = (x.drop i).take m ++ [x.getD (i + m) 0] := by
  rw [List.take_add_one, List.getElem?_drop]
  simp [List.getD, h]
theorem win_cons {x : List Int} {i m : Nat} : ((x.drop i).take (m + 1)).drop 1 = (x.drop (i + 1)).take m := by
  rw [List.drop_take]; simp
theorem syms_drop {K : Int} {x : List Int} (h : Syms K x) (i : Nat) : Syms K (x.drop i) := fun y hy => h y (List.mem_of_mem_drop hy)
theorem syms_take {K : Int} {x : List Int} (h : Syms K x) (i : Nat) : Syms K (x.take i) := fun y hy => h y (List.mem_of_mem_take hy)
theorem syms_at {K : Nat} {x : List Int} (h : Syms K x) {i : Nat} (hi : i < x.length) : 0 ≤ x.getD i 0 ∧ x.getD i 0 < K ∧ (x.getD i 0).toNat < K := by
  have := h (x[i]) (List.getElem_mem hi)
  simp only [List.getD_eq_getElem?_getD, List.getElem?_eq_getElem hi, Option.getD_some]
  omega
theorem win_num {K m : Nat} {x : List Int} {i : Nat} (h : i + m < x.length) : numW K ((x.drop i).take (m + 1)) = nodeAt K m x i * K + (x.getD (i + m) 0).toNat := by
  rw [win_snoc h, numW_snoc]; rfl
theorem node_lt {K m : Nat} {x : List Int} (hx : Syms K x) {i : Nat} (h : i + m ≤ x.length) : nodeAt K m x i < pw K m := by
  have := numW_lt _ (syms_take (syms_drop hx i) m)
  rwa [show ((x.drop i).take m).length = m by simp; omega] at this
theorem node_next {K m : Nat} {x : List Int} (hx : Syms K x) {i : Nat} (h : i + m < x.length) : nodeAt K m x (i + 1) = toN K (pw K m) (nodeAt K m x i) (x.getD (i + m) 0).toNat := by
  have hl : ((x.drop i).take m).length = m := by simp; omega
  have hs : Syms K ((x.drop i).take m ++ [x.getD (i + m) 0]) := by rw [← win_snoc h]; exact syms_take (syms_drop hx i) _
  have := num_shift hs
  rw [← win_snoc h, win_cons, hl, win_num h] at this
  exact this
theorem img_at {K R : Nat} {T x : List Int} {i : Nat} (h : i + 2 * R < x.length) : (imgP K R T x).getD i 0 = labN K T (nodeAt K (2 * R) x i) (x.getD (i + 2 * R) 0).toNat := by
  rw [imgP_getD _ _ _ _ _ (by omega), win_num h]; rfl
theorem img_eq {K R : Nat} {T x y : List Int} (hl : x.length = y.length) : imgP K R T x = imgP K R T y ↔
    ∀ i, i + 2 * R < x.length → labN K T (nodeAt K (2 * R) x i) (x.getD (i + 2 * R) 0).toNat = labN K T (nodeAt K (2 * R) y i) (y.getD (i + 2 * R) 0).toNat := by
  constructor
  · intro h i hi
    rw [← img_at hi, ← img_at (by omega), h]
  · intro h
    refine List.ext_getElem (by rw [imgP_length, imgP_length, hl]) fun i h1 h2 => ?_
    rw [imgP_length] at h1 h2
    have := h i (by omega)
    rw [← img_at (by omega), ← img_at (by omega)] at this
    simpa [List.getD_eq_getElem?_getD, imgP_length, h1, h2] using this

/-- The vertices along two words. -/
def wayW (K m : Nat) (x y : List Int) : List Nat := (List.range (x.length - m + 1)).map fun i => nodeAt K m x i * pw K m + nodeAt K m y i
theorem wayW_len (K m : Nat) (x y : List Int) : (wayW K m x y).length = x.length - m + 1 := by simp [wayW]
theorem wayW_get {K m : Nat} {x y : List Int} {i : Nat} (h : i ≤ x.length - m) : (wayW K m x y).getD i 0 = nodeAt K m x i * pw K m + nodeAt K m y i := by
  simp [wayW, List.getD, show i < x.length - m + 1 by omega]
theorem wayW_arr {K R : Nat} {T x y : List Int} (hx : Syms K x) (hy : Syms K y) (hl : x.length = y.length) (he : imgP K R T x = imgP K R T y) {i : Nat} (hi : i + 2 * R < x.length) :
    Arr K (pw K (2 * R)) T (nodeAt K (2 * R) x i) (nodeAt K (2 * R) y i) (nodeAt K (2 * R) x (i + 1) * pw K (2 * R) + nodeAt K (2 * R) y (i + 1)) :=
  ⟨_, _, (syms_at hx hi).2.2, (syms_at hy (by omega)).2.2, (img_eq hl).1 he i hi, by rw [node_next hx hi, node_next hy (by omega)]⟩

/-- Does a step of the way fit: the second vertex by the last symbols of its nodes? -/
def StepFits (K N : Nat) (T : List Int) (p q : Nat) : Prop :=
  toN K N (p / N) (q / N % K) = q / N ∧ toN K N (p % N) (q % N % K) = q % N ∧ labN K T (p / N) (q / N % K) = labN K T (p % N) (q % N % K)
instance (K N : Nat) (T : List Int) (p q : Nat) : Decidable (StepFits K N T p q) := by unfold StepFits; exact inferInstance
/-- The last symbol of the node that a symbol leads to is that symbol. -/
theorem toN_mod {K R u s : Nat} (_hK : 1 ≤ K) (hR : 1 ≤ R) (hs : s < K) : toN K (pw K (2 * R)) u s % K = s := by
  unfold toN
  have : K ∣ pw K (2 * R) := ⟨pw K (2 * R - 1), by rw [Nat.mul_comm K, ← pw_succ]; congr 1; omega⟩
  rw [Nat.mod_mod_of_dvd _ this, mod_mk hs]
theorem fits_iff {K R : Nat} {T : List Int} {p q : Nat} (hK : 1 ≤ K) (hR : 1 ≤ R) (hq : q < pw K (2 * R) * pw K (2 * R)) :
    StepFits K (pw K (2 * R)) T p q ↔ Arr K (pw K (2 * R)) T (p / pw K (2 * R)) (p % pw K (2 * R)) q := by
  have hN := pw_pos (K := K) (2 * R) hK
  constructor
  · rintro ⟨h1, h2, h3⟩
    exact ⟨_, _, Nat.mod_lt _ (by omega), Nat.mod_lt _ (by omega), h3, by rw [h1, h2, pair_eq]⟩
  · rintro ⟨s, t, hs, ht, e, rfl⟩
    unfold StepFits
    rw [pair_div (toN_lt (by omega)), pair_mod (toN_lt (by omega)), toN_mod hK hR hs, toN_mod hK hR ht]
    exact ⟨rfl, rfl, e⟩
/-- The word along a way of nodes. -/
def alongW (K m : Nat) (F : Nat → Nat) (way : List Nat) : List Int := digs K m (F (way.getD 0 0)) ++ (way.drop 1).map fun p => ((F p % K : Nat) : Int)
theorem alongW_len (K m : Nat) (F : Nat → Nat) (way : List Nat) : (alongW K m F way).length = m + (way.length - 1) := by simp [alongW, digs_length]
theorem alongW_syms {K m : Nat} (hK : 1 ≤ K) (F : Nat → Nat) (way : List Nat) : Syms K (alongW K m F way) := by
  intro y hy
  rcases List.mem_append.1 hy with hy | hy
  · exact digs_syms hK _ _ y hy
  · obtain ⟨p, _, rfl⟩ := List.mem_map.1 hy
    have := Nat.mod_lt (F p) (show 0 < K by omega); omega
theorem alongW_get {K m : Nat} {F : Nat → Nat} {way : List Nat} {i : Nat} (h : i + 1 < way.length) : (alongW K m F way).getD (i + m) 0 = ((F (way.getD (i + 1) 0) % K : Nat) : Int) := by
  unfold alongW
  rw [List.getD_eq_getElem?_getD, List.getElem?_append_right (by rw [digs_length]; omega), digs_length, Nat.add_sub_cancel, List.getElem?_map, List.getElem?_drop, Nat.add_comm 1 i]
  rw [List.getElem?_eq_getElem h]
  simp [List.getD, h]
/-- Along a way that fits the nodes are the way's. -/
theorem along_node {K m : Nat} (hK : 1 ≤ K) {F : Nat → Nat} {way : List Nat} (h0 : F (way.getD 0 0) < pw K m) (hs : ∀ i, i + 1 < way.length → toN K (pw K m) (F (way.getD i 0)) (F (way.getD (i + 1) 0) % K) = F (way.getD (i + 1) 0)) :
    ∀ i, i < way.length → nodeAt K m (alongW K m F way) i = F (way.getD i 0)
  | 0, _ => by
    unfold nodeAt alongW
    rw [List.drop_zero, List.take_append_of_le_length (by rw [digs_length]; omega), List.take_of_length_le (by rw [digs_length]; omega), numW_digs hK _ _ h0]
  | i + 1, hi => by
    have ih := along_node hK h0 hs i (by omega)
    rw [node_next (alongW_syms hK F way) (by rw [alongW_len]; omega), ih, alongW_get hi, Int.toNat_natCast]
    exact hs i hi
/-- The word along the nodes of a word is that word. -/
theorem along_word {K R : Nat} (hK : 1 ≤ K) (hR : 1 ≤ R) {F : Nat → Nat} {x : List Int} (hx : Syms K x) (hl : 2 * R ≤ x.length) {way : List Nat} (hw : way.length = x.length - 2 * R + 1)
    (hF : ∀ i, i < way.length → F (way.getD i 0) = nodeAt K (2 * R) x i) : alongW K (2 * R) F way = x := by
  have hN := pw_pos (K := K) (2 * R) hK
  refine List.ext_getElem (by rw [alongW_len]; omega) fun i h1 h2 => ?_
  by_cases hi : i < 2 * R
  · have e : digs K (2 * R) (F (way.getD 0 0)) = x.take (2 * R) := by
      rw [hF 0 (by omega)]
      have := digs_numW hK (x.take (2 * R)) (syms_take hx _)
      rw [show (x.take (2 * R)).length = 2 * R by simp; omega] at this
      simpa [nodeAt] using this
    simp only [alongW, e]
    rw [List.getElem_append_left (by simp; omega), List.getElem_take]
  · obtain ⟨j, rfl⟩ : ∃ j, i = j + 2 * R := ⟨i - 2 * R, by omega⟩
    have hj : j + 1 < way.length := by omega
    have := alongW_get (K := K) (m := 2 * R) (F := F) hj
    rw [hF (j + 1) hj, node_next hx (by omega), toN_mod hK hR (syms_at hx (by omega)).2.2] at this
    simp only [List.getD_eq_getElem?_getD, List.getElem?_eq_getElem h1, List.getElem?_eq_getElem h2, Option.getD_some] at this
    rw [this]
    have := (hx (x[j + 2 * R]) (List.getElem_mem _)).1
    omega
end Go.Proofs.YthnkdiejmclmkaaDoor

namespace Go.Proofs.YthnkdiejmclmkaaDoor

/-- Two words that differ, with the same 2 R symbols at both ends and one image. -/
structure IsTwins (K R : Nat) (T a b : List Int) : Prop where
  sa : Syms K a
  sb : Syms K b
  len : a.length = b.length
  ne : a ≠ b
  low : 2 * R ≤ a.length
  front : a.take (2 * R) = b.take (2 * R)
  back : a.drop (a.length - 2 * R) = b.drop (b.length - 2 * R)
  img : imgP K R T a = imgP K R T b
theorem IsTwins.symm {K R : Nat} {T a b : List Int} (h : IsTwins K R T a b) : IsTwins K R T b a :=
  ⟨h.sb, h.sa, h.len.symm, h.ne.symm, by rw [← h.len]; exact h.low, h.front.symm, h.back.symm, h.img.symm⟩
/-- Wherever one stands the other may stand. -/
theorem IsTwins.context {K R : Nat} {T a b : List Int} (h : IsTwins K R T a b) (u v : List Int) : imgP K R T (u ++ a ++ v) = imgP K R T (u ++ b ++ v) := by
  have hlen := h.len
  have hlow := h.low
  have fr : ∀ k, k < 2 * R → a[k]? = b[k]? := fun k hk => by
    have := congrArg (·[k]?) h.front
    simpa [List.getElem?_take, hk] using this
  have bk : ∀ k, a.length - 2 * R ≤ k → a[k]? = b[k]? := fun k hk => by
    have := congrArg (·[k - (a.length - 2 * R)]?) h.back
    simp only [List.getElem?_drop] at this
    rw [show a.length - 2 * R + (k - (a.length - 2 * R)) = k by omega, show b.length - 2 * R + (k - (a.length - 2 * R)) = k by omega] at this
    exact this
  have at_ : ∀ (c : List Int) (p : Nat), (u ++ c ++ v)[p]? = if p < u.length then u[p]? else if p < u.length + c.length then c[p - u.length]? else v[p - (u.length + c.length)]? := fun c p => by
    rw [List.getElem?_append]
    simp only [List.length_append, List.getElem?_append]
    split
    · split <;> rfl
    · split
      · omega
      · rfl
  refine List.ext_getElem (by rw [imgP_length, imgP_length]; simp [hlen]) fun i h1 h2 => ?_
  rw [imgP_length] at h1 h2
  have key : ((u ++ a ++ v).drop i).take (2 * R + 1) = ((u ++ b ++ v).drop i).take (2 * R + 1) ∨ (u.length ≤ i ∧ i + 2 * R < u.length + a.length) := by
    by_cases hin : u.length ≤ i ∧ i + 2 * R < u.length + a.length
    · exact .inr hin
    · left
      refine List.ext_getElem? fun j => ?_
      rw [List.getElem?_take, List.getElem?_take]
      split
      · rw [List.getElem?_drop, List.getElem?_drop, at_, at_, ← hlen]
        split
        · rfl
        · split
          · by_cases q : i < u.length
            · exact fr _ (by omega)
            · exact bk _ (by omega)
          · rfl
      · rfl
  have g1 := imgP_getD K R T (u ++ a ++ v) i h1
  have g2 := imgP_getD K R T (u ++ b ++ v) i h2
  simp only [List.getD_eq_getElem?_getD, List.getElem?_eq_getElem (show i < (imgP K R T (u ++ a ++ v)).length by rw [imgP_length]; exact h1), List.getElem?_eq_getElem (show i < (imgP K R T (u ++ b ++ v)).length by rw [imgP_length]; exact h2), Option.getD_some] at g1 g2
  rw [g1, g2]
  rcases key with key | ⟨k1, k2⟩
  · rw [key]
  · have win : ∀ (c : List Int), c.length = a.length → ((u ++ c ++ v).drop i).take (2 * R + 1) = (c.drop (i - u.length)).take (2 * R + 1) := fun c hc => by
      rw [List.append_assoc, List.drop_append, List.drop_eq_nil_of_le (show u.length ≤ i by omega), List.nil_append, List.drop_append_of_le_length (by omega), List.take_append_of_le_length (by simp; omega)]
    rw [win a rfl, win b hlen.symm]
    have e := congrArg (fun l => l.getD (i - u.length) 0) h.img
    rw [imgP_getD _ _ _ _ _ (by omega), imgP_getD _ _ _ _ _ (by omega)] at e
    simpa [List.getD_eq_getElem?_getD] using e

/-- The nodes of the pair are one. -/
def Diag (N p : Nat) : Prop := p / N = p % N
instance (N p : Nat) : Decidable (Diag N p) := by unfold Diag; exact inferInstance
theorem diag_mk {N u : Nat} (h : u < N) : Diag N (u * N + u) := by unfold Diag; rw [pair_div h, pair_mod h]
theorem Diag.eq {N p : Nat} (h : Diag N p) : p = p / N * N + p / N := by
  have := pair_eq p N
  rw [← h] at this; exact this.symm
/-- A way from a pair of equal nodes through pairs that are apart to a pair of equal nodes. -/
structure ApartWay (N : Nat) (adj : Nat → List Nat) (w : List Nat) : Prop where
  len : 3 ≤ w.length
  low : ∀ i, i < w.length → w.getD i 0 < N * N
  arr : ∀ i, i + 1 < w.length → w.getD (i + 1) 0 ∈ adj (w.getD i 0)
  fst : Diag N (w.getD 0 0)
  lst : Diag N (w.getD (w.length - 1) 0)
  inn : ∀ i, 0 < i → i + 1 < w.length → ¬ Diag N (w.getD i 0)
theorem last_diag {N : Nat} {W : Nat → Nat} (h0 : Diag N (W 0)) : ∀ i, ¬ Diag N (W i) → ∃ k, k < i ∧ Diag N (W k) ∧ ∀ j, k < j → j ≤ i → ¬ Diag N (W j)
  | 0, h => absurd h0 h
  | i + 1, h => by
    by_cases q : Diag N (W i)
    · exact ⟨i, by omega, q, fun j h1 h2 => by obtain rfl : j = i + 1 := by omega
                                               exact h⟩
    · obtain ⟨k, h1, h2, h3⟩ := last_diag h0 i q
      refine ⟨k, by omega, h2, fun j h4 h5 => ?_⟩
      by_cases e : j = i + 1
      · subst e; exact h
      · exact h3 j h4 (by omega)
theorem next_diag {N : Nat} {W : Nat → Nat} {i : Nat} (h : ¬ Diag N (W i)) : ∀ k, Diag N (W (i + k)) → ∃ m, i < m ∧ m ≤ i + k ∧ Diag N (W m) ∧ ∀ j, i ≤ j → j < m → ¬ Diag N (W j)
  | 0, hk => absurd hk h
  | k + 1, hk => by
    by_cases q : ∃ m, i < m ∧ m ≤ i + k ∧ Diag N (W m) ∧ ∀ j, i ≤ j → j < m → ¬ Diag N (W j)
    · obtain ⟨m, h1, h2, h3⟩ := q
      exact ⟨m, h1, by omega, h3⟩
    · refine ⟨i + (k + 1), by omega, Nat.le_refl _, hk, fun j h1 h2 hd => q ?_⟩
      obtain ⟨d, rfl⟩ : ∃ d, j = i + d := ⟨j - i, by omega⟩
      obtain ⟨m, m1, m2, m3⟩ := next_diag h d hd
      exact ⟨m, m1, by omega, m3⟩
theorem list_range_get (f : Nat → Nat) (n i : Nat) (h : i < n) : ((List.range n).map f).getD i 0 = f i := by simp [List.getD, h]
/-- Twins have such a way. -/
theorem IsTwins.way {K R : Nat} {T a b : List Int} (hK : 1 ≤ K) (hR : 1 ≤ R) (h : IsTwins K R T a b) : ∃ w, ApartWay (pw K (2 * R)) (pairL K (pw K (2 * R)) T) w ∧ 2 * R + (w.length - 1) ≤ a.length := by
  have hlen := h.len
  have hlow := h.low
  have hN := pw_pos (K := K) (2 * R) hK
  have na : ∀ i, i + 2 * R ≤ a.length → nodeAt K (2 * R) a i < pw K (2 * R) := fun i hi => node_lt h.sa hi
  have nb : ∀ i, i + 2 * R ≤ a.length → nodeAt K (2 * R) b i < pw K (2 * R) := fun i hi => node_lt h.sb (by omega)
  obtain ⟨W, hW⟩ : ∃ W : Nat → Nat, W = fun i => nodeAt K (2 * R) a i * pw K (2 * R) + nodeAt K (2 * R) b i := ⟨_, rfl⟩
  have hWi : ∀ i, W i = nodeAt K (2 * R) a i * pw K (2 * R) + nodeAt K (2 * R) b i := fun i => by rw [hW]
  have dg : ∀ i, i + 2 * R ≤ a.length → (Diag (pw K (2 * R)) (W i) ↔ nodeAt K (2 * R) a i = nodeAt K (2 * R) b i) := fun i hi => by
    unfold Diag; rw [hWi, pair_div (nb i hi), pair_mod (nb i hi)]
  have d0 : Diag (pw K (2 * R)) (W 0) := by
    rw [dg 0 (by omega)]; unfold nodeAt; rw [List.drop_zero, List.drop_zero, h.front]
  obtain ⟨n, hn⟩ : ∃ n, a.length = n + 2 * R := ⟨a.length - 2 * R, by omega⟩
  have dn : Diag (pw K (2 * R)) (W n) := by
    rw [dg n (by omega)]; unfold nodeAt
    have := h.back
    rw [← hlen, hn, Nat.add_sub_cancel] at this
    rw [this]
  have hex : ∃ i, i ≤ n ∧ ¬ Diag (pw K (2 * R)) (W i) := by
    apply Classical.byContradiction
    intro hno
    have hall : ∀ i, i ≤ n → nodeAt K (2 * R) a i = nodeAt K (2 * R) b i := fun i hi => (dg i (by omega)).1 (Classical.byContradiction fun q => hno ⟨i, hi, q⟩)
    apply h.ne
    have hget : ∀ i, i < n + 1 → ((List.range (n + 1)).map (nodeAt K (2 * R) a)).getD i 0 = nodeAt K (2 * R) a i := fun i hi => list_range_get _ _ _ hi
    have e1 := along_word (F := id) (way := (List.range (n + 1)).map (nodeAt K (2 * R) a)) hK hR h.sa h.low (by simp; omega) (fun i hi => hget i (by simpa using hi))
    have e2 := along_word (F := id) (way := (List.range (n + 1)).map (nodeAt K (2 * R) a)) hK hR h.sb (by omega) (by simp; omega) (fun i hi => by
      have hi : i < n + 1 := by simpa using hi
      show ((List.range (n + 1)).map (nodeAt K (2 * R) a)).getD i 0 = _
      rw [hget i hi, hall i (by omega)])
    rw [← e1, e2]
  obtain ⟨i, hi, hnd⟩ := hex
  obtain ⟨k, k1, k2, k3⟩ := last_diag d0 i hnd
  obtain ⟨m, m1, m2, m3, m4⟩ := next_diag hnd (n - i) (by rw [show i + (n - i) = n by omega]; exact dn)
  have hget : ∀ j, j < m - k + 1 → ((List.range (m - k + 1)).map fun j => W (k + j)).getD j 0 = W (k + j) := fun j hj => list_range_get _ _ _ hj
  refine ⟨(List.range (m - k + 1)).map fun j => W (k + j), ⟨by simp; omega, fun j hj => ?_, fun j hj => ?_, ?_, ?_, fun j j0 j1 => ?_⟩, by simp; omega⟩
  · rw [hget j (by simpa using hj), hWi]
    have : j < m - k + 1 := by simpa using hj
    exact pair_lt (na _ (by omega)) (nb _ (by omega))
  · have hj : j + 1 < m - k + 1 := by simpa using hj
    rw [hget j (by omega), hget (j + 1) hj, mem_pairL (by omega), hWi, hWi, pair_div (nb _ (by omega)), pair_mod (nb _ (by omega)), ← Nat.add_assoc]
    exact wayW_arr h.sa h.sb hlen h.img (by omega)
  · rw [hget 0 (by omega)]; exact k2
  · rw [List.length_map, List.length_range, Nat.add_sub_cancel, hget _ (by omega), show k + (m - k) = m by omega]; exact m3
  · have hj : j + 1 < m - k + 1 := by simpa using j1
    rw [hget j (by omega)]
    by_cases q : k + j ≤ i
    · exact k3 _ (by omega) q
    · exact m4 _ (by omega) (by omega)
/-- A way of pairs gives two words with one image. -/
theorem ways_words {K R : Nat} {T : List Int} {w : List Nat} (hK : 1 ≤ K) (hR : 1 ≤ R) (hw : 1 ≤ w.length) (low : ∀ i, i < w.length → w.getD i 0 < pw K (2 * R) * pw K (2 * R))
    (arr : ∀ i, i + 1 < w.length → w.getD (i + 1) 0 ∈ pairL K (pw K (2 * R)) T (w.getD i 0)) :
    (∀ i, i < w.length → nodeAt K (2 * R) (alongW K (2 * R) (· / pw K (2 * R)) w) i = w.getD i 0 / pw K (2 * R) ∧ nodeAt K (2 * R) (alongW K (2 * R) (· % pw K (2 * R)) w) i = w.getD i 0 % pw K (2 * R)) ∧
    imgP K R T (alongW K (2 * R) (· / pw K (2 * R)) w) = imgP K R T (alongW K (2 * R) (· % pw K (2 * R)) w) := by
  have hN := pw_pos (K := K) (2 * R) hK
  have fits : ∀ i, i + 1 < w.length → StepFits K (pw K (2 * R)) T (w.getD i 0) (w.getD (i + 1) 0) := fun i hi =>
    (fits_iff hK hR (low _ hi)).2 ((mem_pairL (by omega)).1 (arr i hi))
  have n1 := along_node (K := K) (m := 2 * R) (F := (· / pw K (2 * R))) (way := w) hK (div_lt_of (low 0 (by omega))) (fun i hi => (fits i hi).1)
  have n2 := along_node (K := K) (m := 2 * R) (F := (· % pw K (2 * R))) (way := w) hK (Nat.mod_lt _ (by omega)) (fun i hi => (fits i hi).2.1)
  refine ⟨fun i hi => ⟨n1 i hi, n2 i hi⟩, ?_⟩
  rw [img_eq (by rw [alongW_len, alongW_len])]
  intro i hi
  rw [alongW_len] at hi
  rw [n1 i (by omega), n2 i (by omega), alongW_get (by omega), alongW_get (by omega), Int.toNat_natCast, Int.toNat_natCast]
  exact (fits i (by omega)).2.2
/-- Such a way has twins. -/
theorem ApartWay.twins {K R : Nat} {T : List Int} {w : List Nat} (hK : 1 ≤ K) (hR : 1 ≤ R) (h : ApartWay (pw K (2 * R)) (pairL K (pw K (2 * R)) T) w) :
    IsTwins K R T (alongW K (2 * R) (· / pw K (2 * R)) w) (alongW K (2 * R) (· % pw K (2 * R)) w) := by
  have hN := pw_pos (K := K) (2 * R) hK
  have h3 := h.len
  obtain ⟨hn, hi⟩ := ways_words hK hR (by omega) h.low h.arr
  have la := alongW_len K (2 * R) (· / pw K (2 * R)) w
  have lb := alongW_len K (2 * R) (· % pw K (2 * R)) w
  have sa := alongW_syms (m := 2 * R) hK (· / pw K (2 * R)) w
  have sb := alongW_syms (m := 2 * R) hK (· % pw K (2 * R)) w
  generalize alongW K (2 * R) (· / pw K (2 * R)) w = a at *
  generalize alongW K (2 * R) (· % pw K (2 * R)) w = b at *
  have same : ∀ i, i < w.length → Diag (pw K (2 * R)) (w.getD i 0) → (a.drop i).take (2 * R) = (b.drop i).take (2 * R) := fun i hi hd => by
    obtain ⟨e1, e2⟩ := hn i hi
    have q1 := digs_numW hK _ (syms_take (syms_drop sa i) (2 * R))
    have q2 := digs_numW hK _ (syms_take (syms_drop sb i) (2 * R))
    rw [show ((a.drop i).take (2 * R)).length = 2 * R by simp; omega] at q1
    rw [show ((b.drop i).take (2 * R)).length = 2 * R by simp; omega] at q2
    rw [← q1, ← q2]
    show digs K (2 * R) (nodeAt K (2 * R) a i) = digs K (2 * R) (nodeAt K (2 * R) b i)
    rw [e1, e2, hd]
  refine ⟨sa, sb, by omega, fun e => ?_, by omega, ?_, ?_, hi⟩
  · subst e
    obtain ⟨e1, e2⟩ := hn 1 (by omega)
    exact h.inn 1 (by omega) (by omega) (e1.symm.trans e2)
  · have := same 0 (by omega) h.fst
    simpa using this
  · have := same (w.length - 1) (by omega) h.lst
    rw [List.take_of_length_le (by simp; omega), List.take_of_length_le (by simp; omega)] at this
    rw [show a.length - 2 * R = w.length - 1 by omega, show b.length - 2 * R = w.length - 1 by omega]
    exact this

/-- The least length of twins. -/
def TwinLen (K R : Nat) (T : List Int) (n : Nat) : Prop := (∃ a b, IsTwins K R T a b ∧ a.length = n) ∧ ∀ a b, IsTwins K R T a b → n ≤ a.length
theorem TwinLen.unique {K R : Nat} {T : List Int} {n m : Nat} (h : TwinLen K R T n) (k : TwinLen K R T m) : n = m := by
  obtain ⟨⟨a, b, h1, rfl⟩, h2⟩ := h
  obtain ⟨⟨c, d, k1, rfl⟩, k2⟩ := k
  exact Nat.le_antisymm (h2 _ _ k1) (k2 _ _ h1)
theorem way_twinLen {K R : Nat} {T : List Int} {w : List Nat} (hK : 1 ≤ K) (hR : 1 ≤ R) (h : ApartWay (pw K (2 * R)) (pairL K (pw K (2 * R)) T) w)
    (hm : ∀ u, ApartWay (pw K (2 * R)) (pairL K (pw K (2 * R)) T) u → w.length ≤ u.length) : TwinLen K R T (2 * R + (w.length - 1)) := by
  refine ⟨⟨_, _, h.twins hK hR, alongW_len ..⟩, fun a b hab => ?_⟩
  obtain ⟨u, hu, hl⟩ := hab.way hK hR
  have := hm u hu
  omega
theorem no_twins {K R : Nat} {T : List Int} (hK : 1 ≤ K) (hR : 1 ≤ R) (hm : ∀ u, ¬ ApartWay (pw K (2 * R)) (pairL K (pw K (2 * R)) T) u) (a b : List Int) : ¬ IsTwins K R T a b := fun h => by
  obtain ⟨u, hu, _⟩ := h.way hK hR
  exact hm u hu
end Go.Proofs.YthnkdiejmclmkaaDoor
