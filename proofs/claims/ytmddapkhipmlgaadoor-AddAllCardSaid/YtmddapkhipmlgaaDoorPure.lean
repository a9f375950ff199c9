/-
  Plain mathematics of the first layers: no program in sight.
-/
namespace Go.Proofs.YtmddapkhipmlgaaDoor

/-- An error as plain data: its number, and packages and places from the outermost on; none: no error. -/
abbrev PErr := Option (Int × List (ByteArray × Int))
def under (op : ByteArray) (at_ : Int) (t : PErr) : PErr := t.map fun x => (x.1, (op, at_) :: x.2)
def fresh (op : ByteArray) (at_ : Int) (n : Int) : PErr := some (n, [(op, at_)])
def sRule : ByteArray := ⟨#[114, 117, 108, 101]⟩
def sAdditive : ByteArray := ⟨#[97, 100, 100, 105, 116, 105, 118, 101]⟩

def pw (K i : Nat) : Nat := K ^ i
theorem pw_zero (K : Nat) : pw K 0 = 1 := rfl
theorem pw_succ (K i : Nat) : pw K (i + 1) = pw K i * K := Nat.pow_succ ..
theorem pw_one (K : Nat) : pw K 1 = K := by simp [pw]
theorem pw_add (K i j : Nat) : pw K (i + j) = pw K i * pw K j := Nat.pow_add ..
theorem pw_pos {K : Nat} (i : Nat) (h : 1 ≤ K) : 1 ≤ pw K i := Nat.one_le_pow _ _ h
theorem pw_mono {K i j : Nat} (h1 : 1 ≤ K) (h : i ≤ j) : pw K i ≤ pw K j := Nat.pow_le_pow_right h1 h
theorem pw_le {K i : Nat} (_h1 : 1 ≤ K) (h4 : K ≤ 4) (hi : i ≤ 7) : pw K i ≤ 16384 :=
  Nat.le_trans (Nat.pow_le_pow_left h4 i) (Nat.le_trans (Nat.pow_le_pow_right (by omega) hi) (by decide))

theorem pw_lt {K i j : Nat} (h1 : 1 < K) (h : i < j) : pw K i < pw K j := Nat.pow_lt_pow_right h1 h

/-- The first place that p holds of; -1: none. -/
def idxOf (p : Int → Bool) (xs : List Int) : Int := match xs.findIdx? p with | some i => i | none => -1
theorem idxOf_neg {p : Int → Bool} {xs : List Int} (h : ∀ x ∈ xs, p x = false) : idxOf p xs = -1 := by
  have : xs.findIdx? p = none := List.findIdx?_eq_none_iff.2 h
  simp [idxOf, this]
theorem idxOf_at {p : Int → Bool} {xs : List Int} (k : Nat) (hk : k < xs.length) (hp : p xs[k] = true) (hj : ∀ j (h : j < xs.length), j < k → p xs[j] = false) : idxOf p xs = k := by
  have : xs.findIdx? p = some k := by
    rw [List.findIdx?_eq_some_iff_getElem]
    exact ⟨hk, hp, fun j hjk => by simp [hj j (by omega) hjk]⟩
  simp [idxOf, this]
theorem idxOf_cases (p : Int → Bool) (xs : List Int) : (idxOf p xs = -1 ∧ ∀ x ∈ xs, p x = false) ∨ (∃ k : Nat, idxOf p xs = k ∧ ∃ h : k < xs.length, p xs[k] = true ∧ ∀ j (h : j < xs.length), j < k → p xs[j] = false) := by
  cases h : xs.findIdx? p with
  | none => exact .inl ⟨by simp [idxOf, h], List.findIdx?_eq_none_iff.1 h⟩
  | some k =>
    obtain ⟨hk, hp, hj⟩ := List.findIdx?_eq_some_iff_getElem.1 h
    exact .inr ⟨k, by simp [idxOf, h], hk, hp, fun j hj' hjk => by simpa using hj j hjk⟩

/-- No symbol below k. -/
def odd1 (k : Int) (x : Int) : Bool := decide (x < 0) || decide (k ≤ x)
theorem odd1_false {k x : Int} : odd1 k x = false ↔ 0 ≤ x ∧ x < k := by simp [odd1]
/-- Are all symbols below k? -/
def Syms (k : Int) (xs : List Int) : Prop := ∀ x ∈ xs, 0 ≤ x ∧ x < k
theorem Syms.odd {k : Int} {xs : List Int} (h : Syms k xs) : idxOf (odd1 k) xs = -1 := idxOf_neg fun x hx => odd1_false.2 (h x hx)
theorem syms_or (k : Int) (xs : List Int) : Syms k xs ∨ ∃ i : Nat, idxOf (odd1 k) xs = i ∧ i < xs.length := by
  rcases idxOf_cases (odd1 k) xs with ⟨_, h⟩ | ⟨i, h, hi, _⟩
  · exact .inl fun x hx => odd1_false.1 (h x hx)
  · exact .inr ⟨i, h, hi⟩

/-- Is it a rule, with K symbols and radius R? -/
structure RuleOk (K R : Nat) (xs : List Int) : Prop where
  k1 : 1 ≤ K
  k4 : K ≤ 4
  r3 : R ≤ 3
  len : xs.length = pw K (2 * R + 1)
  syms : Syms K xs

theorem RuleOk.len_le {K R : Nat} {xs : List Int} (h : RuleOk K R xs) : xs.length ≤ 16384 := by
  rw [h.len]; exact pw_le h.k1 h.k4 (by have := h.r3; omega)
theorem RuleOk.len_pos {K R : Nat} {xs : List Int} (h : RuleOk K R xs) : 1 ≤ xs.length := by
  rw [h.len]; exact pw_pos _ h.k1

/-- rule.Check's answer. -/
def checkP (k r : Int) (xs : List Int) : PErr :=
  if k < 1 ∨ 4 < k then fresh sRule 0 1
  else if r < 0 ∨ 3 < r then fresh sRule 1 1
  else if xs.length ≠ pw k.toNat (2 * r.toNat + 1) then fresh sRule 2 1
  else if idxOf (odd1 k) xs = -1 then none
  else fresh sRule (3 + idxOf (odd1 k) xs) 1

theorem checkP_none {k r : Int} {xs : List Int} (h : checkP k r xs = none) : ∃ K R : Nat, k = K ∧ r = R ∧ RuleOk K R xs := by
  unfold checkP at h
  by_cases h1 : k < 1 ∨ 4 < k
  · rw [if_pos h1] at h; cases h
  rw [if_neg h1] at h
  by_cases h2 : r < 0 ∨ 3 < r
  · rw [if_pos h2] at h; cases h
  rw [if_neg h2] at h
  by_cases h3 : xs.length ≠ pw k.toNat (2 * r.toNat + 1)
  · rw [if_pos h3] at h; cases h
  rw [if_neg h3] at h
  by_cases h4 : idxOf (odd1 k) xs = -1
  · refine ⟨k.toNat, r.toNat, by omega, by omega, by omega, by omega, by omega, by omega, ?_⟩
    rw [show ((k.toNat : Nat) : Int) = k by omega]
    rcases syms_or k xs with h5 | ⟨i, h5, _⟩
    · exact h5
    · omega
  · rw [if_neg h4] at h; cases h

theorem RuleOk.check {K R : Nat} {xs : List Int} (h : RuleOk K R xs) : checkP K R xs = none := by
  have := h.k1; have := h.k4; have := h.r3
  unfold checkP
  rw [if_neg (by omega), if_neg (by omega), if_neg (by simp [h.len]), if_pos h.syms.odd]
end Go.Proofs.YtmddapkhipmlgaaDoor
