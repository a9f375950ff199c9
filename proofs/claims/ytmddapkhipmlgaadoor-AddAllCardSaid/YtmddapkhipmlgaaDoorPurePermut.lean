/-
  Plain mathematics of layer 19: rules that permute at one end.
-/
import Derived.Test.YtmddapkhipmlgaaDoorPureAdd
namespace Go.Proofs.YtmddapkhipmlgaaDoor

def sPermut : ByteArray := ⟨#[112, 101, 114, 109, 117, 116]⟩

/-- The symbols seen in a group of windows, as bits. -/
def seenP (T : List Int) (W i : Nat) : Nat → Nat
  | 0 => 0
  | s + 1 => seenP T W i s ||| 2 ^ (T.getD (i + s * W) 0).toNat
theorem seenP_lt {K : Nat} (hK : 1 ≤ K) {T : List Int} (h : Syms K T) (W i s : Nat) : seenP T W i s < 2 ^ K := by
  induction s with
  | zero => exact Nat.two_pow_pos K
  | succ s ih =>
    have := h.getD (by omega) (i + s * W)
    exact Nat.or_lt_two_pow ih (Nat.pow_lt_pow_right (by decide) (by omega))
theorem two_pow_K {K : Nat} (h : K ≤ 4) : 2 ^ K ≤ 16 := by
  have : K = 0 ∨ K = 1 ∨ K = 2 ∨ K = 3 ∨ K = 4 := by omega
  rcases this with rfl | rfl | rfl | rfl | rfl <;> decide

/-- The group of window i. -/
def fullP (K : Nat) (T : List Int) (W i : Nat) : Bool := seenP T W i K == 2 ^ K - 1
/-- permut.unlike's answer. -/
def unlikeP (K : Nat) (T : List Int) (W : Nat) : Bool := (List.range T.length).all fun i => i / W % K != 0 || fullP K T W i
theorem unlikeP_true {K : Nat} {T : List Int} {W : Nat} (h : ∀ i, i < T.length → i / W % K = 0 → fullP K T W i = true) : unlikeP K T W = true := by
  rw [unlikeP, List.all_eq_true]
  intro i hi
  have hi' := List.mem_range.1 hi
  by_cases c : i / W % K = 0
  · simp [h i hi' c]
  · simp [c]
theorem unlikeP_false {K : Nat} {T : List Int} {W : Nat} (i : Nat) (hi : i < T.length) (hm : i / W % K = 0) (h : fullP K T W i = false) : unlikeP K T W = false := by
  rw [unlikeP, List.all_eq_false]
  exact ⟨i, List.mem_range.2 hi, by simp [hm, h]⟩
theorem unlikeP_full {K : Nat} {T : List Int} {W : Nat} (h : unlikeP K T W = true) (i : Nat) (hi : i < T.length) (hm : i / W % K = 0) : fullP K T W i = true := by
  rw [unlikeP, List.all_eq_true] at h
  have := h i (List.mem_range.2 hi)
  simpa [hm] using this

/-- A bit is seen just if a symbol is. -/
theorem seenP_bit {K : Nat} {T : List Int} (hK : 1 ≤ K) (h : Syms K T) (W i s y : Nat) : (seenP T W i s).testBit y = true ↔ ∃ t, t < s ∧ T.getD (i + t * W) 0 = y := by
  induction s with
  | zero => simp [seenP]
  | succ s ih =>
    have hx := h.getD (by omega) (i + s * W)
    rw [seenP, Nat.testBit_or, Bool.or_eq_true, ih, Nat.testBit_two_pow]
    constructor
    · rintro (⟨t, ht, e⟩ | e)
      · exact ⟨t, by omega, e⟩
      · rw [decide_eq_true_iff] at e; exact ⟨s, by omega, by omega⟩
    · rintro ⟨t, ht, e⟩
      by_cases c : t = s
      · subst c; right; rw [decide_eq_true_iff]; omega
      · left; exact ⟨t, by omega, e⟩

/-- In a full group each symbol stands. -/
theorem fullP_all {K : Nat} {T : List Int} (hK : 1 ≤ K) (h : Syms K T) {W i : Nat} (hf : fullP K T W i = true) (y : Nat) (hy : y < K) : ∃ t, t < K ∧ T.getD (i + t * W) 0 = y := by
  have e : seenP T W i K = 2 ^ K - 1 := by simpa [fullP] using hf
  rw [← seenP_bit hK h, e, Nat.testBit_two_pow_sub_one]
  simpa using hy

/-- permut.fits' answer. -/
def fitP (T : List Int) (rest W : Nat) (image : Int) : Nat → Nat → Nat
  | 0, _ => 0
  | n + 1, s => if T.getD (rest + s * W) 0 = image then s else fitP T rest W image n (s + 1)
def fit (K : Nat) (T : List Int) (rest W : Nat) (image : Int) : Nat := fitP T rest W image K 0
theorem fitP_lt (T : List Int) (rest W : Nat) (image : Int) (n s : Nat) (h : 0 < s + n) : fitP T rest W image n s < s + n := by
  induction n generalizing s with
  | zero => exact h
  | succ n ih =>
    rw [fitP]
    split
    · omega
    · have := ih (s + 1) (by omega); omega
theorem fit_lt {K : Nat} (hK : 1 ≤ K) (T : List Int) (rest W : Nat) (image : Int) : fit K T rest W image < K := by
  have := fitP_lt T rest W image K 0 (by omega); simpa [fit] using this
theorem fitP_at (T : List Int) (rest W : Nat) (image : Int) (n s k : Nat) (hk : k < n) (h : T.getD (rest + (s + k) * W) 0 = image) (hj : ∀ j, j < k → T.getD (rest + (s + j) * W) 0 ≠ image) : fitP T rest W image n s = s + k := by
  induction n generalizing s k with
  | zero => omega
  | succ n ih =>
    rw [fitP]
    by_cases c : k = 0
    · subst c; rw [if_pos (by simpa using h)]; rfl
    · have := hj 0 (by omega)
      rw [if_neg (by simpa using this), ih (s + 1) (k - 1) (by omega) (by rw [show s + 1 + (k - 1) = s + k by omega]; exact h) (fun j hj' => by rw [show s + 1 + j = s + (j + 1) by omega]; exact hj (j + 1) (by omega))]
      omega
theorem fit_at {K : Nat} (T : List Int) (rest W : Nat) (image : Int) (k : Nat) (hk : k < K) (h : T.getD (rest + k * W) 0 = image) (hj : ∀ j, j < k → T.getD (rest + j * W) 0 ≠ image) : fit K T rest W image = k := by
  have := fitP_at T rest W image K 0 k hk (by simpa using h) (by simpa using hj)
  simpa [fit] using this
theorem fitP_none (T : List Int) (rest W : Nat) (image : Int) (n s : Nat) (hj : ∀ j, j < n → T.getD (rest + (s + j) * W) 0 ≠ image) : fitP T rest W image n s = 0 := by
  induction n generalizing s with
  | zero => rfl
  | succ n ih =>
    rw [fitP, if_neg (by simpa using hj 0 (by omega))]
    exact ih (s + 1) (fun j h => by rw [show s + 1 + j = s + (j + 1) by omega]; exact hj (j + 1) (by omega))
theorem fit_none {K : Nat} (T : List Int) (rest W : Nat) (image : Int) (hj : ∀ j, j < K → T.getD (rest + j * W) 0 ≠ image) : fit K T rest W image = 0 :=
  fitP_none T rest W image K 0 (by simpa using hj)
/-- Where some symbol fits, the answer fits. -/
theorem fit_ok {K : Nat} (T : List Int) (rest W : Nat) (image : Int) (h : ∃ t, t < K ∧ T.getD (rest + t * W) 0 = image) : T.getD (rest + fit K T rest W image * W) 0 = image := by
  suffices H : ∀ n s, (∃ t, t < n ∧ T.getD (rest + (s + t) * W) 0 = image) → T.getD (rest + fitP T rest W image n s * W) 0 = image by
    exact H K 0 (by simpa using h)
  intro n
  induction n with
  | zero => rintro s ⟨t, ht, _⟩; omega
  | succ n ih =>
    rintro s ⟨t, ht, e⟩
    rw [fitP]
    split
    · assumption
    · rename_i hne
      refine ih (s + 1) ⟨t - 1, ?_, ?_⟩
      · by_cases c : t = 0
        · subst c; simp at e; exact absurd e hne
        · omega
      · by_cases c : t = 0
        · subst c; simp at e; exact absurd e hne
        · rw [show s + 1 + (t - 1) = s + t by omega]; exact e

/-- The number of a word. -/
def numW (K : Nat) (xs : List Int) : Nat := xs.foldl (fun n x => n * K + x.toNat) 0
theorem numW_snoc (K : Nat) (xs : List Int) (x : Int) : numW K (xs ++ [x]) = numW K xs * K + x.toNat := by simp [numW]
theorem numW_lt {K : Nat} (xs : List Int) (h : Syms K xs) : numW K xs < pw K xs.length := by
  suffices H : ∀ ys zs, xs = ys ++ zs → numW K ys < pw K ys.length from H xs [] (by simp)
  intro ys
  induction hn : ys.length generalizing ys with
  | zero => intro zs _; have := List.eq_nil_of_length_eq_zero hn; subst this; simp [numW, pw]
  | succ n ih =>
    intro zs e
    have hne : ys ≠ [] := by intro e; subst e; simp at hn
    obtain ⟨b, x, rfl⟩ : ∃ b x, ys = b ++ [x] := ⟨ys.dropLast, ys.getLast hne, (List.dropLast_concat_getLast hne).symm⟩
    have hb : b.length = n := by simpa using hn
    have h1 := ih b hb ([x] ++ zs) (by rw [e]; simp)
    have hx := h x (by rw [e]; simp)
    rw [numW_snoc, pw_succ]
    have : (numW K b + 1) * K ≤ pw K n * K := Nat.mul_le_mul_right _ (by omega)
    rw [Nat.succ_mul] at this
    omega

/-- permut.Right's symbols. -/
def rightP (K : Nat) (T : List Int) : Nat → List Int → List Int
  | _, [] => []
  | node, x :: w => (fit K T (node * K) 1 x : Int) :: rightP K T ((node * K + fit K T (node * K) 1 x) % (T.length / K)) w
/-- The node behind them. -/
def rightN (K : Nat) (T : List Int) : Nat → List Int → Nat
  | node, [] => node
  | node, x :: w => rightN K T ((node * K + fit K T (node * K) 1 x) % (T.length / K)) w
theorem rightP_snoc (K : Nat) (T : List Int) (node : Nat) (w : List Int) (x : Int) : rightP K T node (w ++ [x]) = rightP K T node w ++ [(fit K T (rightN K T node w * K) 1 x : Int)] := by
  induction w generalizing node with
  | nil => rfl
  | cons y w ih => simp [rightP, rightN, ih]
theorem rightN_snoc (K : Nat) (T : List Int) (node : Nat) (w : List Int) (x : Int) : rightN K T node (w ++ [x]) = (rightN K T node w * K + fit K T (rightN K T node w * K) 1 x) % (T.length / K) := by
  induction w generalizing node with
  | nil => rfl
  | cons y w ih => simp [rightN, ih]
theorem rightP_length (K : Nat) (T : List Int) (node : Nat) (w : List Int) : (rightP K T node w).length = w.length := by
  induction w generalizing node with
  | nil => rfl
  | cons y w ih => simp [rightP, ih]
theorem rightN_lt {K : Nat} {T : List Int} (h : 0 < T.length / K) (node : Nat) (hn : node < T.length / K) (w : List Int) : rightN K T node w < T.length / K := by
  induction w generalizing node with
  | nil => exact hn
  | cons y w ih => exact ih _ (Nat.mod_lt _ h)

/-- permut.Left's symbols, from the last on: the node behind them and they. -/
def leftS (K : Nat) (T : List Int) : Nat → List Int → Nat × List Int
  | node, [] => (node, [])
  | node, x :: w =>
    let p := leftS K T node w
    let s := fit K T p.1 (T.length / K) x
    ((s * (T.length / K) + p.1) / K, (s : Int) :: p.2)
theorem leftS_length (K : Nat) (T : List Int) (node : Nat) (w : List Int) : (leftS K T node w).2.length = w.length := by
  induction w with
  | nil => rfl
  | cons y w ih => simp [leftS, ih]

/-- permut.check's fault. -/
def checkM (K R : Nat) (w ends : List Int) : PErr :=
  if 4096 < w.length then fresh sPermut 1 4 else if ends.length ≠ 2 * R then fresh sPermut 2 3
  else if idxOf (odd1 K) (w ++ ends) = -1 then none else fresh sPermut (idxOf (odd1 K) (w ++ ends)) 2
theorem checkM_none {K R : Nat} {w ends : List Int} (h : checkM K R w ends = none) : w.length ≤ 4096 ∧ ends.length = 2 * R ∧ Syms K w ∧ Syms K ends := by
  unfold checkM at h
  by_cases h1 : 4096 < w.length
  · rw [if_pos h1] at h; cases h
  rw [if_neg h1] at h
  by_cases h2 : ends.length ≠ 2 * R
  · rw [if_pos h2] at h; cases h
  rw [if_neg h2] at h
  rcases syms_or K (w ++ ends) with hs | ⟨i, hi, _⟩
  · exact ⟨by omega, by omega, fun x hx => hs x (by simp [hx]), fun x hx => hs x (by simp [hx])⟩
  · rw [if_neg (by omega)] at h; cases h
/-- permut.Right's and Left's faults: the side's weight is handed in. -/
def permF (k R : Int) (xs : List Int) (W : Nat) (w ends : List Int) : PErr :=
  match checkP k R xs with
  | some t => under sPermut 0 (some t)
  | none => if unlikeP k.toNat xs W = false then fresh sPermut 0 3 else checkM k.toNat R.toNat w ends

/-- A group of windows lies within the table. -/
theorem group_lt {K W q j s n : Nat} (hW : 1 ≤ W) (hn : n = q * (W * K)) (hj : j < n) (hm : j / W % K = 0) (hs : s < K) : j + s * W < n := by
  have h1 := Nat.div_add_mod j W
  have h2 := Nat.div_add_mod (j / W) K
  have h3 := Nat.mod_lt j hW
  rw [hm, Nat.add_zero] at h2
  have e : j = W * K * (j / W / K) + j % W := by
    rw [Nat.mul_assoc, h2]; omega
  have hc : j / W / K < q := by
    rw [Nat.div_div_eq_div_mul]
    exact Nat.div_lt_of_lt_mul (by rw [Nat.mul_comm]; omega)
  have h4 : W * K * (j / W / K + 1) ≤ W * K * q := Nat.mul_le_mul_left _ hc
  rw [Nat.mul_add, Nat.mul_one] at h4
  have h5 : (s + 1) * W ≤ K * W := Nat.mul_le_mul_right _ hs
  rw [Nat.succ_mul, Nat.mul_comm K W] at h5
  rw [hn, Nat.mul_comm q]
  omega

theorem RuleOk.half {K R : Nat} {xs : List Int} (h : RuleOk K R xs) : xs.length / K = pw K (2 * R) ∧ xs.length = pw K (2 * R) * K := by
  have e := h.len
  rw [pw_succ] at e
  have := h.k1
  exact ⟨by rw [e, Nat.mul_div_cancel _ (by omega)], e⟩
end Go.Proofs.YtmddapkhipmlgaaDoor
