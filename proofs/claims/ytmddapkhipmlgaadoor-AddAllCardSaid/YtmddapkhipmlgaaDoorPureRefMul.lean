/-
  Plain mathematics: the reference's product, entry by entry.
-/
import Derived.Test.YtmddapkhipmlgaaDoorPureSums
namespace Go.Proofs.YtmddapkhipmlgaaDoor

/-- What is added to entry p for the factor i. -/
def mulTerm (a b : List Int) (p i : Nat) : Int := if i ≤ p ∧ p - i < b.length then a.getD i 0 * b.getD (p - i) 0 else 0
/-- Entry p after n factors. -/
def mulPart (K : Nat) (a b : List Int) (p n : Nat) : Int := Sm (mulTerm a b p) n % K
theorem mulPart_zero (K : Nat) (a b : List Int) (p : Nat) : mulPart K a b p 0 = 0 := by simp [mulPart, Sm]
theorem mulPart_succ (K : Nat) (a b : List Int) (p n : Nat) : mulPart K a b p (n + 1) = (mulPart K a b p n + mulTerm a b p n) % K := by
  rw [mulPart, mulPart, Sm, Int.emod_add_emod]
theorem mulPart_range {K : Nat} (hK : 1 ≤ K) (a b : List Int) (p n : Nat) : 0 ≤ mulPart K a b p n ∧ mulPart K a b p n < K :=
  ⟨Int.emod_nonneg _ (by omega), Int.emod_lt_of_pos _ (by omega)⟩
theorem mulL_entry {K : Nat} (hK : 1 ≤ K) (a b : List Int) (hb : 1 ≤ b.length) (p : Nat) (hp : p < a.length + b.length - 1) : (mulL K a b).getD p 0 = mulPart K a b p a.length := by
  rw [mulL_at K hK a b hb p hp, mulPart]
  congr 1
  refine Sm_congr _ fun i _ => ?_
  unfold mulTerm
  by_cases hi : i ≤ p
  · have e := Sm_delta (fun j => a.getD i 0 * b.getD j 0) (p - i) b.length
    have e2 : Sm (fun j => a.getD i 0 * b.getD j 0 * (if i + j = p then 1 else 0)) b.length = Sm (fun j => a.getD i 0 * b.getD j 0 * (if j = p - i then 1 else 0)) b.length := by
      refine Sm_congr _ fun j _ => ?_
      by_cases h : j = p - i
      · rw [if_pos h, if_pos (by omega)]
      · rw [if_neg h, if_neg (by omega)]
    rw [e2, e]
    by_cases h : p - i < b.length
    · rw [if_pos h, if_pos ⟨hi, h⟩]
    · rw [if_neg h, if_neg (by omega)]
  · rw [if_neg (by omega)]
    refine Sm_zero _ fun j _ => ?_
    rw [if_neg (by omega), Int.mul_zero]

/-- The product while it is reckoned: entries below p are done, entry p has j factors. -/
def outL (K : Nat) (a b : List Int) (p j : Nat) : List Int := (List.range (a.length + b.length - 1)).map fun t => if t < p then mulPart K a b t a.length else if t = p then mulPart K a b t j else 0
theorem outL_length (K : Nat) (a b : List Int) (p j : Nat) : (outL K a b p j).length = a.length + b.length - 1 := by simp [outL]
theorem outL_start (K : Nat) (a b : List Int) : outL K a b 0 0 = List.replicate (a.length + b.length - 1) 0 := by
  refine List.ext_getElem (by simp [outL]) fun t h1 h2 => ?_
  simp [outL, mulPart_zero]
theorem outL_next (K : Nat) (a b : List Int) (p : Nat) : outL K a b p a.length = outL K a b (p + 1) 0 := by
  refine List.ext_getElem (by simp [outL]) fun t h1 h2 => ?_
  simp only [outL, List.getElem_map, List.getElem_range, mulPart_zero]
  by_cases h : t < p
  · rw [if_pos h, if_pos (by omega)]
  · rw [if_neg h]
    by_cases e : t = p
    · rw [if_pos e, if_pos (by omega)]
    · rw [if_neg e, if_neg (by omega)]; split <;> rfl
theorem outL_getD (K : Nat) (a b : List Int) (p j : Nat) (hp : p < a.length + b.length - 1) : (outL K a b p j).getD p 0 = mulPart K a b p j := by
  have hl : p < (outL K a b p j).length := by rw [outL_length]; exact hp
  simp only [List.getD, List.getElem?_eq_getElem hl, Option.getD_some]
  simp [outL]
theorem outL_set (K : Nat) (a b : List Int) (p j : Nat) : (outL K a b p j).set p (mulPart K a b p (j + 1)) = outL K a b p (j + 1) := by
  refine List.ext_getElem (by simp [outL]) fun t h1 h2 => ?_
  rw [List.getElem_set]
  simp only [outL, List.getElem_map, List.getElem_range]
  by_cases e : p = t
  · subst e; simp
  · rw [if_neg e]
    by_cases h : t < p
    · rw [if_pos h, if_pos h]
    · rw [if_neg h, if_neg h, if_neg (by omega), if_neg (by omega)]
theorem outL_skip (K : Nat) (a b : List Int) (p j : Nat) (h : ¬ (j ≤ p ∧ p - j < b.length)) : outL K a b p (j + 1) = outL K a b p j := by
  have e : mulPart K a b p (j + 1) = mulPart K a b p j := by
    rw [mulPart_succ, mulTerm, if_neg h, Int.add_zero, mulPart, Int.emod_emod]
  simp only [outL]
  refine List.map_congr_left fun t _ => ?_
  by_cases c : t = p
  · subst c; rw [e]
  · simp only [if_neg c]
theorem outL_end {K : Nat} (hK : 1 ≤ K) (a b : List Int) (hb : 1 ≤ b.length) (p : Nat) (hp : a.length + b.length - 1 ≤ p) : outL K a b p 0 = mulL K a b := by
  refine List.ext_getElem (by simp [outL, mulL_length]) fun t h1 h2 => ?_
  have ht : t < a.length + b.length - 1 := by rw [outL_length] at h1; exact h1
  have := mulL_entry hK a b hb t ht
  simp only [outL, List.getElem_map, List.getElem_range]
  rw [if_pos (by omega), ← this]
  simp [List.getD, h2]
end Go.Proofs.YtmddapkhipmlgaaDoor
