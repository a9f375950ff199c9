/-
  Plain mathematics of AddSums: a product may be turned; the factors of a sum at one symbol alone; factors taken modulo k.
-/
import Derived.Test.YtmddapkhipmlgaaDoorPureConv
import Derived.Test.YtmddapkhipmlgaaDoorPureParts
namespace Go.Proofs.YtmddapkhipmlgaaDoor

theorem Sm_add (f g : Nat → Int) (n : Nat) : Sm (fun i => f i + g i) n = Sm f n + Sm g n := by
  induction n with
  | zero => rfl
  | succ n ih => rw [Sm, Sm, Sm, ih]; omega
theorem Sm_swap (f : Nat → Nat → Int) (n m : Nat) : Sm (fun i => Sm (f i) m) n = Sm (fun j => Sm (fun i => f i j) n) m := by
  induction n with
  | zero => rw [Sm, Sm_zero]; intro _ _; rfl
  | succ n ih => rw [Sm, ih, ← Sm_add]; exact Sm_congr _ fun i _ => rfl
theorem Sm_mulL (c : Int) (f : Nat → Int) (n : Nat) : Sm (fun i => c * f i) n = c * Sm f n := by
  induction n with
  | zero => simp [Sm]
  | succ n ih => rw [Sm, Sm, ih, Int.mul_add]
theorem Sm_delta (f : Nat → Int) (p n : Nat) : Sm (fun i => f i * (if i = p then 1 else 0)) n = if p < n then f p else 0 := by
  induction n with
  | zero => simp [Sm]
  | succ n ih =>
    rw [Sm, ih]
    by_cases e : n = p
    · subst e; simp
    · rw [if_neg e]
      by_cases c : p < n
      · rw [if_pos c, if_pos (by omega)]; omega
      · rw [if_neg c, if_neg (by omega)]; omega

theorem mulL_at (K : Nat) (hK : 1 ≤ K) (a b : List Int) (hb : 1 ≤ b.length) (p : Nat) (hp : p < a.length + b.length - 1) :
    (mulL K a b).getD p 0 = Sm (fun i => Sm (fun j => a.getD i 0 * b.getD j 0 * (if i + j = p then 1 else 0)) b.length) a.length % K := by
  have h := mulAll_sum K a b (fun t => if t = p then 1 else 0) hb a.length (Nat.le_refl _)
  rw [Sm_delta (fun t => (mulAll K a b a.length).getD t 0) p, if_pos hp] at h
  have hr := (mulAll_syms hK a b a.length).getD (by omega) p
  rw [Int.emod_eq_of_lt hr.1 hr.2] at h
  rw [mulL, h]
  congr 1
  refine Sm_congr _ fun i _ => ?_
  rw [← Sm_mulL]
  refine Sm_congr _ fun j _ => ?_
  rw [Int.mul_assoc]

/-- A product may be turned. -/
theorem mulL_comm (K : Nat) (hK : 1 ≤ K) (a b : List Int) (ha : 1 ≤ a.length) (hb : 1 ≤ b.length) : mulL K a b = mulL K b a := by
  have l1 := mulL_length K a b
  have l2 := mulL_length K b a
  refine List.ext_getElem (by omega) fun p h1 h2 => ?_
  have e1 := mulL_at K hK a b hb p (by omega)
  have e2 := mulL_at K hK b a ha p (by omega)
  rw [Sm_swap] at e2
  have : (mulL K a b).getD p 0 = (mulL K b a).getD p 0 := by
    rw [e1, e2]
    congr 1
    refine Sm_congr _ fun i _ => Sm_congr _ fun j _ => ?_
    rw [Int.mul_comm (a.getD i 0), Nat.add_comm]
  simpa [List.getD, h1, h2] using this

theorem facs_sumT1 {K R : Nat} {f : List Int} (hK : 1 ≤ K) (hl : f.length = 2 * R + 1) (hs : Syms K f) : facs K R (sumT K f) = f := by
  by_cases h : 1 < K
  · exact facs_sumT h hl hs
  · obtain rfl : K = 1 := by omega
    have e : f = List.replicate (2 * R + 1) 0 := List.eq_replicate_iff.2 ⟨hl, fun x hx => by have := hs x hx; omega⟩
    simp only [facs, facI, Nat.lt_irrefl, if_false]
    exact e.symm
theorem isSum_sumT1 {K R : Nat} {f : List Int} (hK : 1 ≤ K) (hl : f.length = 2 * R + 1) (hs : Syms K f) : isSum K R (sumT K f) = true := by
  rw [isSum, facs_sumT1 hK hl hs]; simp

/-- Factors taken modulo k. -/
def modL (K : Nat) (f : List Int) (n : Nat) : List Int := (f.take n).map (· % (K : Int))
theorem modL_length (K : Nat) (f : List Int) (n : Nat) (h : n ≤ f.length) : (modL K f n).length = n := by simp [modL]; omega
theorem modL_syms {K : Nat} (hK : 1 ≤ K) (f : List Int) (n : Nat) : Syms K (modL K f n) := by
  intro x hx
  obtain ⟨y, _, rfl⟩ := List.mem_map.1 hx
  exact ⟨Int.emod_nonneg _ (by omega), Int.emod_lt_of_pos _ (by omega)⟩
theorem modL_succ (K : Nat) (f : List Int) (j : Nat) (h : j < f.length) : modL K f (j + 1) = modL K f j ++ [f[j] % (K : Int)] := by
  rw [modL, modL, take_snoc f j h, List.map_append]; rfl
/-- Being filled. -/
def modF (K : Nat) (f : List Int) (n j : Nat) : List Int := modL K f j ++ List.replicate (n - j) 0
theorem modF_length (K : Nat) (f : List Int) (n j : Nat) (hn : n ≤ f.length) (h : j ≤ n) : (modF K f n j).length = n := by
  rw [modF, List.length_append, modL_length K f j (by omega), List.length_replicate]; omega
theorem modF_set (K : Nat) (f : List Int) (n j : Nat) (hn : n ≤ f.length) (h : j < n) : (modF K f n j).set j (f[j]'(by omega) % (K : Int)) = modF K f n (j + 1) := by
  have hl := modL_length K f j (by omega)
  rw [modF, List.set_append_right _ _ (by omega), hl, Nat.sub_self, show n - j = (n - (j + 1)) + 1 by omega, List.replicate_succ, List.set_cons_zero, modF, modL_succ K f j (by omega), List.append_assoc]
  rfl
theorem tmod_twice {x : Int} {K : Nat} (hK : 1 ≤ K) : (x.tmod K + K).tmod K = x % K ∧ -4 * (K : Int) ≤ x.tmod K ∧ x.tmod K < K := by
  have h1 : -(K : Int) < x.tmod K := by have := Int.lt_tmod_of_pos x (show (0 : Int) < K by omega); omega
  have h2 : x.tmod K < K := Int.tmod_lt_of_pos x (by omega)
  refine ⟨?_, by omega, h2⟩
  rw [Int.tmod_eq_emod_of_nonneg (by omega)]
  have h3 := Int.mul_tdiv_add_tmod x K
  have h4 : x.tmod K = x - K * x.tdiv K := by omega
  rw [h4, show x - (K : Int) * x.tdiv K + K = x + K * (1 - x.tdiv K) by rw [Int.mul_sub]; omega, Int.add_mul_emod_self_left]
end Go.Proofs.YtmddapkhipmlgaaDoor
