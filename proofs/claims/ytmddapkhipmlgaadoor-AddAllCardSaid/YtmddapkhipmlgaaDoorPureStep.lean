/-
  Plain mathematics: the running number of rule.Step is the window's.
-/
import Derived.Test.YtmddapkhipmlgaaDoorPureConv
namespace Go.Proofs.YtmddapkhipmlgaaDoor

theorem numW_append (K : Nat) (u v : List Int) : numW K (u ++ v) = numW K u * pw K v.length + numW K v := by
  induction hn : v.length generalizing v with
  | zero =>
    obtain rfl := List.eq_nil_of_length_eq_zero hn
    simp [numW, pw]
  | succ n ih =>
    have hne : v ≠ [] := by intro e; subst e; simp at hn
    obtain ⟨b, x, rfl⟩ : ∃ b x, v = b ++ [x] := ⟨v.dropLast, v.getLast hne, (List.dropLast_concat_getLast hne).symm⟩
    have hb : b.length = n := by simpa using hn
    rw [← List.append_assoc, numW_snoc, numW_snoc, ih b hb, pw_succ, Nat.add_mul, Nat.mul_assoc]
    omega
theorem numW_mod {K : Nat} {u v : List Int} (h : Syms K v) : numW K (u ++ v) % pw K v.length = numW K v := by
  rw [numW_append, Nat.mul_comm, Nat.mul_add_mod, Nat.mod_eq_of_lt (numW_lt v h)]

/-- One symbol more. -/
theorem imgP_snoc {K R : Nat} {T w : List Int} {x : Int} (hT : T.length = pw K (2 * R + 1)) (hw : Syms K (w ++ [x])) :
    imgP K R T (w ++ [x]) = if 2 * R ≤ w.length then imgP K R T w ++ [T.getD (numW K (w ++ [x]) % T.length) 0] else imgP K R T w := by
  by_cases h : 2 * R ≤ w.length
  · rw [if_pos h]
    unfold imgP
    rw [show (w ++ [x]).length - 2 * R = (w.length - 2 * R) + 1 by simp; omega, List.range_succ, List.map_append]
    congr 1
    · refine List.map_congr_left fun i hi => ?_
      have hi' := List.mem_range.1 hi
      congr 2
      rw [List.drop_append_of_le_length (by omega), List.take_append_of_le_length (by simp; omega)]
    · simp only [List.map_cons, List.map_nil]
      congr 2
      have e : ((w ++ [x]).drop (w.length - 2 * R)).take (2 * R + 1) = (w ++ [x]).drop (w.length - 2 * R) := List.take_of_length_le (by simp; omega)
      rw [e, hT]
      have hl : ((w ++ [x]).drop (w.length - 2 * R)).length = 2 * R + 1 := by simp; omega
      have := numW_mod (K := K) (u := (w ++ [x]).take (w.length - 2 * R)) (v := (w ++ [x]).drop (w.length - 2 * R)) (fun y hy => hw y (List.mem_of_mem_drop hy))
      rw [List.take_append_drop, hl] at this
      exact this.symm
  · rw [if_neg h]
    unfold imgP
    rw [show (w ++ [x]).length - 2 * R = 0 by simp; omega, show w.length - 2 * R = 0 by omega]
    rfl
theorem numW_step (K : Nat) (w : List Int) (x : Int) (L : Nat) : numW K (w ++ [x]) % L = (numW K w % L * K + x.toNat) % L := by
  rw [numW_snoc, Nat.add_mod, Nat.mul_mod, ← Nat.mod_mod (numW K w) L, ← Nat.mul_mod, ← Nat.add_mod, Nat.mod_mod]

/-- A window's digits, from the last on. -/
theorem digs_getD (K n x j : Nat) (hj : j < n) : (digs K n x).getD (n - 1 - j) 0 = ((x / pw K j % K : Nat) : Int) := by
  induction n generalizing x j with
  | zero => omega
  | succ n ih =>
    rw [digs]
    cases j with
    | zero =>
      rw [pw_zero, Nat.div_one, show n + 1 - 1 - 0 = (digs K n (x / K)).length by rw [digs_length]; omega]
      simp [List.getD]
    | succ j =>
      have h := ih (x / K) j (by omega)
      have hl : n + 1 - 1 - (j + 1) < (digs K n (x / K)).length := by rw [digs_length]; omega
      simp only [List.getD, List.getElem?_append_left hl] at h ⊢
      rw [show n + 1 - 1 - (j + 1) = n - 1 - j by omega, h, pw_succ, Nat.div_div_eq_div_mul, Nat.mul_comm]

/-- The window's list while it is filled from its end. -/
theorem digs_fill (K n x j : Nat) (hj : j < n) (p : List Int) (hp : p.length = n) :
    (p.take (n - j) ++ (digs K n x).drop (n - j)).set (n - 1 - j) ((x / pw K j % K : Nat) : Int) = p.take (n - (j + 1)) ++ (digs K n x).drop (n - (j + 1)) := by
  have hd := digs_getD K n x j hj
  have hdl := digs_length K n x
  rw [show n - (j + 1) = n - 1 - j by omega, show n - j = n - 1 - j + 1 by omega]
  have hm : n - 1 - j < n := by omega
  generalize n - 1 - j = m at hd hm
  rw [← hd, take_snoc p m (by omega), List.drop_eq_getElem_cons (show m < (digs K n x).length by omega), List.append_assoc, List.set_append_right _ _ (by simp; omega)]
  have e : m - (p.take m).length = 0 := by simp; omega
  rw [e]
  simp [List.getD, show m < (digs K n x).length by omega]
end Go.Proofs.YtmddapkhipmlgaaDoor
