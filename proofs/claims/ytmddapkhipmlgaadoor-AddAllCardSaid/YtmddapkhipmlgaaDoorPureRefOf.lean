/-
  Plain mathematics: the reference's factors of a rule, the first found first.
-/
import Derived.Test.YtmddapkhipmlgaaDoorPureAdd
namespace Go.Proofs.YtmddapkhipmlgaaDoor

/-- The factors that may be, the first i of them found. -/
def facU (K n : Nat) (xs : List Int) (i : Nat) : List Int := (List.range n).map fun j => if j < i then xs.getD (pw K (n - 1 - j)) 0 else 0
theorem facU_length (K n : Nat) (xs : List Int) (i : Nat) : (facU K n xs i).length = n := by simp [facU]
theorem facU_zero (K n : Nat) (xs : List Int) : facU K n xs 0 = List.replicate n 0 := by
  refine List.ext_getElem (by simp [facU]) fun j h1 h2 => ?_
  simp [facU]
theorem facU_succ (K n : Nat) (xs : List Int) (i : Nat) : (facU K n xs i).set i (xs.getD (pw K (n - 1 - i)) 0) = facU K n xs (i + 1) := by
  refine List.ext_getElem (by simp [facU]) fun j h1 h2 => ?_
  rw [List.getElem_set]
  simp only [facU, List.getElem_map, List.getElem_range]
  by_cases e : i = j
  · subst e; simp
  · rw [if_neg e]
    by_cases c : j < i
    · rw [if_pos c, if_pos (by omega)]
    · rw [if_neg c, if_neg (by omega)]
theorem facU_all {K R : Nat} (hK : 1 < K) (xs : List Int) : facU K (2 * R + 1) xs (2 * R + 1) = facs K R xs := by
  unfold facs facI facL facU
  rw [if_pos hK]
  refine List.map_congr_left fun j hj => ?_
  have := List.mem_range.1 hj
  rw [if_pos this, if_pos (by omega)]
theorem facs_one {K R : Nat} (hK : ¬ 1 < K) (xs : List Int) : facs K R xs = List.replicate (2 * R + 1) 0 := by
  unfold facs facI
  rw [if_neg hK]
end Go.Proofs.YtmddapkhipmlgaaDoor
