/-
  The contracts that AddAll asks, of the program and of the reference, in one form: lists read, a bool, an error.
-/
import Derived.Test.YtmddapkhipmlgaaDoorRefOf
import Derived.Test.YtmddapkhipmlgaaDoorRefAny
import Derived.Test.YtmddapkhipmlgaaDoorLentRule
import Derived.Test.YtmddapkhipmlgaaDoorAddKeeps
namespace Go.Proofs.YtmddapkhipmlgaaDoor
open Go.RowKit
set_option maxRecDepth 100000

theorem fresh_fine {op : ByteArray} {at_ n : Int} (h1 : 1 ≤ n) (h2 : n ≤ 11) : (fresh op at_ n).Fine := ⟨h1, h2, by simp⟩
theorem numP_fine (k : Int) (f : List Int) (a : Int) : (numP k f a).Fine := by
  unfold numP; split
  · trivial
  · exact fresh_fine (by decide) (by decide)
theorem factP_fine (k : Int) (f : List Int) : (factP k f).Fine := by
  unfold factP; split
  · exact fresh_fine (by decide) (by decide)
  · split
    · exact fresh_fine (by decide) (by decide)
    · exact numP_fine ..
theorem makeP_fine (k R : Int) (f : List Int) : (makeP k R f).Fine := by
  unfold makeP; split
  · exact fresh_fine (by decide) (by decide)
  · split
    · exact fresh_fine (by decide) (by decide)
    · exact numP_fine ..
theorem mulP_fine (k : Int) (f g : List Int) : (mulP k f g).Fine := by
  unfold mulP
  have h1 := factP_fine k f
  have h2 := numP_fine k g f.length
  split
  · rename_i t ht; rw [ht] at h1; exact h1
  · split
    · exact fresh_fine (by decide) (by decide)
    · split
      · rename_i t ht; rw [ht] at h2; exact h2
      · split
        · exact fresh_fine (by decide) (by decide)
        · trivial

/-- The factors that are told; whether; the fault. -/
def ofL (k R : Int) (T : List Int) : List Int := if checkP k R T = none ∧ isSum k.toNat R.toNat T = true then facs k.toNat R.toNat T else []
def ofB (k R : Int) (T : List Int) : Bool := decide (checkP k R T = none) && isSum k.toNat R.toNat T
def ofP (k R : Int) (T : List Int) : PErr := under sAdditive 0 (checkP k R T)
theorem ofP_fine (k R : Int) (T : List Int) : (ofP k R T).Fine := by
  unfold ofP
  cases hc : checkP k R T with
  | none => trivial
  | some t =>
    obtain ⟨n, l⟩ := t
    have := checkP_num hc
    simp only at this
    exact ⟨by omega, by omega, by simp; omega⟩

theorem nilAt (w : World) : IntsAt w (.slice none 0 0) [] := (OwnI.nil 0 w).at

theorem of_any (r : Nat → Addr) (k R : Int) (va : Option Addr) (vn vc : Nat) (T : List Int) (w : World) (hg : Glob r w) (h : IntsAt w (.slice va vn vc) T) :
    Calls Tryd.prog 12 #[.agg #[.int .i64 k, .int .i64 R, .slice va vn vc]] w (Ret3 (fun x y z w' => IntsAt w' x (ofL k R T) ∧ y = .bool (ofB k R T) ∧ ErrIs r w' (ofP k R T) z) w) := by
  cases hc : checkP k R T with
  | some t =>
    refine (of_bad r k R _ T t w hg h hc).mono ?_
    rintro e w' ⟨x, y, z, he, hb, rfl, rfl, hz⟩
    exact ⟨_, _, _, he, hb, by rw [ofL, if_neg (by rw [hc]; simp)]; exact nilAt _, by rw [ofB, hc]; simp, by rw [ofP, hc]; exact hz⟩
  | none =>
    obtain ⟨K, Q, rfl, rfl, hr⟩ := checkP_none hc
    refine (of_ok K Q _ T w h hr).mono ?_
    rintro e w' ⟨x, y, z, he, hb, rfl, rfl, h1, h2⟩
    refine ⟨_, _, _, he, hb, ?_, by rw [ofB, hc]; simp, by rw [ofP, hc]; rfl⟩
    cases hs : isSum K Q T with
    | true => rw [ofL, if_pos ⟨hc, by simpa using hs⟩]; simpa using (h1 hs).at
    | false => rw [h2 hs, ofL, if_neg (by simp [hs])]; exact nilAt _

theorem of18_any (k R : Int) (va : Option Addr) (vn vc : Nat) (T : List Int) (w : World) (h : IntsAt w (.slice va vn vc) T) :
    Calls Tryd.prog 32 #[.agg #[.int .i64 k, .int .i64 R, .slice va vn vc]] w (Ret3 (fun x y z w' => IntsAt w' x (ofL k R T) ∧ y = .bool (ofB k R T) ∧ EAt w' (ofP k R T) z) w) := by
  cases hc : checkP k R T with
  | some t =>
    refine (of18_bad k R va vn vc T t w h hc).mono ?_
    rintro e w' ⟨x, y, z, he, hb, rfl, rfl, hz⟩
    exact ⟨_, _, _, he, hb, by rw [ofL, if_neg (by rw [hc]; simp)]; exact nilAt _, by rw [ofB, hc]; simp, by rw [ofP, hc]; exact hz.at⟩
  | none =>
    obtain ⟨K, Q, rfl, rfl, hr⟩ := checkP_none hc
    refine (of18_ok K Q va vn vc T w h hr).mono ?_
    rintro e w' ⟨x, y, z, he, hb, rfl, rfl, h1, h2⟩
    refine ⟨_, _, _, he, hb, ?_, by rw [ofB, hc]; simp, by rw [ofP, hc]; rfl⟩
    cases hs : isSum K Q T with
    | true => rw [ofL, if_pos ⟨hc, by simpa using hs⟩]; simpa using (h1 hs).at
    | false => rw [h2 hs, ofL, if_neg (by simp [hs])]; exact nilAt _

/-- What Make answers, as plain data. -/
def mkK (k R : Int) (f : List Int) : Int := if makeP k R f = none then k else 0
def mkR (k R : Int) (f : List Int) : Int := if makeP k R f = none then R else 0
def mkL (k R : Int) (f : List Int) : List Int := if makeP k R f = none then sumT k.toNat f else []
theorem make_rd (r : Nat → Addr) (k R : Int) (v : Value) (f : List Int) (w : World) (hg : Glob r w) (h : IntsAt w v f) :
    Calls Tryd.prog 14 #[.int .i64 k, .int .i64 R, v] w (Ret2 (fun x y w' => ∃ a n c, x = .agg #[.int .i64 (mkK k R f), .int .i64 (mkR k R f), .slice a n c] ∧ IntsAt w' (.slice a n c) (mkL k R f) ∧ ErrIs r w' (makeP k R f) y) w) := by
  refine (make_any r k R v f w hg h).mono ?_
  rintro e w' ⟨x, y, he, hb, k', R', a, n, c, rfl, hy, h1, h2⟩
  by_cases hm : makeP k R f = none
  · obtain ⟨rfl, rfl, ho⟩ := h1 hm
    exact ⟨_, _, he, hb, a, n, c, by simp [mkK, mkR, hm], by rw [mkL, if_pos hm]; exact ho.at, hy⟩
  · obtain ⟨rfl, rfl, hs⟩ := h2 hm
    exact ⟨_, _, he, hb, a, n, c, by simp [mkK, mkR, hm], by rw [mkL, if_neg hm, hs]; exact nilAt _, hy⟩
theorem m18_rd (k R : Int) (v : Value) (f : List Int) (w : World) (h : IntsAt w v f) :
    Calls Tryd.prog 31 #[.int .i64 k, .int .i64 R, v] w (Ret2 (fun x y w' => ∃ a n c, x = .agg #[.int .i64 (mkK k R f), .int .i64 (mkR k R f), .slice a n c] ∧ IntsAt w' (.slice a n c) (mkL k R f) ∧ EAt w' (makeP k R f) y) w) := by
  refine (m18_any k R v f w h).mono ?_
  rintro e w' ⟨x, y, he, hb, k', R', a, n, c, rfl, hy, h1, h2⟩
  by_cases hm : makeP k R f = none
  · obtain ⟨rfl, rfl, ho⟩ := h1 hm
    exact ⟨_, _, he, hb, a, n, c, by simp [mkK, mkR, hm], by rw [mkL, if_pos hm]; exact ho.at, hy.at⟩
  · obtain ⟨rfl, rfl, hs⟩ := h2 hm
    exact ⟨_, _, he, hb, a, n, c, by simp [mkK, mkR, hm], by rw [mkL, if_neg hm, hs]; exact nilAt _, hy.at⟩
def mlL (k : Int) (f g : List Int) : List Int := if mulP k f g = none then mulL k.toNat f g else []
theorem mul_rd (r : Nat → Addr) (k : Int) (v u : Value) (f g : List Int) (w : World) (hg : Glob r w) (h : IntsAt w v f) (h' : IntsAt w u g) (hl : f.length ≤ 17592186044416) (hl' : g.length ≤ 17592186044416) :
    Calls Tryd.prog 15 #[.int .i64 k, v, u] w (Ret2 (fun x y w' => IntsAt w' x (mlL k f g) ∧ ErrIs r w' (mulP k f g) y) w) := by
  refine (mul_any r k v u f g w hg h h' hl hl').mono ?_
  rintro e w' ⟨x, y, he, hb, hy, h1, h2⟩
  by_cases hm : mulP k f g = none
  · exact ⟨_, _, he, hb, by rw [mlL, if_pos hm]; exact (h1 hm).at, hy⟩
  · rw [h2 hm] at he
    exact ⟨_, _, he, hb, by rw [mlL, if_neg hm]; exact nilAt _, hy⟩
theorem mul18_rd (k : Int) (v u : Value) (f g : List Int) (w : World) (h : IntsAt w v f) (h' : IntsAt w u g) :
    Calls Tryd.prog 38 #[.int .i64 k, v, u] w (Ret2 (fun x y w' => IntsAt w' x (mlL k f g) ∧ EAt w' (mulP k f g) y) w) := by
  refine (mul18_any k v u f g w h h').mono ?_
  rintro e w' ⟨x, y, he, hb, hy, h1, h2⟩
  by_cases hm : mulP k f g = none
  · exact ⟨_, _, he, hb, by rw [mlL, if_pos hm]; exact (h1 hm).at, hy.at⟩
  · rw [h2 hm] at he
    exact ⟨_, _, he, hb, by rw [mlL, if_neg hm]; exact nilAt _, hy.at⟩
end Go.Proofs.YtmddapkhipmlgaaDoor
