/-
  Walks: edenref18.Onto, One, Mul at all factors.
-/
import Derived.Test.YtmddapkhipmlgaaDoorRefMul
namespace Go.Proofs.YtmddapkhipmlgaaDoor
open Go.RowKit
set_option maxRecDepth 100000

theorem onto18_any (k : Int) (v : Value) (f : List Int) (w : World) (hf : IntsAt w v f) :
    Calls Tryd.prog 35 #[.int .i64 k, v] w (Ret2 (fun x y w' => x = .bool (toldP mayOnto k f) ∧ EOwn w.heap.size w' (factP k f) y) w) := by
  cases hc : factP k f with
  | some t =>
    have := factP_num hc
    rw [toldP, if_neg (by rw [hc]; simp)]
    exact onto18_bad k v f t w hf hc (by omega)
  | none =>
    obtain ⟨h1, _, _, _⟩ := factP_none hc
    obtain ⟨K, rfl⟩ := Int.eq_ofNat_of_zero_le (show 0 ≤ k by omega)
    rw [toldP, if_pos hc]
    refine (onto18_ok K v f w hf hc).mono ?_
    rintro e w' ⟨x, y, he, hb, hx, hy⟩
    exact ⟨x, y, he, hb, by rw [hx, ontoR_eq], hy⟩

theorem one18_any (k : Int) (v : Value) (f : List Int) (w : World) (hf : IntsAt w v f) :
    Calls Tryd.prog 37 #[.int .i64 k, v] w (Ret2 (fun x y w' => x = .bool (toldP mayOne k f) ∧ EOwn w.heap.size w' (factP k f) y) w) := by
  cases hc : factP k f with
  | some t =>
    have := factP_num hc
    rw [toldP, if_neg (by rw [hc]; simp)]
    exact one18_bad k v f t w hf hc (by omega)
  | none =>
    obtain ⟨h1, _, _, _⟩ := factP_none hc
    obtain ⟨K, rfl⟩ := Int.eq_ofNat_of_zero_le (show 0 ≤ k by omega)
    rw [toldP, if_pos hc]
    refine (one18_ok K v f w hf hc).mono ?_
    rintro e w' ⟨x, y, he, hb, hx, hy⟩
    exact ⟨x, y, he, hb, by rw [hx], hy⟩

theorem mul18_any (k : Int) (v u : Value) (f g : List Int) (w : World) (hf : IntsAt w v f) (hg : IntsAt w u g) :
    Calls Tryd.prog 38 #[.int .i64 k, v, u] w (Ret2 (fun x y w' => EOwn w.heap.size w' (mulP k f g) y ∧ (mulP k f g = none → OwnI w.heap.size w' x (mulL k.toNat f g)) ∧ (mulP k f g ≠ none → x = .slice none 0 0)) w) := by
  have fin : ∀ {t : PErr}, t = mulP k f g → mulP k f g ≠ none → ∀ e w', (Ret2 (fun x y w' => x = .slice none 0 0 ∧ EOwn w.heap.size w' t y) w) e w' → Ret2 (fun x y w' => EOwn w.heap.size w' (mulP k f g) y ∧ (mulP k f g = none → OwnI w.heap.size w' x (mulL k.toNat f g)) ∧ (mulP k f g ≠ none → x = .slice none 0 0)) w e w' := by
    rintro t rfl hn e w' ⟨x, y, he, hb, rfl, hy⟩
    exact ⟨_, _, he, hb, hy, fun h => absurd h hn, fun _ => rfl⟩
  cases hc : factP k f with
  | some t =>
    have e : some t = mulP k f g := by simp [mulP, hc]
    have := factP_num hc
    exact (mul18_bad1 k v u f t w hf hc (by omega)).mono (fin e (by rw [← e]; simp))
  | none =>
    obtain ⟨h1, h4, ho, hs⟩ := factP_none hc
    obtain ⟨K, rfl⟩ := Int.eq_ofNat_of_zero_le (show 0 ≤ k by omega)
    have hl1 : f.length % 2 = 1 ∧ f.length ≤ 7 := by simp [oddP] at ho; omega
    by_cases g1 : g.length % 2 = 0
    · have e : fresh sAdditive 2 3 = mulP K f g := by simp [mulP, hc, oddP, g1]
      exact (mul18_even K v u f g w hf hg hc g1).mono (fin e (by rw [← e]; simp [fresh]))
    by_cases g2 : 7 < g.length
    · have e : fresh sAdditive 2 3 = mulP K f g := by
        have : oddP g.length = false := by simp [oddP]; omega
        simp [mulP, hc, this]
      exact (mul18_long K v u f g w hf hg hc (by omega) g2).mono (fin e (by rw [← e]; simp [fresh]))
    have ho2 : oddP g.length = true := by simp [oddP]; omega
    rcases syms_or K g with hs2 | ⟨i, hi, hlt⟩
    · by_cases g3 : 7 < f.length + g.length - 1
      · have e : fresh sAdditive 2 3 = mulP K f g := by
          have : oddP (f.length + g.length - 1) = false := by simp [oddP]; omega
          simp [mulP, hc, ho2, hs2.num, this]
        exact (mul18_sum K v u f g w hf hg hc (by omega) (by omega) hs2 g3).mono (fin e (by rw [← e]; simp [fresh]))
      · have e : mulP K f g = none := by
          have : oddP (f.length + g.length - 1) = true := by simp [oddP]; omega
          simp [mulP, hc, ho2, hs2.num, this]
        refine (mul18_ok K v u f g w hf hg hc (by omega) (by omega) hs2 (by omega)).mono ?_
        rintro _ w' ⟨x, y, he, hb, rfl, hy⟩
        exact ⟨_, _, he, hb, by rw [e]; rfl, fun _ => by rw [Int.toNat_natCast]; exact hy, fun h => absurd e h⟩
    · have e : fresh sAdditive (f.length + i) 2 = mulP K f g := by
        have : numP K g f.length = fresh sAdditive (f.length + i) 2 := by rw [numP, if_neg (by omega), hi]
        simp only [mulP, hc, ho2, this, Bool.true_eq_false, if_false]
        rfl
      exact (mul18_odd K v u f g i w hf hg hc (by omega) (by omega) hi (by omega)).mono (fin e (by rw [← e]; simp [fresh]))
end Go.Proofs.YtmddapkhipmlgaaDoor
