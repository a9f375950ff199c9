/-
  Walk: permut.Left.
  Plain mathematics: one sum behind another is the sum of the product.
  Plain mathematics: the running number of rule.Step is the window's.
  Plain mathematics: the document's sides, mirrored rule and preimages with given ends are the program's.
  Plain mathematics: the sides of mirrored, renamed and composed rules.
  Plain mathematics: the preimages of a word, begin by begin; the next word; one preimage to each begin where the last place permutes.
  Walks: word.Check, word.Next.
  edenraw.Err in memory; walks: edenraw.Root, New, Under, (Err).Bad.
  Walk: edenraw.Under at an error.
  Walks: rule.Small, package overlap's first functions.
  Walks: edenref03.Bad, edenref04.Power, Digits, Check.
  Walks: package additive.
  Walks: edenref18.Fault.
  Walks: errors.Is and errors.As at a chain of Faults; the model's entries for internal/reflectlite at this program's types (after the kit's worked example Toyas).
  The model's entries for internal/reflectlite at a *api.Fault and at the address of a variable of that type (after the kit's worked example Toyas).
  Walk: errors.As at a Fault (after the kit's worked example Toyas).
  Walk: edenraw.Is at an error that is what it must be.
  Plain law of AddParts: a table is a sum just if each window is the sum of two.
  Plain mathematics of AddSums: a product may be turned; the factors of a sum at one symbol alone; factors taken modulo k.
  Plain mathematics: the reference's sums, window by window; what it tells by the factors; its products.
  Walk: edenref18.Sum.
-/
import Derived.Test.YtdldadgnggaopaaDoorMPt2
import Derived.Deep.RegionLawGrows
import Derived.Deep.RegionHeld3
import Derived.LaidEql
import Derived.Stop.Asserts
import Derived.RowKitTokens
import Derived.Deep.LoopGhost
namespace Go.Proofs.YtdldadgnggaopaaDoor
open Go.RowKit
set_option maxRecDepth 100000

theorem leftS_lt {K : Nat} {T : List Int} (hK : 1 ≤ K) (node : Nat) (hn : node < T.length / K) (w : List Int) : (leftS K T node w).1 < T.length / K := by
  induction w with
  | nil => exact hn
  | cons y w ih =>
    have hf := fit_lt hK T (leftS K T node w).1 (T.length / K) y
    show (fit K T (leftS K T node w).1 (T.length / K) y * (T.length / K) + (leftS K T node w).1) / K < T.length / K
    rw [Nat.div_lt_iff_lt_mul hK]
    have h1 : (fit K T (leftS K T node w).1 (T.length / K) y + 1) * (T.length / K) ≤ K * (T.length / K) := Nat.mul_le_mul_right _ hf
    rw [Nat.succ_mul] at h1
    rw [Nat.mul_comm (T.length / K) K]
    omega

theorem run_makeI (C : Int) (n : Nat) (w : World) (hC : C = n) (hn : n ≤ 17592186044416) :
    ∃ v w', (Instr.makeSlice 22 (.int .i64 C) (.int .i64 C)).run Tryd.prog w = .ok v w' ∧ OwnI w.heap.size w' v (List.replicate n 0) ∧ Below w.heap.size w w' := by
  subst hC
  obtain ⟨i, hi, hz0, hz1, hz2⟩ := info_parts iInt
  obtain ⟨w', hrun, r1, r2⟩ := run_make_full (P := Tryd.prog) w w.heap.size 22 3 i (.int .i64 0) 1 uInts hi hz0 hz1 .i64 .i64 n (by rw [hz2]; omega) (by unfold maxLen; omega) (Nat.le_refl _)
  refine ⟨_, w', hrun, ?_, (Below.refl _ _).grown r2 (Nat.le_refl _) (by intro k hk; cases hk)⟩
  have e : (madeCells (Value.cells (.int .i64 0)) (n * 1)).toList = (List.replicate n (0 : Int)).map (Value.int .i64) := by
    rw [show Value.cells (.int .i64 0) = #[.int .i64 0] from rfl, toList_madeCells_one]; simp
  rw [e] at r1
  simpa [OwnI] using r1

/-- What is left of an owned slice from a place on. -/
theorem OwnI.post {B : Nat} {w : World} {v : Value} {xs : List Int} (h : OwnI B w v xs) (off : Nat) (ho : off ≤ xs.length) :
    ∃ dp dLen dCap, (∀ w', (Instr.slice 22 v (some (.int .i64 off)) none none).run Tryd.prog w' = .ok (.slice dp dLen dCap) w') ∧ dLen = xs.length - off ∧ (0 < xs.length - off → dp = some (valAt v off)) := by
  rcases h.2 with ⟨rfl, hn⟩ | ⟨g, cap, cur, rfl, hB, hg, hn, hm, hs, ht⟩
  · have hr : ∀ w', (Instr.slice 22 (.slice none 0 0) (some (.int .i64 off)) none none).run Tryd.prog w' = .ok (sliced none off 0 0 1) w' := by
      intro w'
      rw [run_slice_l w' 22 none 0 0 uIntsE .i64 off (by omega) (by omega), eInts, sInt]
      rfl
    exact ⟨_, _, _, hr, by omega, by intro hh; omega⟩
  · have hr : ∀ w', (Instr.slice 22 (.slice (some ⟨g, 0, none⟩) xs.length cap) (some (.int .i64 off)) none none).run Tryd.prog w' = .ok (sliced (some ⟨g, 0, none⟩) off xs.length cap 1) w' := by
      intro w'
      rw [run_slice_l w' 22 (some ⟨g, 0, none⟩) xs.length cap uIntsE .i64 off (by omega) (by omega), eInts, sInt]
      rfl
    refine ⟨_, _, _, hr, rfl, fun hh => ?_⟩
    rw [if_neg (by omega), valAt_row]
    simp [Addr.add]
    intro e; exact e.symm

end Go.Proofs.YtdldadgnggaopaaDoor

namespace Go.Proofs.YtdldadgnggaopaaDoor

/-- f 0 + .. + f (n - 1). -/
def Sm (f : Nat → Int) : Nat → Int
  | 0 => 0
  | n + 1 => Sm f n + f n
theorem Sm_congr {f g : Nat → Int} (n : Nat) (h : ∀ i, i < n → f i = g i) : Sm f n = Sm g n := by
  induction n with
  | zero => rfl
  | succ n ih => rw [Sm, Sm, ih fun i hi => h i (by omega), h n (by omega)]
theorem Sm_zero {f : Nat → Int} (n : Nat) (h : ∀ i, i < n → f i = 0) : Sm f n = 0 := by
  induction n with
  | zero => rfl
  | succ n ih => rw [Sm, ih fun i hi => h i (by omega), h n (by omega)]; rfl
theorem Sm_mod {f g : Nat → Int} {K : Int} (n : Nat) (h : ∀ i, i < n → f i % K = g i % K) : Sm f n % K = Sm g n % K := by
  induction n with
  | zero => rfl
  | succ n ih => rw [Sm, Sm, Int.add_emod, ih fun i hi => h i (by omega), h n (by omega), ← Int.add_emod]

/-- A cell set changes the sum by what it is more. -/
theorem Sm_set (O : List Int) (p : Nat) (v : Int) (hp : p < O.length) (u : Nat → Int) (n : Nat) :
    Sm (fun i => (O.set p v).getD i 0 * u i) n = Sm (fun i => O.getD i 0 * u i) n + if p < n then (v - O.getD p 0) * u p else 0 := by
  induction n with
  | zero => simp [Sm]
  | succ n ih =>
    rw [Sm, Sm, ih]
    by_cases e : n = p
    · subst e
      rw [if_neg (by omega), if_pos (by omega)]
      have : (O.set n v).getD n 0 = v := by simp [List.getD, hp]
      rw [this, Int.sub_mul]
      omega
    · have : (O.set p v).getD n 0 = O.getD n 0 := by simp [List.getD, show ¬ p = n by omega]
      rw [this]
      by_cases c : p < n
      · rw [if_pos c, if_pos (by omega)]; omega
      · rw [if_neg c, if_neg (by omega)]; omega

theorem mulRow_sum (K i : Nat) (x : Int) (b : List Int) (u : Nat → Int) (q : Nat) (O : List Int) (hq : i + q ≤ O.length) :
    Sm (fun t => (mulRow K i x b q O).getD t 0 * u t) O.length % K = (Sm (fun t => O.getD t 0 * u t) O.length + x * Sm (fun j => b.getD j 0 * u (i + j)) q) % K := by
  induction q with
  | zero => simp [mulRow, Sm]
  | succ q ih =>
    have ih' := ih (by omega)
    rw [mulRow, addAt, Sm_set _ _ _ (by rw [mulRow_length]; omega), if_pos (by omega), Int.add_emod, ih', ← Int.add_emod, Sm]
    generalize (mulRow K i x b q O).getD (i + q) 0 = z
    generalize Sm (fun j => b.getD j 0 * u (i + j)) q = A
    generalize Sm (fun t => O.getD t 0 * u t) O.length = B
    have e : (((z + x * b.getD q 0) % (K : Int) - z) * u (i + q)) % K = (x * b.getD q 0 * u (i + q)) % K := by
      rw [Int.mul_emod, Int.sub_emod, Int.emod_emod, ← Int.sub_emod, ← Int.mul_emod]
      congr 2
      omega
    rw [Int.add_emod, e, ← Int.add_emod]
    congr 1
    rw [Int.mul_add, Int.mul_assoc]
    omega

theorem mulAll_length' (K : Nat) (a b : List Int) (i : Nat) : (mulAll K a b i).length = a.length + b.length - 1 := mulAll_length ..

theorem mulAll_sum (K : Nat) (a b : List Int) (u : Nat → Int) (hb : 1 ≤ b.length) (i : Nat) (hi : i ≤ a.length) :
    Sm (fun t => (mulAll K a b i).getD t 0 * u t) (a.length + b.length - 1) % K = Sm (fun i => a.getD i 0 * Sm (fun j => b.getD j 0 * u (i + j)) b.length) i % K := by
  induction i with
  | zero =>
    rw [mulAll, Sm_zero]
    · rfl
    · intro t _
      by_cases c : t < a.length + b.length - 1
      · simp [List.getD, c]
      · simp [List.getD, c]
  | succ i ih =>
    have h := mulRow_sum K i (a.getD i 0) b u b.length (mulAll K a b i) (by rw [mulAll_length]; omega)
    rw [mulAll_length] at h
    rw [mulAll, h, Int.add_emod, ih (by omega), ← Int.add_emod, Sm]

/-- The product's sum. -/
theorem mulL_sum (K : Nat) (a b : List Int) (u : Nat → Int) (hb : 1 ≤ b.length) :
    Sm (fun t => (mulL K a b).getD t 0 * u t) (a.length + b.length - 1) % K = Sm (fun i => a.getD i 0 * (Sm (fun j => b.getD j 0 * u (i + j)) b.length % K)) a.length % K := by
  rw [mulL, mulAll_sum K a b u hb a.length (Nat.le_refl _)]
  refine Sm_mod _ fun i _ => ?_
  rw [Int.mul_emod, ← Int.mul_emod, Int.mul_emod (a.getD i 0) (_ % _), Int.emod_emod, ← Int.mul_emod]

theorem sumStep_at (K : Nat) (x : Int) (T : List Int) (n s : Nat) (hn : n < T.length) (hs : s < K) : (sumStep K x T).getD (n * K + s) 0 = (T.getD n 0 + x * s) % K := by
  induction T generalizing n with
  | nil => simp at hn
  | cons y T ih =>
    have e : sumStep K x (y :: T) = sumRow K x y K ++ sumStep K x T := by simp [sumStep]
    rw [e]
    cases n with
    | zero =>
      have h : s < (sumRow K x y K).length := by rw [sumRow_length]; exact hs
      rw [Nat.zero_mul, Nat.zero_add]
      simp only [List.getD, List.getElem?_append_left h]
      simp [sumRow, hs]
    | succ n =>
      have h : (sumRow K x y K).length ≤ (n + 1) * K + s := by rw [sumRow_length, Nat.succ_mul]; omega
      have e2 : (n + 1) * K + s - (sumRow K x y K).length = n * K + s := by rw [sumRow_length, Nat.succ_mul]; omega
      have := ih n (by simpa using hn)
      simp only [List.getD, List.getElem?_append_right h, e2, List.getElem?_cons_succ] at this ⊢
      exact this

theorem numW_bound {K : Nat} {w : List Int} (h : Syms K w) {f : List Int} (hl : f.length = w.length) : numW K w < (sumT K f).length := by
  rw [sumT_length, hl]; exact numW_lt w h

/-- A sum's symbol at a window. -/
theorem sumT_at (K : Nat) (f w : List Int) (hl : f.length = w.length) (hw : Syms K w) :
    (sumT K f).getD (numW K w) 0 = Sm (fun i => f.getD i 0 * w.getD i 0) f.length % K := by
  induction hn : f.length generalizing f w with
  | zero =>
    obtain rfl := List.eq_nil_of_length_eq_zero hn
    obtain rfl := List.eq_nil_of_length_eq_zero (hl.symm.trans hn)
    simp [sumT, sumTable, numW, Sm]
  | succ n ih =>
    have hf : f ≠ [] := by intro e; subst e; simp at hn
    have hwe : w ≠ [] := by intro e; subst e; simp at hl; exact hf hl
    obtain ⟨g, x, rfl⟩ : ∃ g x, f = g ++ [x] := ⟨f.dropLast, f.getLast hf, (List.dropLast_concat_getLast hf).symm⟩
    obtain ⟨v, y, rfl⟩ : ∃ v y, w = v ++ [y] := ⟨w.dropLast, w.getLast hwe, (List.dropLast_concat_getLast hwe).symm⟩
    have hgn : g.length = n := by simpa using hn
    have hgv : g.length = v.length := by simpa using hl
    have hv : Syms K v := fun z hz => hw z (by simp [hz])
    have hy := hw y (by simp)
    rw [numW_snoc, sumT, sumTable_snoc]
    have := sumStep_at K x (sumTable K [0] g) (numW K v) y.toNat (numW_bound hv hgv) (by omega)
    rw [this, show (sumTable K [0] g).getD (numW K v) 0 = (sumT K g).getD (numW K v) 0 from rfl, ih g v hgv hv hgn, Int.emod_add_emod, Sm]
    congr 2
    · refine Sm_congr _ fun i hi => ?_
      rw [← hgn] at hi
      simp only [List.getD, List.getElem?_append_left hi, List.getElem?_append_left (show i < v.length by omega)]
    · have e1 : (g ++ [x]).getD n 0 = x := by rw [← hgn]; simp [List.getD]
      have e2 : (v ++ [y]).getD n 0 = y := by rw [← hgn, hgv]; simp [List.getD]
      rw [e1, e2]
      rw [show ((y.toNat : Nat) : Int) = y by omega]

/-- The window of a number. -/
def digs (K : Nat) : Nat → Nat → List Int
  | 0, _ => []
  | n + 1, x => digs K n (x / K) ++ [((x % K : Nat) : Int)]
theorem digs_length (K n x : Nat) : (digs K n x).length = n := by
  induction n generalizing x with
  | zero => rfl
  | succ n ih => simp [digs, ih]
theorem digs_syms {K : Nat} (hK : 1 ≤ K) (n x : Nat) : Syms K (digs K n x) := by
  induction n generalizing x with
  | zero => intro y hy; simp [digs] at hy
  | succ n ih =>
    intro y hy
    rw [digs, List.mem_append, List.mem_singleton] at hy
    rcases hy with hy | rfl
    · exact ih _ y hy
    · have := Nat.mod_lt x (show 0 < K by omega); omega
theorem numW_digs {K : Nat} (hK : 1 ≤ K) (n x : Nat) (hx : x < pw K n) : numW K (digs K n x) = x := by
  induction n generalizing x with
  | zero => simp [pw] at hx; subst hx; rfl
  | succ n ih =>
    rw [digs, numW_snoc, ih _ (by rw [Nat.div_lt_iff_lt_mul (by omega), ← pw_succ]; exact hx), Int.toNat_natCast]
    exact Nat.div_add_mod' x K

/-- The image of a word, window by window. -/
def imgP (K R : Nat) (T : List Int) (w : List Int) : List Int := (List.range (w.length - 2 * R)).map fun i => T.getD (numW K ((w.drop i).take (2 * R + 1))) 0
/-- The table of one rule behind another. -/
def behindT (K R1 : Nat) (T1 : List Int) (R2 : Nat) (T2 : List Int) : List Int :=
  (List.range (pw K (2 * (R1 + R2) + 1))).map fun x => T1.getD (numW K (imgP K R2 T2 (digs K (2 * (R1 + R2) + 1) x))) 0

theorem imgP_length (K R : Nat) (T w : List Int) : (imgP K R T w).length = w.length - 2 * R := by simp [imgP]
theorem imgP_getD (K R : Nat) (T w : List Int) (i : Nat) (hi : i < w.length - 2 * R) : (imgP K R T w).getD i 0 = T.getD (numW K ((w.drop i).take (2 * R + 1))) 0 := by
  simp [imgP, List.getD, hi]
theorem imgP_syms {K : Nat} (hK : 1 ≤ K) {R : Nat} {T w : List Int} (hT : Syms K T) : Syms K (imgP K R T w) := by
  intro y hy
  obtain ⟨i, _, rfl⟩ := List.mem_map.1 hy
  exact hT.getD (by omega) _

theorem window_sum {K R1 R2 : Nat} (hK : 1 ≤ K) {a b w : List Int} (ha : a.length = 2 * R1 + 1) (hb : b.length = 2 * R2 + 1) (hw : Syms K w) (hl : w.length = 2 * (R1 + R2) + 1) :
    (sumT K a).getD (numW K (imgP K R2 (sumT K b) w)) 0 = (sumT K (mulL K a b)).getD (numW K w) 0 := by
  have hml : (mulL K a b).length = a.length + b.length - 1 := mulL_length ..
  rw [sumT_at K a _ (by rw [imgP_length]; omega) (imgP_syms hK (sumT_syms hK b)), sumT_at K (mulL K a b) w (by omega) hw, hml, mulL_sum K a b (fun i => w.getD i 0) (by omega)]
  refine Sm_mod _ fun i hi => ?_
  rw [imgP_getD _ _ _ _ _ (by omega)]
  congr 2
  have hwl : ((w.drop i).take (2 * R2 + 1)).length = 2 * R2 + 1 := by simp; omega
  rw [sumT_at K b _ (by omega) (fun x hx => hw x (List.mem_of_mem_drop (List.mem_of_mem_take hx)))]
  congr 1
  refine Sm_congr _ fun j hj => ?_
  congr 1
  simp [List.getD, List.getElem?_drop, show j < 2 * R2 + 1 by omega]

/-- One sum behind another is the sum of the product. -/
theorem behind_sum {K R1 R2 : Nat} (hK : 1 ≤ K) {a b : List Int} (ha : a.length = 2 * R1 + 1) (hb : b.length = 2 * R2 + 1) :
    behindT K R1 (sumT K a) R2 (sumT K b) = sumT K (mulL K a b) := by
  have hml : (mulL K a b).length = 2 * (R1 + R2) + 1 := by rw [mulL_length]; omega
  refine List.ext_getElem (by simp [behindT, sumT_length, hml]) fun x h1 h2 => ?_
  have hx : x < pw K (2 * (R1 + R2) + 1) := by simpa [behindT] using h1
  simp only [behindT, List.getElem_map, List.getElem_range]
  rw [window_sum hK ha hb (digs_syms hK _ _) (digs_length ..), numW_digs hK _ _ hx]
  simp [List.getD, h2]
end Go.Proofs.YtdldadgnggaopaaDoor

namespace Go.Proofs.YtdldadgnggaopaaDoor

theorem numW_append (K : Nat) (u v : List Int) : numW K (u ++ v) = numW K u * pw K v.length + numW K v := by
  induction hn : v.length generalizing v with
  | zero =>
    obtain rfl := List.eq_nil_of_length_eq_zero hn
    simp [numW, pw]
  | succ n ih =>
    have hne : v ≠ [] := by intro e; subst e; simp at hn
    obtain ⟨b, x, rfl⟩ : ∃ b x, v = b ++ [x] := ⟨v.dropLast, v.getLast hne, (List.dropLast_concat_getLast hne).symm⟩
    have hb : b.length = n := by simpa using hn
    rw [← List.append_assoc, numW_snoc, numW_snoc, ih b hb, pw_succ, Nat.add_mul, Nat.mul_assoc]
    omega
theorem numW_mod {K : Nat} {u v : List Int} (h : Syms K v) : numW K (u ++ v) % pw K v.length = numW K v := by
  rw [numW_append, Nat.mul_comm, Nat.mul_add_mod, Nat.mod_eq_of_lt (numW_lt v h)]

/-- One symbol more. -/
theorem imgP_snoc {K R : Nat} {T w : List Int} {x : Int} (hT : T.length = pw K (2 * R + 1)) (hw : Syms K (w ++ [x])) :
    imgP K R T (w ++ [x]) = if 2 * R ≤ w.length then imgP K R T w ++ [T.getD (numW K (w ++ [x]) % T.length) 0] else imgP K R T w := by
  by_cases h : 2 * R ≤ w.length
  · rw [if_pos h]
    unfold imgP
    rw [show (w ++ [x]).length - 2 * R = (w.length - 2 * R) + 1 by simp; omega, List.range_succ, List.map_append]
    congr 1
    · refine List.map_congr_left fun i hi => ?_
      have hi' := List.mem_range.1 hi
      congr 2
      rw [List.drop_append_of_le_length (by omega), List.take_append_of_le_length (by simp; omega)]
    · simp only [List.map_cons, List.map_nil]
      congr 2
      have e : ((w ++ [x]).drop (w.length - 2 * R)).take (2 * R + 1) = (w ++ [x]).drop (w.length - 2 * R) := List.take_of_length_le (by simp; omega)
      rw [e, hT]
      have hl : ((w ++ [x]).drop (w.length - 2 * R)).length = 2 * R + 1 := by simp; omega
      have := numW_mod (K := K) (u := (w ++ [x]).take (w.length - 2 * R)) (v := (w ++ [x]).drop (w.length - 2 * R)) (fun y hy => hw y (List.mem_of_mem_drop hy))
      rw [List.take_append_drop, hl] at this
      exact this.symm
  · rw [if_neg h]
    unfold imgP
    rw [show (w ++ [x]).length - 2 * R = 0 by simp; omega, show w.length - 2 * R = 0 by omega]
    rfl
theorem numW_step (K : Nat) (w : List Int) (x : Int) (L : Nat) : numW K (w ++ [x]) % L = (numW K w % L * K + x.toNat) % L := by
  rw [numW_snoc, Nat.add_mod, Nat.mul_mod, ← Nat.mod_mod (numW K w) L, ← Nat.mul_mod, ← Nat.add_mod, Nat.mod_mod]

/-- A window's digits, from the last on. -/
theorem digs_getD (K n x j : Nat) (hj : j < n) : (digs K n x).getD (n - 1 - j) 0 = ((x / pw K j % K : Nat) : Int) := by
  induction n generalizing x j with
  | zero => omega
  | succ n ih =>
    rw [digs]
    cases j with
    | zero =>
      rw [pw_zero, Nat.div_one, show n + 1 - 1 - 0 = (digs K n (x / K)).length by rw [digs_length]; omega]
      simp [List.getD]
    | succ j =>
      have h := ih (x / K) j (by omega)
      have hl : n + 1 - 1 - (j + 1) < (digs K n (x / K)).length := by rw [digs_length]; omega
      simp only [List.getD, List.getElem?_append_left hl] at h ⊢
      rw [show n + 1 - 1 - (j + 1) = n - 1 - j by omega, h, pw_succ, Nat.div_div_eq_div_mul, Nat.mul_comm]

/-- The window's list while it is filled from its end. -/
theorem digs_fill (K n x j : Nat) (hj : j < n) (p : List Int) (hp : p.length = n) :
    (p.take (n - j) ++ (digs K n x).drop (n - j)).set (n - 1 - j) ((x / pw K j % K : Nat) : Int) = p.take (n - (j + 1)) ++ (digs K n x).drop (n - (j + 1)) := by
  have hd := digs_getD K n x j hj
  have hdl := digs_length K n x
  rw [show n - (j + 1) = n - 1 - j by omega, show n - j = n - 1 - j + 1 by omega]
  have hm : n - 1 - j < n := by omega
  generalize n - 1 - j = m at hd hm
  rw [← hd, take_snoc p m (by omega), List.drop_eq_getElem_cons (show m < (digs K n x).length by omega), List.append_assoc, List.set_append_right _ _ (by simp; omega)]
  have e : m - (p.take m).length = 0 := by simp; omega
  rw [e]
  simp [List.getD, show m < (digs K n x).length by omega]
end Go.Proofs.YtdldadgnggaopaaDoor

namespace Go.Proofs.YtdldadgnggaopaaDoor

theorem numW_cons (K : Nat) (s : Int) (u : List Int) : numW K (s :: u) = s.toNat * pw K u.length + numW K u := by
  have := numW_append K [s] u
  simpa [numW] using this

theorem digs_numW {K : Nat} (hK : 1 ≤ K) (w : List Int) (h : Syms K w) : digs K w.length (numW K w) = w := by
  induction hn : w.length generalizing w with
  | zero => obtain rfl := List.eq_nil_of_length_eq_zero hn; rfl
  | succ n ih =>
    have hne : w ≠ [] := by intro e; subst e; simp at hn
    obtain ⟨b, x, rfl⟩ : ∃ b x, w = b ++ [x] := ⟨w.dropLast, w.getLast hne, (List.dropLast_concat_getLast hne).symm⟩
    have hb : b.length = n := by simpa using hn
    have hx := h x (by simp)
    have hxn : x.toNat < K := by omega
    have := ih b (fun y hy => h y (by simp [hy])) hb
    rw [digs, numW_snoc]
    rw [show (numW K b * K + x.toNat) / K = numW K b by rw [Nat.mul_comm, Nat.mul_add_div (by omega), Nat.div_eq_of_lt hxn, Nat.add_zero], this,
      show (numW K b * K + x.toNat) % K = x.toNat by rw [Nat.mul_comm, Nat.mul_add_mod, Nat.mod_eq_of_lt hxn]]
    congr 2
    omega

/-- The mirrored table. -/
def mirT (K n : Nat) (T : List Int) : List Int := (List.range T.length).map fun i => T.getD (numW K (digs K n i).reverse) 0
theorem mirT_length (K n : Nat) (T : List Int) : (mirT K n T).length = T.length := by simp [mirT]
theorem mirT_syms {K : Nat} (hK : 1 ≤ K) (n : Nat) {T : List Int} (h : Syms K T) : Syms K (mirT K n T) := by
  intro y hy
  obtain ⟨i, _, rfl⟩ := List.mem_map.1 hy
  exact h.getD (by omega) _
theorem mirT_at {K n : Nat} (hK : 1 ≤ K) {T : List Int} (hT : T.length = pw K n) (w : List Int) (hw : Syms K w) (hl : w.length = n) : (mirT K n T).getD (numW K w) 0 = T.getD (numW K w.reverse) 0 := by
  have hlt := numW_lt w hw
  rw [hl, ← hT] at hlt
  have : (mirT K n T).getD (numW K w) 0 = T.getD (numW K (digs K n (numW K w)).reverse) 0 := by simp [mirT, List.getD, hlt]
  rw [this, ← hl, digs_numW hK w hw]
theorem mirT_ok {K R : Nat} {T : List Int} (h : RuleOk K R T) : RuleOk K R (mirT K (2 * R + 1) T) :=
  ⟨h.k1, h.k4, h.r3, by rw [mirT_length]; exact h.len, mirT_syms h.k1 _ h.syms⟩

/-- edenref19.right's answer. -/
def rightR (K : Nat) (T : List Int) : Bool := decide (∀ i, i < T.length → ∀ j, j < T.length → i < j → j / K = i / K → T.getD i 0 ≠ T.getD j 0)
theorem rightR_false {K : Nat} {T : List Int} (i j : Nat) (hj : j < T.length) (h : i < j) (hq : j / K = i / K) (e : T.getD i 0 = T.getD j 0) : rightR K T = false := by
  rw [rightR, decide_eq_false_iff_not]
  intro hh
  exact hh i (by omega) j hj h hq e
theorem rightR_true {K : Nat} {T : List Int} (h : ∀ i, i < T.length → ∀ j, j < T.length → i < j → j / K = i / K → T.getD i 0 ≠ T.getD j 0) : rightR K T = true := by
  rw [rightR, decide_eq_true_iff]; exact h

theorem bits2 : ∀ a b : Fin 2, ((0 ||| 2 ^ a.val) ||| 2 ^ b.val == 2 ^ 2 - 1) = decide (a ≠ b) := by decide
theorem bits3 : ∀ a b c : Fin 3, (((0 ||| 2 ^ a.val) ||| 2 ^ b.val) ||| 2 ^ c.val == 2 ^ 3 - 1) = decide (a ≠ b ∧ a ≠ c ∧ b ≠ c) := by decide
theorem bits4 : ∀ a b c d : Fin 4, ((((0 ||| 2 ^ a.val) ||| 2 ^ b.val) ||| 2 ^ c.val) ||| 2 ^ d.val == 2 ^ 4 - 1) = decide (a ≠ b ∧ a ≠ c ∧ a ≠ d ∧ b ≠ c ∧ b ≠ d ∧ c ≠ d) := by decide +kernel

theorem fullP_iff {K : Nat} (h1 : 1 ≤ K) (h4 : K ≤ 4) {T : List Int} (hT : Syms K T) (W i : Nat) :
    fullP K T W i = true ↔ ∀ s t, s < t → t < K → T.getD (i + s * W) 0 ≠ T.getD (i + t * W) 0 := by
  have hx : ∀ s, ∃ a : Fin K, T.getD (i + s * W) 0 = (a.val : Int) := fun s => by
    have := hT.getD (by omega) (i + s * W)
    exact ⟨⟨(T.getD (i + s * W) 0).toNat, by omega⟩, by simp only []; omega⟩
  have hk : K = 1 ∨ K = 2 ∨ K = 3 ∨ K = 4 := by omega
  unfold fullP
  rcases hk with rfl | rfl | rfl | rfl
  · obtain ⟨a, ha⟩ := hx 0
    simp only [seenP, ha, Int.toNat_natCast]
    have : a.val = 0 := by omega
    rw [this]
    exact ⟨fun _ s t h h' => by omega, fun _ => rfl⟩
  · obtain ⟨a, ha⟩ := hx 0
    obtain ⟨b, hb⟩ := hx 1
    simp only [seenP, ha, hb, Int.toNat_natCast, bits2, decide_eq_true_iff]
    constructor
    · intro h s t hst ht
      obtain rfl : s = 0 := by omega
      obtain rfl : t = 1 := by omega
      rw [ha, hb]
      intro e; exact h (Fin.ext (by omega))
    · intro h e
      have := h 0 1 (by omega) (by omega)
      rw [ha, hb, e] at this; exact this rfl
  · obtain ⟨a, ha⟩ := hx 0
    obtain ⟨b, hb⟩ := hx 1
    obtain ⟨c, hc⟩ := hx 2
    simp only [seenP, ha, hb, hc, Int.toNat_natCast, bits3, decide_eq_true_iff]
    constructor
    · rintro ⟨n1, n2, n3⟩ s t hst ht
      have : (s = 0 ∧ t = 1) ∨ (s = 0 ∧ t = 2) ∨ (s = 1 ∧ t = 2) := by omega
      rcases this with ⟨rfl, rfl⟩ | ⟨rfl, rfl⟩ | ⟨rfl, rfl⟩
      · rw [ha, hb]; intro e; exact n1 (Fin.ext (by omega))
      · rw [ha, hc]; intro e; exact n2 (Fin.ext (by omega))
      · rw [hb, hc]; intro e; exact n3 (Fin.ext (by omega))
    · intro h
      refine ⟨fun e => ?_, fun e => ?_, fun e => ?_⟩
      · have := h 0 1 (by omega) (by omega); rw [ha, hb, e] at this; exact this rfl
      · have := h 0 2 (by omega) (by omega); rw [ha, hc, e] at this; exact this rfl
      · have := h 1 2 (by omega) (by omega); rw [hb, hc, e] at this; exact this rfl
  · obtain ⟨a, ha⟩ := hx 0
    obtain ⟨b, hb⟩ := hx 1
    obtain ⟨c, hc⟩ := hx 2
    obtain ⟨d, hd⟩ := hx 3
    simp only [seenP, ha, hb, hc, hd, Int.toNat_natCast, bits4, decide_eq_true_iff]
    constructor
    · rintro ⟨n1, n2, n3, n4, n5, n6⟩ s t hst ht
      have : (s = 0 ∧ t = 1) ∨ (s = 0 ∧ t = 2) ∨ (s = 0 ∧ t = 3) ∨ (s = 1 ∧ t = 2) ∨ (s = 1 ∧ t = 3) ∨ (s = 2 ∧ t = 3) := by omega
      rcases this with ⟨rfl, rfl⟩ | ⟨rfl, rfl⟩ | ⟨rfl, rfl⟩ | ⟨rfl, rfl⟩ | ⟨rfl, rfl⟩ | ⟨rfl, rfl⟩
      · rw [ha, hb]; intro e; exact n1 (Fin.ext (by omega))
      · rw [ha, hc]; intro e; exact n2 (Fin.ext (by omega))
      · rw [ha, hd]; intro e; exact n3 (Fin.ext (by omega))
      · rw [hb, hc]; intro e; exact n4 (Fin.ext (by omega))
      · rw [hb, hd]; intro e; exact n5 (Fin.ext (by omega))
      · rw [hc, hd]; intro e; exact n6 (Fin.ext (by omega))
    · intro h
      refine ⟨fun e => ?_, fun e => ?_, fun e => ?_, fun e => ?_, fun e => ?_, fun e => ?_⟩
      · have := h 0 1 (by omega) (by omega); rw [ha, hb, e] at this; exact this rfl
      · have := h 0 2 (by omega) (by omega); rw [ha, hc, e] at this; exact this rfl
      · have := h 0 3 (by omega) (by omega); rw [ha, hd, e] at this; exact this rfl
      · have := h 1 2 (by omega) (by omega); rw [hb, hc, e] at this; exact this rfl
      · have := h 1 3 (by omega) (by omega); rw [hb, hd, e] at this; exact this rfl
      · have := h 2 3 (by omega) (by omega); rw [hc, hd, e] at this; exact this rfl

theorem unlikeP_iff {K : Nat} {T : List Int} {W : Nat} : unlikeP K T W = true ↔ ∀ i, i < T.length → i / W % K = 0 → fullP K T W i = true :=
  ⟨fun h i => unlikeP_full h i, unlikeP_true⟩

theorem mul_add_lt {K q s m : Nat} (hs : s < K) (hq : q < m) : q * K + s < m * K := by
  have := Nat.mul_le_mul_right K (show q + 1 ≤ m from hq)
  rw [Nat.succ_mul] at this
  omega
theorem div_mk {K q s : Nat} (hs : s < K) : (q * K + s) / K = q := by
  rw [Nat.mul_comm, Nat.mul_add_div (by omega), Nat.div_eq_of_lt hs, Nat.add_zero]
theorem mod_mk {K q s : Nat} (hs : s < K) : (q * K + s) % K = s := by
  rw [Nat.mul_comm, Nat.mul_add_mod, Nat.mod_eq_of_lt hs]

/-- The last place permutes: the program's test is the document's. -/
theorem unlike_right {K R : Nat} {T : List Int} (h : RuleOk K R T) : unlikeP K T 1 = rightR K T := by
  have h1 := h.k1
  have hl := h.half.2
  rw [Bool.eq_iff_iff, unlikeP_iff, rightR, decide_eq_true_iff]
  constructor
  · intro hu i hi j hj hij hq
    have e1 := Nat.div_add_mod' i K
    have e2 := Nat.div_add_mod' j K
    have m1 := Nat.mod_lt i (show K > 0 by omega)
    have m2 := Nat.mod_lt j (show K > 0 by omega)
    rw [hq] at e2
    have := (fullP_iff h1 h.k4 h.syms 1 (i / K * K)).1 (hu _ (by omega) (by rw [Nat.div_one, Nat.mul_mod_left])) (i % K) (j % K) (by omega) m2
    rwa [Nat.mul_one, Nat.mul_one, e1, e2] at this
  · intro hr i hi hm
    rw [Nat.div_one] at hm
    obtain ⟨q, rfl⟩ : ∃ q, i = q * K := ⟨i / K, by have := Nat.div_add_mod' i K; omega⟩
    have hq : q < pw K (2 * R) := Nat.lt_of_mul_lt_mul_right (a := K) (by rw [← hl]; exact hi)
    refine (fullP_iff h1 h.k4 h.syms 1 _).2 fun s t hst ht => ?_
    have l2 := mul_add_lt ht hq
    rw [← hl] at l2
    have := hr (q * K + s) (by omega) (q * K + t) l2 (by omega) (by rw [div_mk ht, div_mk (by omega)])
    rwa [Nat.mul_one, Nat.mul_one]

theorem digs_snoc {K : Nat} (n x : Nat) : digs K (n + 1) x = digs K n (x / K) ++ [((x % K : Nat) : Int)] := rfl

/-- The first place permutes just if the mirrored rule's last does. -/
theorem unlike_left {K R : Nat} {T : List Int} (h : RuleOk K R T) : unlikeP K T (T.length / K) = rightR K (mirT K (2 * R + 1) T) := by
  have h1 := h.k1
  obtain ⟨hW, hl⟩ := h.half
  have hMl := mirT_length K (2 * R + 1) T
  have hp := pw_pos (K := K) (2 * R) h1
  rw [hW, Bool.eq_iff_iff, unlikeP_iff, rightR, decide_eq_true_iff, hMl]
  have key : ∀ q s, q < pw K (2 * R) → s < K → (mirT K (2 * R + 1) T).getD (q * K + s) 0 = T.getD (numW K (digs K (2 * R) q).reverse + s * pw K (2 * R)) 0 := by
    intro q s hq hs
    have hsy : Syms K (digs K (2 * R) q ++ [(s : Int)]) := by
      intro y hy
      rcases List.mem_append.1 hy with hy | hy
      · exact digs_syms h1 _ _ y hy
      · rw [List.mem_singleton] at hy; subst hy; omega
    have := mirT_at h1 h.len (digs K (2 * R) q ++ [(s : Int)]) hsy (by simp [digs_length])
    rw [numW_snoc, numW_digs h1 _ _ hq, Int.toNat_natCast, List.reverse_append, List.reverse_singleton, List.singleton_append, numW_cons, Int.toNat_natCast, List.length_reverse, digs_length, Nat.add_comm (s * _)] at this
    exact this
  have rsy : ∀ q, Syms K (digs K (2 * R) q).reverse := fun q y hy => digs_syms h1 _ _ y (List.mem_reverse.1 hy)
  have rlt : ∀ q, numW K (digs K (2 * R) q).reverse < pw K (2 * R) := fun q => by
    have := numW_lt _ (rsy q)
    rwa [List.length_reverse, digs_length] at this
  constructor
  · intro hu i hi j hj hij hq
    have e1 := Nat.div_add_mod' i K
    have e2 := Nat.div_add_mod' j K
    have m1 := Nat.mod_lt i (show K > 0 by omega)
    have m2 := Nat.mod_lt j (show K > 0 by omega)
    rw [hq] at e2
    have hqi : i / K < pw K (2 * R) := by rw [Nat.div_lt_iff_lt_mul (by omega), ← hl]; exact hi
    have a1 := key (i / K) (i % K) hqi m1
    have a2 := key (i / K) (j % K) hqi m2
    rw [e1] at a1
    rw [e2] at a2
    rw [a1, a2]
    have lt := rlt (i / K)
    refine (fullP_iff h1 h.k4 h.syms (pw K (2 * R)) _).1 (hu _ ?_ ?_) (i % K) (j % K) (by omega) m2
    · rw [hl]; have := Nat.mul_le_mul_left (pw K (2 * R)) h1; omega
    · rw [Nat.div_eq_of_lt lt, Nat.zero_mod]
  · intro hr i hi hm
    have hiW : i < pw K (2 * R) := by
      have hdl : i / pw K (2 * R) < K := by rw [Nat.div_lt_iff_lt_mul (by omega), Nat.mul_comm, ← hl]; exact hi
      rw [Nat.mod_eq_of_lt hdl] at hm
      have := Nat.div_add_mod i (pw K (2 * R))
      have := Nat.mod_lt i (show pw K (2 * R) > 0 by omega)
      rw [hm] at *
      omega
    refine (fullP_iff h1 h.k4 h.syms (pw K (2 * R)) i).2 fun s t hst ht => ?_
    have hq := rlt i
    have a1 := key _ s hq (by omega)
    have a2 := key _ t hq ht
    have back : numW K (digs K (2 * R) (numW K (digs K (2 * R) i).reverse)).reverse = i := by
      have := digs_numW h1 _ (rsy i)
      rw [List.length_reverse, digs_length] at this
      rw [this, List.reverse_reverse, numW_digs h1 _ _ hiW]
    rw [back] at a1 a2
    rw [← a1, ← a2]
    have l2 := mul_add_lt ht hq
    rw [← hl] at l2
    exact hr _ (by omega) _ l2 (by omega) (by rw [div_mk ht, div_mk (by omega)])

/-- The symbols to the right, and the node behind them: the last 2 R symbols. -/
theorem num_shift {K : Nat} {u : List Int} {s : Int} (h : Syms K (u ++ [s])) : numW K ((u ++ [s]).drop 1) = numW K (u ++ [s]) % pw K u.length := by
  have hl : ((u ++ [s]).drop 1).length = u.length := by simp
  have := numW_mod (K := K) (u := (u ++ [s]).take 1) (v := (u ++ [s]).drop 1) (fun y hy => h y (List.mem_of_mem_drop hy))
  rw [List.take_append_drop, hl] at this
  exact this.symm
theorem rightP_syms {K : Nat} (hK : 1 ≤ K) (T : List Int) (node : Nat) (w : List Int) : Syms K (rightP K T node w) := by
  induction w generalizing node with
  | nil => intro y hy; cases hy
  | cons x w ih =>
    intro y hy
    rw [rightP, List.mem_cons] at hy
    rcases hy with rfl | hy
    · have := fit_lt hK T (node * K) 1 x; omega
    · exact ih _ y hy
theorem on_front {K R : Nat} {T : List Int} (hK : 1 ≤ K) (hW : T.length / K = pw K (2 * R)) (zs ys : List Int) (hz : Syms K zs) (hl : zs.length = 2 * R) :
    numW K ((zs ++ rightP K T (numW K zs) ys).drop ys.length) = rightN K T (numW K zs) ys := by
  induction hn : ys.length generalizing ys with
  | zero => obtain rfl := List.eq_nil_of_length_eq_zero hn; simp [rightP, rightN]
  | succ n ih =>
    have hne : ys ≠ [] := by intro e; subst e; simp at hn
    obtain ⟨b, x, rfl⟩ : ∃ b x, ys = b ++ [x] := ⟨ys.dropLast, ys.getLast hne, (List.dropLast_concat_getLast hne).symm⟩
    have hb : b.length = n := by simpa using hn
    have ih' := ih b hb
    rw [rightP_snoc, rightN_snoc, ← List.append_assoc, ← ih', hW]
    have hPl := rightP_length K T (numW K zs) b
    have hs := fit_lt hK T (numW K ((zs ++ rightP K T (numW K zs) b).drop n) * K) 1 x
    generalize fit K T (numW K ((zs ++ rightP K T (numW K zs) b).drop n) * K) 1 x = s at *
    have hu : Syms K (zs ++ rightP K T (numW K zs) b) := by
      intro y hy
      rcases List.mem_append.1 hy with hy | hy
      · exact hz y hy
      · exact rightP_syms hK _ _ _ y hy
    have hul : (zs ++ rightP K T (numW K zs) b).length = 2 * R + n := by simp [hPl, hl, hb]
    generalize zs ++ rightP K T (numW K zs) b = u at *
    have e : (u ++ [(s : Int)]).drop (n + 1) = (u.drop n ++ [(s : Int)]).drop 1 := by
      rw [← List.drop_drop, List.drop_append_of_le_length (by omega)]
    have hdl : (u.drop n).length = 2 * R := by simp; omega
    rw [e, num_shift, numW_snoc, hdl, Int.toNat_natCast]
    intro y hy
    rcases List.mem_append.1 hy with hy | hy
    · exact hu y (List.mem_of_mem_drop hy)
    · rw [List.mem_singleton] at hy; subst hy; omega

theorem fitP_congr {T M : List Int} {r1 W1 r2 W2 : Nat} (image : Int) (n s : Nat) (h : ∀ t, t < s + n → T.getD (r1 + t * W1) 0 = M.getD (r2 + t * W2) 0) : fitP T r1 W1 image n s = fitP M r2 W2 image n s := by
  induction n generalizing s with
  | zero => rfl
  | succ n ih => rw [fitP, fitP, h s (by omega), ih (s + 1) (fun t ht => h t (by omega))]

/-- The symbols to the left are those to the right by the mirrored rule, mirrored. -/
theorem left_mirror {K R : Nat} {T : List Int} (h : RuleOk K R T) (zs ys : List Int) (hz : Syms K zs) (hl : zs.length = 2 * R) :
    ∃ u, u.length = 2 * R ∧ Syms K u ∧ (leftS K T (numW K zs) ys).1 = numW K u ∧ rightN K (mirT K (2 * R + 1) T) (numW K zs.reverse) ys.reverse = numW K u.reverse ∧
      (leftS K T (numW K zs) ys).2 = (rightP K (mirT K (2 * R + 1) T) (numW K zs.reverse) ys.reverse).reverse := by
  have h1 := h.k1
  obtain ⟨hW, hlen⟩ := h.half
  have hMW : (mirT K (2 * R + 1) T).length / K = pw K (2 * R) := by rw [mirT_length]; exact hW
  induction ys with
  | nil => exact ⟨zs, hl, hz, rfl, rfl, rfl⟩
  | cons x w ih =>
    obtain ⟨u, hul, hu, e1, e2, e3⟩ := ih
    have hf : fit K T (numW K u) (T.length / K) x = fit K (mirT K (2 * R + 1) T) (numW K u.reverse * K) 1 x := by
      refine fitP_congr x K 0 fun t ht => ?_
      have hsy : Syms K (u.reverse ++ [(t : Int)]) := by
        intro y hy
        rcases List.mem_append.1 hy with hy | hy
        · exact hu y (List.mem_reverse.1 hy)
        · rw [List.mem_singleton] at hy; subst hy; omega
      have := mirT_at h1 h.len (u.reverse ++ [(t : Int)]) hsy (by simp [hul])
      rw [numW_snoc, Int.toNat_natCast, List.reverse_append, List.reverse_singleton, List.singleton_append, List.reverse_reverse, numW_cons, Int.toNat_natCast, hul] at this
      rw [hW, Nat.mul_one, this, Nat.add_comm]
    have hs := fit_lt h1 T (numW K u) (T.length / K) x
    have es : (leftS K T (numW K zs) (x :: w)) = ((fit K T (numW K u) (T.length / K) x * (T.length / K) + numW K u) / K, (fit K T (numW K u) (T.length / K) x : Int) :: (leftS K T (numW K zs) w).2) := by
      rw [leftS, e1]
    rw [es, List.reverse_cons, rightP_snoc, rightN_snoc, e2, ← hf, e3, hMW]
    rw [hW] at hf hs es ⊢
    generalize fit K T (numW K u) (pw K (2 * R)) x = s at *
    have hsu : Syms K ((s : Int) :: u) := by
      intro y hy
      rcases List.mem_cons.1 hy with rfl | hy
      · omega
      · exact hu y hy
    have hne : ((s : Int) :: u) ≠ [] := by simp
    have hcat := List.dropLast_concat_getLast hne
    have hv : Syms K ((s : Int) :: u).dropLast := fun y hy => hsu y (List.dropLast_subset _ hy)
    refine ⟨((s : Int) :: u).dropLast, by simp [hul], hv, ?_, ?_, ?_⟩
    · have e := numW_cons K s u
      rw [Int.toNat_natCast, hul] at e
      show (s * pw K (2 * R) + numW K u) / K = _
      rw [← e, ← hcat, numW_snoc, hcat, div_mk]
      have := hsu _ (List.getLast_mem hne)
      omega
    · have e : (u.reverse ++ [(s : Int)]).drop 1 = ((s : Int) :: u).dropLast.reverse := by
        rw [List.dropLast_eq_take, List.reverse_take]
        simp
      have hr : Syms K (u.reverse ++ [(s : Int)]) := by
        intro y hy
        apply hsu
        simpa [or_comm] using hy
      rw [← e, num_shift hr, numW_snoc, List.length_reverse, hul, Int.toNat_natCast]
    · simp
end Go.Proofs.YtdldadgnggaopaaDoor

namespace Go.Proofs.YtdldadgnggaopaaDoor

theorem syms_cons {K : Nat} {s : Int} {u : List Int} (h0 : 0 ≤ s) (h1 : s < K) (hu : Syms K u) : Syms K (s :: u) := by
  intro y hy
  rcases List.mem_cons.1 hy with rfl | hy
  · exact ⟨h0, h1⟩
  · exact hu y hy
theorem syms_snoc {K : Nat} {s : Int} {u : List Int} (h0 : 0 ≤ s) (h1 : s < K) (hu : Syms K u) : Syms K (u ++ [s]) := by
  intro y hy
  rcases List.mem_append.1 hy with hy | hy
  · exact hu y hy
  · rw [List.mem_singleton] at hy; subst hy; exact ⟨h0, h1⟩
theorem syms_rev {K : Nat} {u : List Int} (hu : Syms K u) : Syms K u.reverse := fun y hy => hu y (List.mem_reverse.1 hy)

/-- The first symbol of the window permutes. -/
def LeftW (K m : Nat) (T : List Int) : Prop := ∀ u, Syms K u → u.length = m → ∀ s t : Int, 0 ≤ s → s < K → 0 ≤ t → t < K → s ≠ t → T.getD (numW K (s :: u)) 0 ≠ T.getD (numW K (t :: u)) 0
/-- The last one does. -/
def RightW (K m : Nat) (T : List Int) : Prop := ∀ u, Syms K u → u.length = m → ∀ s t : Int, 0 ≤ s → s < K → 0 ≤ t → t < K → s ≠ t → T.getD (numW K (u ++ [s])) 0 ≠ T.getD (numW K (u ++ [t])) 0

theorem unlike_leftW {K R : Nat} {T : List Int} (h : RuleOk K R T) : unlikeP K T (T.length / K) = true ↔ LeftW K (2 * R) T := by
  have h1 := h.k1
  obtain ⟨hW, hl⟩ := h.half
  have hp := pw_pos (K := K) (2 * R) h1
  rw [hW, unlikeP_iff]
  constructor
  · intro hu u hsy hul s t hs0 hs1 ht0 ht1 hne
    have hlt := numW_lt u hsy
    rw [hul] at hlt
    have hf := hu (numW K u) (by rw [hl]; have := Nat.mul_le_mul_left (pw K (2 * R)) h1; omega) (by rw [Nat.div_eq_of_lt hlt, Nat.zero_mod])
    have hf := (fullP_iff h1 h.k4 h.syms (pw K (2 * R)) _).1 hf
    rw [numW_cons, numW_cons, hul, Nat.add_comm (s.toNat * _), Nat.add_comm (t.toNat * _)]
    rcases Nat.lt_or_ge s.toNat t.toNat with hst | hst
    · exact hf _ _ hst (by omega)
    · exact (hf t.toNat s.toNat (by omega) (by omega)).symm
  · intro hw i hi hm
    have hiW : i < pw K (2 * R) := by
      have hdl : i / pw K (2 * R) < K := by rw [Nat.div_lt_iff_lt_mul (by omega), Nat.mul_comm, ← hl]; exact hi
      rw [Nat.mod_eq_of_lt hdl] at hm
      have := Nat.div_add_mod i (pw K (2 * R))
      have := Nat.mod_lt i (show pw K (2 * R) > 0 by omega)
      rw [hm] at *
      omega
    refine (fullP_iff h1 h.k4 h.syms (pw K (2 * R)) i).2 fun s t hst ht => ?_
    have := hw (digs K (2 * R) i) (digs_syms h1 _ _) (digs_length ..) s t (by omega) (by omega) (by omega) (by omega) (by omega)
    rwa [numW_cons, numW_cons, digs_length, numW_digs h1 _ _ hiW, Int.toNat_natCast, Int.toNat_natCast, Nat.add_comm (s * _), Nat.add_comm (t * _)] at this

theorem unlike_rightW {K R : Nat} {T : List Int} (h : RuleOk K R T) : unlikeP K T 1 = true ↔ RightW K (2 * R) T := by
  have h1 := h.k1
  obtain ⟨hW, hl⟩ := h.half
  rw [unlikeP_iff]
  constructor
  · intro hu u hsy hul s t hs0 hs1 ht0 ht1 hne
    have hlt := numW_lt u hsy
    rw [hul] at hlt
    have hf := hu (numW K u * K) (by rw [hl]; exact Nat.mul_lt_mul_of_pos_right hlt (by omega)) (by rw [Nat.div_one, Nat.mul_mod_left])
    have hf := (fullP_iff h1 h.k4 h.syms 1 _).1 hf
    rw [numW_snoc, numW_snoc]
    rcases Nat.lt_or_ge s.toNat t.toNat with hst | hst
    · have := hf _ _ hst (by omega); rwa [Nat.mul_one, Nat.mul_one] at this
    · have := (hf t.toNat s.toNat (by omega) (by omega)).symm; rwa [Nat.mul_one, Nat.mul_one] at this
  · intro hw i hi hm
    rw [Nat.div_one] at hm
    obtain ⟨q, rfl⟩ : ∃ q, i = q * K := ⟨i / K, by have := Nat.div_add_mod' i K; omega⟩
    have hq : q < pw K (2 * R) := Nat.lt_of_mul_lt_mul_right (a := K) (by rw [← hl]; exact hi)
    refine (fullP_iff h1 h.k4 h.syms 1 _).2 fun s t hst ht => ?_
    have := hw (digs K (2 * R) q) (digs_syms h1 _ _) (digs_length ..) s t (by omega) (by omega) (by omega) (by omega) (by omega)
    rwa [numW_snoc, numW_snoc, numW_digs h1 _ _ hq, Int.toNat_natCast, Int.toNat_natCast, ← Nat.mul_one s, ← Nat.mul_one t] at this

/-- Mirrored: the other sides. -/
theorem mir_leftW {K R : Nat} {T : List Int} (h : RuleOk K R T) : LeftW K (2 * R) (mirT K (2 * R + 1) T) ↔ RightW K (2 * R) T := by
  have e : ∀ (u : List Int) (s : Int), Syms K u → u.length = 2 * R → 0 ≤ s → s < K → (mirT K (2 * R + 1) T).getD (numW K (s :: u)) 0 = T.getD (numW K (u.reverse ++ [s])) 0 := fun u s hu hl h0 h1 => by
    have := mirT_at h.k1 h.len (s :: u) (syms_cons h0 h1 hu) (by simp [hl])
    rwa [List.reverse_cons] at this
  constructor
  · intro hw u hu hl s t a b c d hne
    have := hw u.reverse (syms_rev hu) (by simpa using hl) s t a b c d hne
    rwa [e _ _ (syms_rev hu) (by simpa using hl) a b, e _ _ (syms_rev hu) (by simpa using hl) c d, List.reverse_reverse] at this
  · intro hw u hu hl s t a b c d hne
    rw [e _ _ hu hl a b, e _ _ hu hl c d]
    exact hw u.reverse (syms_rev hu) (by simpa using hl) s t a b c d hne
theorem mir_rightW {K R : Nat} {T : List Int} (h : RuleOk K R T) : RightW K (2 * R) (mirT K (2 * R + 1) T) ↔ LeftW K (2 * R) T := by
  have e : ∀ (u : List Int) (s : Int), Syms K u → u.length = 2 * R → 0 ≤ s → s < K → (mirT K (2 * R + 1) T).getD (numW K (u ++ [s])) 0 = T.getD (numW K (s :: u.reverse)) 0 := fun u s hu hl h0 h1 => by
    have := mirT_at h.k1 h.len (u ++ [s]) (syms_snoc h0 h1 hu) (by simp [hl])
    rwa [List.reverse_append, List.reverse_singleton, List.singleton_append] at this
  constructor
  · intro hw u hu hl s t a b c d hne
    have := hw u.reverse (syms_rev hu) (by simpa using hl) s t a b c d hne
    rwa [e _ _ (syms_rev hu) (by simpa using hl) a b, e _ _ (syms_rev hu) (by simpa using hl) c d, List.reverse_reverse] at this
  · intro hw u hu hl s t a b c d hne
    rw [e _ _ hu hl a b, e _ _ hu hl c d]
    exact hw u.reverse (syms_rev hu) (by simpa using hl) s t a b c d hne
theorem mir_sides {K R : Nat} {T : List Int} (h : RuleOk K R T) :
    unlikeP K (mirT K (2 * R + 1) T) ((mirT K (2 * R + 1) T).length / K) = unlikeP K T 1 ∧ unlikeP K (mirT K (2 * R + 1) T) 1 = unlikeP K T (T.length / K) := by
  constructor
  · rw [Bool.eq_iff_iff, unlike_leftW (mirT_ok h), unlike_rightW h, mir_leftW h]
  · rw [Bool.eq_iff_iff, unlike_rightW (mirT_ok h), unlike_leftW h, mir_rightW h]

/-- One rule behind another. -/
theorem imgP_cons {K R : Nat} {T : List Int} {x : Int} {w : List Int} (h : 2 * R ≤ w.length) : imgP K R T (x :: w) = T.getD (numW K (x :: w.take (2 * R))) 0 :: imgP K R T w := by
  unfold imgP
  rw [show (x :: w).length - 2 * R = (w.length - 2 * R) + 1 by simp; omega, List.range_succ_eq_map, List.map_cons, List.map_map]
  congr 1
theorem behindT_length (K R1 : Nat) (T1 : List Int) (R2 : Nat) (T2 : List Int) : (behindT K R1 T1 R2 T2).length = pw K (2 * (R1 + R2) + 1) := by simp [behindT]
theorem behindT_at {K R1 R2 : Nat} {T1 T2 : List Int} (hK : 1 ≤ K) (w : List Int) (hw : Syms K w) (hl : w.length = 2 * (R1 + R2) + 1) : (behindT K R1 T1 R2 T2).getD (numW K w) 0 = T1.getD (numW K (imgP K R2 T2 w)) 0 := by
  have hlt := numW_lt w hw
  rw [hl] at hlt
  have : (behindT K R1 T1 R2 T2).getD (numW K w) 0 = T1.getD (numW K (imgP K R2 T2 (digs K (2 * (R1 + R2) + 1) (numW K w)))) 0 := by simp [behindT, List.getD, hlt]
  rw [this, ← hl, digs_numW hK w hw]
theorem behindT_ok {K R1 R2 : Nat} {T1 T2 : List Int} (h1 : RuleOk K R1 T1) (hR : R1 + R2 ≤ 3) : RuleOk K (R1 + R2) (behindT K R1 T1 R2 T2) :=
  ⟨h1.k1, h1.k4, hR, behindT_length .., fun y hy => by
    obtain ⟨i, _, rfl⟩ := List.mem_map.1 hy
    exact h1.syms.getD (by have := h1.k1; omega) _⟩
theorem behind_left {K R1 R2 : Nat} {T1 T2 : List Int} (h1 : RuleOk K R1 T1) (h2 : RuleOk K R2 T2) (w1 : LeftW K (2 * R1) T1) (w2 : LeftW K (2 * R2) T2) : LeftW K (2 * (R1 + R2)) (behindT K R1 T1 R2 T2) := by
  intro u hu hl s t a b c d hne
  have hk := h1.k1
  rw [behindT_at hk _ (syms_cons a b hu) (by simp [hl]), behindT_at hk _ (syms_cons c d hu) (by simp [hl]), imgP_cons (by omega), imgP_cons (by omega)]
  have htk : Syms K (u.take (2 * R2)) := fun y hy => hu y (List.mem_of_mem_take hy)
  have hne2 := w2 (u.take (2 * R2)) htk (by simp; omega) s t a b c d hne
  have s1 := h2.syms.getD (by omega) (numW K (s :: u.take (2 * R2)))
  have s2 := h2.syms.getD (by omega) (numW K (t :: u.take (2 * R2)))
  exact w1 (imgP K R2 T2 u) (imgP_syms hk h2.syms) (by rw [imgP_length]; omega) _ _ s1.1 s1.2 s2.1 s2.2 hne2
theorem behind_right {K R1 R2 : Nat} {T1 T2 : List Int} (h1 : RuleOk K R1 T1) (h2 : RuleOk K R2 T2) (w1 : RightW K (2 * R1) T1) (w2 : RightW K (2 * R2) T2) : RightW K (2 * (R1 + R2)) (behindT K R1 T1 R2 T2) := by
  intro u hu hl s t a b c d hne
  have hk := h1.k1
  have win : ∀ x : Int, 0 ≤ x → x < K → imgP K R2 T2 (u ++ [x]) = imgP K R2 T2 u ++ [T2.getD (numW K (u.drop (u.length - 2 * R2) ++ [x])) 0] := fun x x0 x1 => by
    rw [imgP_snoc h2.len (syms_snoc x0 x1 hu), if_pos (by omega)]
    have hdl : (u.drop (u.length - 2 * R2) ++ [x]).length = 2 * R2 + 1 := by simp; omega
    have := numW_mod (K := K) (u := u.take (u.length - 2 * R2)) (v := u.drop (u.length - 2 * R2) ++ [x]) (syms_snoc x0 x1 fun y hy => hu y (List.mem_of_mem_drop hy))
    rw [← List.append_assoc, List.take_append_drop, hdl, ← h2.len] at this
    rw [this]
  rw [behindT_at hk _ (syms_snoc a b hu) (by simp [hl]), behindT_at hk _ (syms_snoc c d hu) (by simp [hl]), win s a b, win t c d]
  have hdk : Syms K (u.drop (u.length - 2 * R2)) := fun y hy => hu y (List.mem_of_mem_drop hy)
  have hne2 := w2 (u.drop (u.length - 2 * R2)) hdk (by simp; omega) s t a b c d hne
  have s1 := h2.syms.getD (by omega) (numW K (u.drop (u.length - 2 * R2) ++ [s]))
  have s2 := h2.syms.getD (by omega) (numW K (u.drop (u.length - 2 * R2) ++ [t]))
  exact w1 (imgP K R2 T2 u) (imgP_syms hk h2.syms) (by rw [imgP_length]; omega) _ _ s1.1 s1.2 s2.1 s2.2 hne2
theorem behind_sides {K R1 R2 : Nat} {T1 T2 : List Int} (h1 : RuleOk K R1 T1) (h2 : RuleOk K R2 T2) (hR : R1 + R2 ≤ 3) :
    (unlikeP K T1 (T1.length / K) = true → unlikeP K T2 (T2.length / K) = true → unlikeP K (behindT K R1 T1 R2 T2) ((behindT K R1 T1 R2 T2).length / K) = true) ∧
    (unlikeP K T1 1 = true → unlikeP K T2 1 = true → unlikeP K (behindT K R1 T1 R2 T2) 1 = true) := by
  have hb := behindT_ok (T2 := T2) h1 hR
  rw [unlike_leftW h1, unlike_leftW h2, unlike_leftW hb, unlike_rightW h1, unlike_rightW h2, unlike_rightW hb]
  exact ⟨behind_left h1 h2, behind_right h1 h2⟩
end Go.Proofs.YtdldadgnggaopaaDoor

namespace Go.Proofs.YtdldadgnggaopaaDoor

/-- What goes on from a node. -/
def compl (K N : Nat) (T : List Int) : Nat → List Int → List (List Int)
  | _, [] => [[]]
  | node, y :: ws => (List.range K).flatMap fun s => if T.getD (node * K + s) 0 = y then (compl K N T ((node * K + s) % N) ws).map (fun c => (s : Int) :: c) else []
/-- By the first t symbols. -/
def complU (K N : Nat) (T : List Int) (node : Nat) (y : Int) (ws : List Int) (t : Nat) : List (List Int) :=
  (List.range t).flatMap fun s => if T.getD (node * K + s) 0 = y then (compl K N T ((node * K + s) % N) ws).map (fun c => (s : Int) :: c) else []
theorem compl_cons (K N : Nat) (T : List Int) (node : Nat) (y : Int) (ws : List Int) : compl K N T node (y :: ws) = complU K N T node y ws K := rfl
theorem complU_succ (K N : Nat) (T : List Int) (node : Nat) (y : Int) (ws : List Int) (t : Nat) :
    complU K N T node y ws (t + 1) = complU K N T node y ws t ++ if T.getD (node * K + t) 0 = y then (compl K N T ((node * K + t) % N) ws).map (fun c => (t : Int) :: c) else [] := by
  simp [complU, List.range_succ]

theorem flatMap_one {α : Type} (K : Nat) (g : Nat → List α) (s : Nat) (hs : s < K) (h : ∀ t, t < K → t ≠ s → g t = []) : (List.range K).flatMap g = g s := by
  induction K with
  | zero => omega
  | succ K ih =>
    rw [List.range_succ, List.flatMap_append, List.flatMap_singleton]
    by_cases e : s = K
    · subst e
      have : (List.range s).flatMap g = [] := List.flatMap_eq_nil_iff.2 fun t ht => h t (by have := List.mem_range.1 ht; omega) (by have := List.mem_range.1 ht; omega)
      rw [this, List.nil_append]
    · rw [ih (by omega) (fun t ht hne => h t (by omega) hne), h K (by omega) (fun e2 => e e2.symm), List.append_nil]

/-- Where the last place permutes just one word goes on. -/
theorem compl_one {K R : Nat} {T : List Int} (h : RuleOk K R T) (hp : unlikeP K T 1 = true) (ws : List Int) (hw : Syms K ws) (node : Nat) (hn : node < pw K (2 * R)) : (compl K (pw K (2 * R)) T node ws).length = 1 := by
  have h1 := h.k1
  induction ws generalizing node with
  | nil => rfl
  | cons y ws ih =>
    have hy := hw y (by simp)
    have hl := h.half.2
    have hf := unlikeP_full hp (node * K) (by rw [hl]; exact Nat.mul_lt_mul_of_pos_right hn (by omega)) (by rw [Nat.div_one, Nat.mul_mod_left])
    obtain ⟨s, hs, he⟩ := fullP_all h1 h.syms hf y.toNat (by omega)
    rw [Nat.mul_one] at he
    have hinj := (fullP_iff h1 h.k4 h.syms 1 _).1 hf
    rw [compl, flatMap_one K _ s hs]
    · rw [if_pos (by omega), List.length_map]
      exact ih (fun x hx => hw x (by simp [hx])) _ (Nat.mod_lt _ (pw_pos _ h1))
    · intro t ht hne
      rw [if_neg]
      intro e
      rcases Nat.lt_or_ge s t with hst | hst
      · have := hinj s t hst ht; rw [Nat.mul_one, Nat.mul_one] at this; exact this (by omega)
      · have := hinj t s (by omega) hs; rw [Nat.mul_one, Nat.mul_one] at this; exact this (by omega)

/-- All preimages, begin by begin. -/
def allBefore (K R : Nat) (T ws : List Int) (n : Nat) : List (List Int) := (List.range n).flatMap fun node => (compl K (pw K (2 * R)) T node ws).map fun c => digs K (2 * R) node ++ c
theorem allBefore_succ (K R : Nat) (T ws : List Int) (n : Nat) : allBefore K R T ws (n + 1) = allBefore K R T ws n ++ (compl K (pw K (2 * R)) T n ws).map fun c => digs K (2 * R) n ++ c := by
  simp [allBefore, List.range_succ]

/-- How many begin so. -/
def begins (n : Nat) (ends l : List Int) : Bool := decide (n ≤ l.length) && decide (l.take n = ends)
theorem begins_count {K R : Nat} {T : List Int} (h : RuleOk K R T) (hp : unlikeP K T 1 = true) (ws ends : List Int) (hw : Syms K ws) (he : Syms K ends) (hl : ends.length = 2 * R) :
    ((allBefore K R T ws (pw K (2 * R))).filter (begins (2 * R) ends)).length = 1 := by
  have h1 := h.k1
  have hlt := numW_lt ends he
  rw [hl] at hlt
  have hb : ∀ node, node < pw K (2 * R) → ∀ c, begins (2 * R) ends (digs K (2 * R) node ++ c) = decide (node = numW K ends) := fun node hn c => by
    have e1 : (digs K (2 * R) node ++ c).take (2 * R) = digs K (2 * R) node := List.take_left' (digs_length ..)
    rw [begins, e1, Bool.eq_iff_iff]
    simp only [List.length_append, digs_length, Bool.and_eq_true, decide_eq_true_eq]
    constructor
    · rintro ⟨_, e⟩; rw [← e, numW_digs h1 _ _ hn]
    · rintro rfl
      refine ⟨by omega, ?_⟩
      have := digs_numW h1 ends he
      rwa [hl] at this
  have hf : (allBefore K R T ws (pw K (2 * R))).filter (begins (2 * R) ends) = (compl K (pw K (2 * R)) T (numW K ends) ws).map fun c => digs K (2 * R) (numW K ends) ++ c := by
    rw [allBefore, List.filter_flatMap, flatMap_one _ _ (numW K ends) hlt]
    · refine List.filter_eq_self.2 fun l hl => ?_
      obtain ⟨c, _, rfl⟩ := List.mem_map.1 hl
      rw [hb _ hlt]; simp
    · intro t ht hne
      refine List.filter_eq_nil_iff.2 fun l hl => ?_
      obtain ⟨c, _, rfl⟩ := List.mem_map.1 hl
      rw [hb _ ht]; simpa using hne
  rw [hf, List.length_map]
  exact compl_one h hp ws hw _ hlt

/-- The next word: the last symbols, all K - 1, become 0; the one ahead of them is one more. -/
theorem numW_rep_max {K : Nat} (hK : 1 ≤ K) (j : Nat) : numW K (List.replicate j ((K : Int) - 1)) + 1 = pw K j := by
  induction j with
  | zero => rfl
  | succ j ih =>
    rw [List.replicate_succ', numW_snoc, pw_succ, ← ih]
    have : ((K : Int) - 1).toNat = K - 1 := by omega
    rw [this, Nat.add_mul]
    omega
theorem numW_rep_zero (K j : Nat) : numW K (List.replicate j 0) = 0 := by
  induction j with
  | zero => rfl
  | succ j ih => rw [List.replicate_succ', numW_snoc, ih]; simp
theorem next_word {K n x : Nat} (hK : 1 ≤ K) (hx : x < pw K n) (u : List Int) (a : Int) (j : Nat) (h : digs K n x = u ++ [a] ++ List.replicate j ((K : Int) - 1)) (ha : a < (K : Int) - 1) :
    digs K n (x + 1) = u ++ [a + 1] ++ List.replicate j 0 := by
  have hs := digs_syms hK n x
  have hl := congrArg List.length h
  have hn := congrArg (numW K) h
  rw [digs_length] at hl
  rw [numW_digs hK _ _ hx, numW_append, List.length_replicate, numW_snoc] at hn
  rw [h] at hs
  have hu : Syms K u := fun y hy => hs y (by simp [hy])
  have ha0 := hs a (by simp)
  have hw : Syms K (u ++ [a + 1] ++ List.replicate j 0) := by
    intro y hy
    rcases List.mem_append.1 hy with hy | hy
    · exact syms_snoc (by omega) (by omega) hu y hy
    · have := List.eq_of_mem_replicate hy; omega
  have e := digs_numW hK _ hw
  have hlen : (u ++ [a + 1] ++ List.replicate j 0).length = n := by simp at hl ⊢; omega
  rw [hlen] at e
  rw [← e]
  congr 1
  rw [numW_append, List.length_replicate, numW_snoc, numW_rep_zero, show (a + 1).toNat = a.toNat + 1 by omega, ← Nat.add_assoc, Nat.add_mul (numW K u * K + a.toNat)]
  have := numW_rep_max hK j
  omega
theorem digs_last {K n x : Nat} (hK : 1 ≤ K) (hx : x < pw K n) (h : digs K n x = List.replicate n ((K : Int) - 1)) : x + 1 = pw K n := by
  have hn := congrArg (numW K) h
  rw [numW_digs hK _ _ hx] at hn
  rw [hn, numW_rep_max hK]
theorem digs_zero (K n : Nat) : digs K n 0 = List.replicate n 0 := by
  induction n with
  | zero => rfl
  | succ n ih => rw [digs, Nat.zero_div, ih, List.replicate_succ']; simp
end Go.Proofs.YtdldadgnggaopaaDoor

namespace Go.Proofs.YtdldadgnggaopaaDoor
open Go.RowKit
set_option maxRecDepth 100000

theorem set_here (u : List Int) (a y : Int) (r : List Int) : (u ++ [a] ++ r).set u.length y = u ++ [y] ++ r := by
  rw [List.append_assoc, List.set_append_right _ _ (by omega)]; simp

end Go.Proofs.YtdldadgnggaopaaDoor

namespace Go.Proofs.YtdldadgnggaopaaDoor
open Go.RowKit
set_option maxRecDepth 100000

theorem oneStrs : OneCell 43 9 (.string ⟨#[]⟩) 16 := ⟨by kernel_rfl, by kernel_rfl, rfl, by decide, fun _ => by kernel_rfl⟩

/-- What an edenraw.Err is in memory. -/
def EAt (w : World) (t : PErr) (v : Value) : Prop :=
  match t with
  | none => v = .agg #[.int .i64 0, .slice none 0 0, .slice none 0 0]
  | some (n, l) => ∃ a1 n1 c1 a2 n2 c2, v = .agg #[.int .i64 n, .slice a1 n1 c1, .slice a2 n2 c2] ∧ ValsAt w (.slice a1 n1 c1) (l.map fun x => Value.string x.1) ∧ IntsAt w (.slice a2 n2 c2) (l.map (·.2))

theorem EAt.below {w w' : World} {t : PErr} {v : Value} (h : EAt w t v) (hb : Below w.heap.size w w') : EAt w' t v := by
  match t, h with
  | none, h => exact h
  | some (n, l), ⟨a1, n1, c1, a2, n2, c2, e, h1, h2⟩ => exact ⟨a1, n1, c1, a2, n2, c2, e, h1.below hb, h2.below hb⟩

/-- An edenraw.Err whose lists this call made, from block B on. -/
def EOwn (B : Nat) (w : World) (t : PErr) (v : Value) : Prop :=
  match t with
  | none => v = .agg #[.int .i64 0, .slice none 0 0, .slice none 0 0]
  | some (n, l) => ∃ a1 n1 c1 a2 n2 c2, v = .agg #[.int .i64 n, .slice a1 n1 c1, .slice a2 n2 c2] ∧ OwnV 9 B w (.slice a1 n1 c1) (l.map fun x => Value.string x.1) ∧ OwnV 3 B w (.slice a2 n2 c2) ((l.map (·.2)).map (Value.int .i64))

theorem OwnV.setBelowBase {E : TypeId} {B : Nat} {w : World} {v : Value} {vs : List Value} (h : OwnV E B w v vs) {a : Addr} (ha : a.block < B) (u : Value) : OwnV E B (w.setCell a u) v vs := ownsRow_setCell_below h ha u
theorem EOwn.at {B : Nat} {w : World} {t : PErr} {v : Value} (h : EOwn B w t v) : EAt w t v := by
  match t, h with
  | none, h => exact h
  | some (n, l), ⟨a1, n1, c1, a2, n2, c2, e, h1, h2⟩ => exact ⟨a1, n1, c1, a2, n2, c2, e, h1.at, OwnI.at (OwnV.toI h2)⟩
theorem EOwn.mono {B B' : Nat} {w : World} {t : PErr} {v : Value} (h : EOwn B w t v) (hB : B' ≤ B) : EOwn B' w t v := by
  match t, h with
  | none, h => exact h
  | some (n, l), ⟨a1, n1, c1, a2, n2, c2, e, h1, h2⟩ => exact ⟨a1, n1, c1, a2, n2, c2, e, h1.mono hB, h2.mono hB⟩
theorem EOwn.below {B : Nat} {w w' : World} {t : PErr} {v : Value} (h : EOwn B w t v) (hb : Below w.heap.size w w') : EOwn B w' t v := by
  match t, h with
  | none, h => exact h
  | some (n, l), ⟨a1, n1, c1, a2, n2, c2, e, h1, h2⟩ => exact ⟨a1, n1, c1, a2, n2, c2, e, h1.below hb, h2.below hb⟩
theorem EOwn.set {B : Nat} {w : World} {t : PErr} {v : Value} (h : EOwn B w t v) {a : Addr} (ha : a.block < B) (u : Value) : EOwn B (w.setCell a u) t v := by
  match t, h with
  | none, h => exact h
  | some (n, l), ⟨a1, n1, c1, a2, n2, c2, e, h1, h2⟩ => exact ⟨a1, n1, c1, a2, n2, c2, e, h1.setBelowBase ha u, h2.setBelowBase ha u⟩
theorem EOwn.set3 {B b : Nat} {w : World} {t : PErr} {v : Value} (h : EOwn B w t v) (hb : b < B) (x y z : Value) : EOwn B (((w.setCell ⟨b, 0, none⟩ x).setCell ⟨b, 1, none⟩ y).setCell ⟨b, 2, none⟩ z) t v :=
  ((h.set (a := ⟨b, 0, none⟩) hb x).set (a := ⟨b, 1, none⟩) hb y).set (a := ⟨b, 2, none⟩) hb z
theorem Below.set3 {B b : Nat} {w0 w : World} (h : Below B w0 w) (hb : B ≤ b) (x y z : Value) : Below B w0 (((w.setCell ⟨b, 0, none⟩ x).setCell ⟨b, 1, none⟩ y).setCell ⟨b, 2, none⟩ z) :=
  ((h.setCell (p := ⟨b, 0, none⟩) hb x).setCell (p := ⟨b, 1, none⟩) hb y).setCell (p := ⟨b, 2, none⟩) hb z
theorem OwnV.lit {E : TypeId} (B : Nat) (w : World) (hB : B ≤ w.heap.size) (x : Value) : OwnV E B (w.alloc (.cells #[x] E)) (.slice (some ⟨w.heap.size, 0, none⟩) 1 1) [x] :=
  World.ownsRow_lit (base := B) (e := E) (size := 1) w #[x] 1 hB (by unfold maxLen; omega) rfl

theorem EAt.shape {w : World} {t : PErr} {v : Value} (h : EAt w t v) : ∃ n a1 n1 c1 a2 n2 c2, v = .agg #[.int .i64 n, .slice a1 n1 c1, .slice a2 n2 c2] := by
  match t, h with
  | none, h => exact ⟨0, none, 0, 0, none, 0, 0, h⟩
  | some (n, l), ⟨a1, n1, c1, a2, n2, c2, e, _⟩ => exact ⟨n, a1, n1, c1, a2, n2, c2, e⟩

abbrev zErr : Value := .agg #[.int .i64 0, .slice none 0 0, .slice none 0 0]
theorem EAt.none (w : World) : EAt w none zErr := rfl

set_option maxHeartbeats 1000000 in
theorem raw_root (r : Nat → Addr) (n : Int) (w : World) (hg : Glob r w) (h1 : 1 ≤ n) (h2 : n ≤ 11) :
    Calls Tryd.prog 65 #[.int .i64 n] w fun e w' => e = .returned (rootV r n) ∧ w = w' := by
  obtain ⟨c1, c2, c3, c4, c5, c6, c7, c8, c9, c10, c11, _, _, _⟩ := hg
  have hn : n = 1 ∨ n = 2 ∨ n = 3 ∨ n = 4 ∨ n = 5 ∨ n = 6 ∨ n = 7 ∨ n = 8 ∨ n = 9 ∨ n = 10 ∨ n = 11 := by omega
  rcases hn with rfl | rfl | rfl | rfl | rfl | rfl | rfl | rfl | rfl | rfl | rfl <;>
  (clear h1 h2
   go_enter Tryd.func65, Tryd.ntmps65
   go_wp2
   go_ret
   exact ⟨rfl, rfl⟩)

theorem err_bad (n : Int) (a1 : Option Addr) (n1 c1 : Nat) (a2 : Option Addr) (n2 c2 : Nat) (w : World) :
    Calls Tryd.prog 61 #[.agg #[.int .i64 n, .slice a1 n1 c1, .slice a2 n2 c2]] w (Ret1 (fun x _ => x = .bool (n != 0)) w) := by
  go_enter Tryd.func61, Tryd.ntmps61
  go_wp2
  go_ret
  exact ⟨_, rfl, (Below.refl _ _).alloc (Nat.le_refl _) _, rfl⟩

theorem vals1 {w : World} {b : Nat} {u : Value} (h : w.cell? ⟨b, 0, none⟩ = some u) : ValsAt w (.slice (some ⟨b, 0, none⟩) 1 1) [u] :=
  ⟨some ⟨b, 0, none⟩, 1, rfl, by simp, by unfold maxLen; omega, (fun e => by cases e), fun i hi => by
    obtain rfl : i = 0 := by simpa using hi
    rw [valAt_row]; simpa using h⟩
theorem ints1 {w : World} {b : Nat} {x : Int} (h : w.cell? ⟨b, 0, none⟩ = some (.int .i64 x)) : IntsAt w (.slice (some ⟨b, 0, none⟩) 1 1) [x] :=
  ⟨some ⟨b, 0, none⟩, 1, rfl, by simp, by unfold maxLen; omega, (fun e => by cases e), fun i hi => by
    obtain rfl : i = 0 := by simpa using hi
    rw [valAt_row]; simpa using h⟩

set_option maxHeartbeats 800000 in
theorem raw_new (op : ByteArray) (at_ n : Int) (w : World) :
    Calls Tryd.prog 70 #[.string op, .int .i64 at_, .int .i64 n] w (Ret1 (fun x w' => EOwn w.heap.size w' (fresh op at_ n) x) w) := by
  go_enter Tryd.func70, Tryd.ntmps70
  go_wp2
  refine bodyPost_ret (v := .agg #[.int .i64 n, .slice (some ⟨w.heap.size + 1, 0, none⟩) 1 1, .slice (some ⟨w.heap.size + 1 + 1, 0, none⟩) 1 1]) (by simp [results, Tryd.results70, go_sem]) rfl ⟨_, rfl, ?_, ?_⟩
  · exact (((Below.refl _ _).alloc (Nat.le_refl _) _).alloc (by simp) _).alloc (by simp; omega) _
  · have h1 := (OwnV.lit (E := 9) w.heap.size (w.alloc (.cells #[.int .i64 n, .slice (some ⟨w.heap.size + 1, 0, none⟩) 1 1, .slice (some ⟨w.heap.size + 1 + 1, 0, none⟩) 1 1] 45)) (by simp) (.string op)).alloc (.cells #[.int .i64 at_] 3)
    have h2 := OwnV.lit (E := 3) w.heap.size ((w.alloc (.cells #[.int .i64 n, .slice (some ⟨w.heap.size + 1, 0, none⟩) 1 1, .slice (some ⟨w.heap.size + 1 + 1, 0, none⟩) 1 1] 45)).alloc (.cells #[.string op] 9)) (by simp; omega) (.int .i64 at_)
    simp only [World.size_alloc] at h1 h2
    exact ⟨_, _, _, _, _, _, rfl, h1, h2⟩

theorem ValsAt.alloc {w : World} {v : Value} {vs : List Value} (h : ValsAt w v vs) (o : Obj) : ValsAt (w.alloc o) v vs := h.below ((Below.refl _ _).alloc (Nat.le_refl _) _)
theorem ValsAt.drew {w : World} {v : Value} {vs : List Value} (h : ValsAt w v vs) : ValsAt w.drew v vs := h
theorem ValsAt.split {w : World} {v : Value} {vs : List Value} (h : ValsAt w v vs) : (v = .slice none 0 0 ∧ vs = []) ∨ ∃ p cap, v = .slice (some p) vs.length cap ∧ ∀ j u, vs[j]? = some u → w.cell? (p.add j) = some u := by
  obtain ⟨a, cap, rfl, h1, h2, h3, h4⟩ := h
  cases a with
  | none =>
    obtain rfl := h3 rfl
    obtain rfl := List.length_eq_zero_iff.1 (show vs.length = 0 by omega)
    exact .inl ⟨rfl, rfl⟩
  | some p =>
    refine .inr ⟨p, cap, rfl, fun j u hj => ?_⟩
    have hjl : j < vs.length := (List.getElem?_eq_some_iff.1 hj).1
    have := h4 j hjl
    simp only [valAt] at this
    rw [this, ← hj]; simp [hjl]
theorem IntsAt.alloc {w : World} {v : Value} {xs : List Int} (h : IntsAt w v xs) (o : Obj) : IntsAt (w.alloc o) v xs := h.below ((Below.refl _ _).alloc (Nat.le_refl _) _)

/-- append([]T{x}, ys...) in a region that draws. -/
theorem step_under {T E : TypeId} {z : Value} {bytes : Nat} (oc : OneCell T E z bytes) {ops : Array Oper} {o : Oper} {a : Act} {w : World} {K : Act → World → Prop} {Q : Exit → Act → World → Prop} {Ep : Prop}
    (hg : o.guard = none) (s x : Operand) (hop : o.op = Op.call { callee := Callee.builtin Builtin.append, args := #[s, x], argTypes := #[T, T] })
    (b : Nat) (x0 : Value) (hs : a.eval s = .slice (some ⟨b, 0, none⟩) 1 1) (hb : w.cell? ⟨b, 0, none⟩ = some x0)
    (u : Value) (ys : List Value) (hx : a.eval x = u) (hu : ValsAt w u ys) (h0 : 0 < ys.length) (hl : ys.length ≤ 1000) (h1 : ∀ u ∈ ys, u.oneCell' = true)
    (hK : ∀ v' w', OwnV E w.heap.size w' v' (x0 :: ys) → Below w.heap.size w w' → K (a.put o.dst v') w') :
    if Region.wanted o (yielded ops a.tmps) = true then Oper.wp Tryd.prog o a w K Q else Ep := by
  obtain ⟨i, hi, hz0, hz1, hz2⟩ := info_parts oc.hi
  rcases hu.split with ⟨_, rfl⟩ | ⟨p, cap, rfl, hc⟩
  · simp at h0
  · have hb' := oc.hb
    refine step_append_grows hg s x T hop E i z 1 bytes oc.ht hi hz0 hz1 hz2 (by rw [oc.hz]; rfl) (by decide) (some ⟨b, 0, none⟩) 1 1 [x0] hs (fun h => by cases h) rfl
      (fun b' hb2 j u hj => by
        obtain rfl := Option.some.inj hb2
        obtain ⟨hj1, hj2⟩ := List.getElem?_eq_some_iff.1 hj
        obtain rfl : j = 0 := by simpa using hj1
        simp at hj2; subst hj2
        exact hb) p ys.length cap ys hx (by simp) hc h1 (by omega) (by unfold maxLen; omega) (by
          calc (1 + ys.length) * bytes ≤ 1001 * 32 := Nat.mul_le_mul (by omega) hb'
            _ ≤ _ := by decide) ?_
    intro v' w' hown hgr
    have hv : OwnV E w.heap.size w' v' (x0 :: ys) := by
      unfold OwnV
      rw [show (x0 :: ys).length = 1 + ys.length by simp; omega]
      exact hown
    exact hK v' w' hv ((Below.refl _ _).grown hgr (Nat.le_refl _) (by intro k hk; cases hk))

end Go.Proofs.YtdldadgnggaopaaDoor

namespace Go.Proofs.YtdldadgnggaopaaDoor
open Go.RowKit
set_option maxRecDepth 100000

theorem ValsAt.shape {w : World} {v : Value} {vs : List Value} (h : ValsAt w v vs) : ∃ a n c, v = .slice a n c := by
  obtain ⟨a, cap, e, _⟩ := h; exact ⟨_, _, _, e⟩
theorem cell_keep {w w' : World} {b i : Nat} {x : Value} (hb : Below w.heap.size w w') (h : w.cell? ⟨b, i, none⟩ = some x) : w'.cell? ⟨b, i, none⟩ = some x :=
  (hb.cell (p := ⟨b, i, none⟩) (World.block_lt_of_cell? _ _ h)).trans h
theorem cell_alloc {w : World} {b i : Nat} {x : Value} (h : w.cell? ⟨b, i, none⟩ = some x) (o : Obj) : (w.alloc o).cell? ⟨b, i, none⟩ = some x := cell_keep ((Below.refl _ _).alloc (Nat.le_refl _) _) h
theorem cell_new {w : World} {b : Nat} {x : Value} {T : TypeId} (hb : b = w.heap.size) : (w.alloc (.cells #[x] T)).cell? ⟨b, 0, none⟩ = some x := by subst hb; simp
theorem cell_drew {w : World} {b i : Nat} {x : Value} (h : w.cell? ⟨b, i, none⟩ = some x) : w.drew.cell? ⟨b, i, none⟩ = some x := h

/-- Three cells of a variable of the call's own. -/
def Box3 (w : World) (b : Nat) (x0 x1 x2 : Value) : Prop := (w.cell? ⟨b, 0, none⟩ = some x0 ∧ w.cell? ⟨b, 1, none⟩ = some x1 ∧ w.cell? ⟨b, 2, none⟩ = some x2) ∧ w.frozen? ⟨b, 0, none⟩ = false ∧ w.frozen? ⟨b, 1, none⟩ = false ∧ w.frozen? ⟨b, 2, none⟩ = false
theorem Box3.below {w w' : World} {b : Nat} {x0 x1 x2 : Value} (h : Box3 w b x0 x1 x2) (hb : Below w.heap.size w w') : Box3 w' b x0 x1 x2 := by
  obtain ⟨⟨h0, h1, h2⟩, f0, f1, f2⟩ := h
  have hlt := World.block_lt_of_cell? _ _ h0
  exact ⟨⟨cell_keep hb h0, cell_keep hb h1, cell_keep hb h2⟩, (hb.frozen (p := ⟨b, 0, none⟩) hlt).trans f0, (hb.frozen (p := ⟨b, 1, none⟩) hlt).trans f1, (hb.frozen (p := ⟨b, 2, none⟩) hlt).trans f2⟩
theorem Box3.alloc {w : World} {b : Nat} {x0 x1 x2 : Value} (h : Box3 w b x0 x1 x2) (o : Obj) : Box3 (w.alloc o) b x0 x1 x2 := h.below ((Below.refl _ _).alloc (Nat.le_refl _) _)
theorem Box3.drew {w : World} {b : Nat} {x0 x1 x2 : Value} (h : Box3 w b x0 x1 x2) : Box3 w.drew b x0 x1 x2 := h
theorem OwnV.drew {E : TypeId} {B : Nat} {w : World} {v : Value} {vs : List Value} (h : OwnV E B w v vs) : OwnV E B w.drew v vs := h
theorem Below.allocL {w w' : World} (h : Below w.heap.size w w') (o : Obj) : Below w.heap.size w (w'.alloc o) := h.alloc h.size o
theorem Below.stepL {w1 w2 w3 : World} (h : Below w1.heap.size w1 w2) (k : Below w2.heap.size w2 w3) : Below w1.heap.size w1 w3 := h.trans (k.mono h.size)
theorem belowAlloc' (w : World) (o : Obj) : Below w.heap.size w (w.alloc o) := (Below.refl _ _).alloc (Nat.le_refl _) _
theorem Below.drewL {w w' : World} {n : Nat} (h : Below n w w') : Below n w w'.drew := h.drew

end Go.Proofs.YtdldadgnggaopaaDoor

namespace Go.Proofs.YtdldadgnggaopaaDoor
open Go.RowKit
set_option maxRecDepth 100000

def sOverlap : ByteArray := ⟨#[111, 118, 101, 114, 108, 97, 112]⟩
/-- rule.Small's answer. -/
def smallP (k R : Int) (T : List Int) : PErr :=
  match checkP k R T with
  | some t => some t
  | none => if 256 < T.length then fresh sRule 0 4 else none
theorem smallP_ok {K R : Nat} {T : List Int} (h : RuleOk K R T) : smallP K R T = if 256 < T.length then fresh sRule 0 4 else none := by
  unfold smallP; rw [h.check]
theorem smallP_none {k R : Int} {T : List Int} (h : smallP k R T = none) : checkP k R T = none ∧ T.length ≤ 256 := by
  unfold smallP at h
  cases hc : checkP k R T with
  | some t => rw [hc] at h; cases h
  | none =>
    rw [hc] at h
    refine ⟨rfl, ?_⟩
    by_cases hl : 256 < T.length
    · rw [if_pos hl] at h; simp [fresh] at h
    · omega

theorem small_any (r : Nat → Addr) (k R : Int) (va : Option Addr) (vn vc : Nat) (T : List Int) (w : World) (hg : Glob r w) (h : IntsAt w (.slice va vn vc) T) :
    Calls Tryd.prog 89 #[.agg #[.int .i64 k, .int .i64 R, .slice va vn vc]] w (Ret1 (fun x w' => ErrIs r w' (smallP k R T) x) w) := by
  have b0 := belowAlloc w (.cells #[.int .i64 k, .int .i64 R, .slice va vn vc] 24)
  have q : Box3 (w.alloc (.cells #[.int .i64 k, .int .i64 R, .slice va vn vc] 24)) w.heap.size (.int .i64 k) (.int .i64 R) (.slice va vn vc) := by simp [Box3, go_sem]
  have lT := h.len
  replace hg := Lib.hid (hg.below b0)
  replace h := Lib.hid (h.below b0)
  obtain ⟨e0, hsm, he0⟩ : ∃ e0, (smallP k R T = match e0 with | some t => some t | none => if 256 < T.length then fresh sRule 0 4 else none) ∧ checkP k R T = e0 := ⟨_, rfl, rfl⟩
  replace he0 := Lib.hid he0
  go_enter Tryd.func89, Tryd.ntmps89
  go_wp2_with fail
  refine (check_any r k R _ T _ hg.out h.out).mono ?_
  rintro e w1 ⟨x, rfl, b1, he⟩
  rw [he0.out] at he
  cases e0 with
  | some t =>
    simp only [] at hsm
    replace hsm := Lib.hid hsm
    obtain ⟨T1, a1, rfl⟩ := ErrIs.some_shape he
    replace he := Lib.hid he
    go_wp2
    go_ret
    exact ⟨_, rfl, Below.step b0 b1, by rw [hsm.out]; exact he.out⟩
  | none =>
    obtain rfl := he.none_eq
    simp only [] at hsm
    clear he
    obtain ⟨⟨z0, z1, z2⟩, -, -, -⟩ := q.below b1
    by_cases hl : 256 < T.length
    · rw [if_pos hl] at hsm
      replace hsm := Lib.hid hsm
      go_wp2_with fail
      refine (rule_wrong r _ _ _ (hg.out.below b1) (by decide) (by decide)).mono ?_
      rintro e w2 ⟨x, rfl, b2, he⟩
      go_wp2
      go_ret
      exact ⟨_, rfl, Below.step b0 (Below.step b1 b2), by rw [hsm.out]; exact he⟩
    · rw [if_neg hl] at hsm
      replace hsm := Lib.hid hsm
      go_wp2
      go_ret
      exact ⟨_, rfl, Below.step b0 b1, by rw [hsm.out]; rfl⟩

theorem over_small (r : Nat → Addr) (k R : Int) (va : Option Addr) (vn vc : Nat) (T : List Int) (w : World) (hg : Glob r w) (h : IntsAt w (.slice va vn vc) T) :
    Calls Tryd.prog 108 #[.agg #[.int .i64 k, .int .i64 R, .slice va vn vc]] w (Ret1 (fun x w' => ErrIs r w' (under sOverlap 0 (smallP k R T)) x) w) := by
  have b0 := belowAlloc w (.cells #[.int .i64 k, .int .i64 R, .slice va vn vc] 24)
  replace hg := Lib.hid (hg.below b0)
  replace h := Lib.hid (h.below b0)
  go_enter Tryd.func108, Tryd.ntmps108
  go_wp2_with fail
  refine (small_any r k R va vn vc T _ hg.out h.out).mono ?_
  rintro e w1 ⟨x, rfl, b1, he⟩
  go_wp2_with fail
  refine (under_any r _ 0 _ x _ he).mono ?_
  rintro e w2 ⟨y, rfl, b2, hy⟩
  go_wp2
  go_ret
  exact ⟨_, rfl, Below.step b0 (Below.step b1 b2), hy⟩

theorem over_wrong (r : Nat → Addr) (at_ n : Int) (w : World) (hg : Glob r w) (h1 : 1 ≤ n) (h2 : n ≤ 11) :
    Calls Tryd.prog 131 #[.int .i64 at_, .int .i64 n] w (Ret1 (fun v w' => ErrIs r w' (fresh sOverlap at_ n) v) w) := by
  go_enter Tryd.func131, Tryd.ntmps131
  go_wp2_with fail
  refine (new_any r _ at_ n w hg h1 h2).mono ?_
  rintro e w' ⟨v, rfl, hb, he⟩
  go_wp2
  go_ret
  exact ⟨_, rfl, hb, he⟩

theorem over_nodes (K R : Nat) (va : Option Addr) (vn vc : Nat) (T : List Int) (w : World) (h : IntsAt w (.slice va vn vc) T) (h1 : 1 ≤ K) (hT : T.length ≤ 16384) :
    Calls Tryd.prog 109 #[.agg #[.int .i64 K, .int .i64 R, .slice va vn vc]] w fun e w' => e = .returned (.int .i64 ((T.length / K : Nat) : Int)) ∧ w' = w.alloc (.cells #[.int .i64 K, .int .i64 R, .slice va vn vc] 24) := by
  have hK0 : ((K : Int) == 0) = false := by rw [beq_eq_false_iff_ne]; omega
  have hK1 : ¬ (K : Int) = 0 := by omega
  have hK2 : (0 : Int) < K := by omega
  have hK3 : ¬ K = 0 := by omega
  have lT := h.len
  have hq0 : 0 ≤ (T.length : Int) / (K : Int) := Int.ediv_nonneg (by omega) (by omega)
  have hqc : (T.length : Int) / (K : Int) = ((T.length / K : Nat) : Int) := by simp
  have hqw : IntKind.i64.wrap ((T.length : Int) / (K : Int)) = (T.length : Int) / (K : Int) := by
    have : T.length / K ≤ 16384 := Nat.le_trans (Nat.div_le_self _ _) hT
    exact wrapK (by omega) (by rw [hqc]; omega)
  rw [← hqc]
  replace hqc := Lib.hid hqc
  go_enter Tryd.func109, Tryd.ntmps109
  go_wp2
  go_ret
  exact ⟨rfl, rfl⟩

theorem over_check1 (x k : Int) (b : Nat) (w : World) (hb : w.cell? ⟨b, 0, none⟩ = some (.int .i64 k)) :
    Calls Tryd.prog 149 #[.int .i64 x, .pointer (some ⟨b, 0, none⟩)] w fun e w' => e = .returned (.bool (odd1 k x)) ∧ w = w' := by
  by_cases h : x < 0
  · have e : odd1 k x = true := by simp [odd1, h]
    rw [e]
    go_enter Tryd.func149, Tryd.ntmps149
    go_wp2
    go_ret
    exact ⟨rfl, rfl⟩
  · have e : odd1 k x = decide (k ≤ x) := by simp [odd1, h]
    rw [e]
    go_enter Tryd.func149, Tryd.ntmps149
    go_wp2
    go_ret
    exact ⟨ret_bool (by simp), rfl⟩
theorem eg_over_check1 (args : Array Value) (w : World) : (callFunc 149 args).run Tryd.prog w = .ok (.enter 149 args) w := by kernel_rfl

/-- overlap.check's answer. -/
def overP (k R : Int) (T ws : List Int) (most : Int) : PErr :=
  match smallP k R T with
  | some t => under sOverlap 0 (some t)
  | none => if most < ws.length then fresh sOverlap 1 4 else if idxOf (odd1 k) ws = -1 then none else fresh sOverlap (idxOf (odd1 k) ws) 2

set_option maxHeartbeats 1000000 in
theorem over_check (r : Nat → Addr) (k R : Int) (va : Option Addr) (vn vc : Nat) (T : List Int) (u : Value) (ws : List Int) (most : Int) (w : World) (hg : Glob r w) (h : IntsAt w (.slice va vn vc) T) (hu : IntsAt w u ws) :
    Calls Tryd.prog 130 #[.agg #[.int .i64 k, .int .i64 R, .slice va vn vc], u, .int .i64 most] w (Ret1 (fun x w' => ErrIs r w' (overP k R T ws most) x) w) := by
  have b0 := belowAlloc w (.cells #[.int .i64 k, .int .i64 R, .slice va vn vc] 24)
  have q : Box3 (w.alloc (.cells #[.int .i64 k, .int .i64 R, .slice va vn vc] 24)) w.heap.size (.int .i64 k) (.int .i64 R) (.slice va vn vc) := by simp [Box3, go_sem]
  have l1 := hu.len
  have lm := hu.len_le
  obtain ⟨a1, n1, c1, rfl⟩ := hu.shape
  replace hg := Lib.hid (hg.below b0)
  replace h := Lib.hid (h.below b0)
  replace hu := Lib.hid (hu.below b0)
  obtain ⟨e0, hsm, he0⟩ : ∃ e0, (overP k R T ws most = match e0 with | some t => under sOverlap 0 (some t) | none => if most < ws.length then fresh sOverlap 1 4 else if idxOf (odd1 k) ws = -1 then none else fresh sOverlap (idxOf (odd1 k) ws) 2) ∧ smallP k R T = e0 := ⟨_, rfl, rfl⟩
  replace he0 := Lib.hid he0
  go_enter Tryd.func130, Tryd.ntmps130
  go_wp2_with fail
  refine (over_small r k R va vn vc T _ hg.out h.out).mono ?_
  rintro e w1 ⟨x, rfl, b1, he⟩
  rw [he0.out] at he
  cases e0 with
  | some t =>
    simp only [] at hsm
    replace hsm := Lib.hid hsm
    obtain ⟨T1, a1, rfl⟩ := ErrIs.some_shape he
    replace he := Lib.hid he
    go_wp2
    go_ret
    exact ⟨_, rfl, Below.step b0 b1, by rw [hsm.out]; exact he.out⟩
  | none =>
    obtain rfl := he.none_eq
    simp only [] at hsm
    clear he
    obtain ⟨⟨z0, z1, z2⟩, -, -, -⟩ := q.below b1
    by_cases hl : most < ws.length
    · rw [if_pos hl] at hsm
      replace hsm := Lib.hid hsm
      go_wp2_with fail
      refine (over_wrong r _ _ _ (hg.out.below b1) (by decide) (by decide)).mono ?_
      rintro e w2 ⟨x, rfl, b2, he⟩
      go_wp2
      go_ret
      exact ⟨_, rfl, Below.step b0 (Below.step b1 b2), by rw [hsm.out]; exact he⟩
    · rw [if_neg hl] at hsm
      rcases idxOf_cases (odd1 k) ws with ⟨hi, _⟩ | ⟨i, hi, hi', _⟩
      · rw [if_pos hi] at hsm
        replace hi := Lib.hid hi
        replace hsm := Lib.hid hsm
        go_wp2_with fail
        refine (indexFunc_any _ _ 149 ws (odd1 k) _ (hu.out.below b1) eg_over_check1 (fun x _ => over_check1 x k _ _ z0)).mono ?_
        rintro e w2 ⟨rfl, rfl⟩
        rw [hi.out]
        go_wp2
        go_ret
        exact ⟨_, rfl, Below.step b0 b1, by rw [hsm.out]; rfl⟩
      · rw [if_neg (by omega), hi] at hsm
        replace hi := Lib.hid hi
        replace hsm := Lib.hid hsm
        go_wp2_with fail
        refine (indexFunc_any _ _ 149 ws (odd1 k) _ (hu.out.below b1) eg_over_check1 (fun x _ => over_check1 x k _ _ z0)).mono ?_
        rintro e w2 ⟨rfl, rfl⟩
        rw [hi.out]
        go_wp2_with fail
        refine (over_wrong r _ _ _ (hg.out.below b1) (by decide) (by decide)).mono ?_
        rintro e w2 ⟨x, rfl, b2, he⟩
        go_wp2
        go_ret
        exact ⟨_, rfl, Below.step b0 (Below.step b1 b2), by rw [hsm.out]; exact he⟩
end Go.Proofs.YtdldadgnggaopaaDoor

namespace Go.Proofs.YtdldadgnggaopaaDoor
open Go.RowKit
set_option maxRecDepth 100000

theorem EOwn.shape {B : Nat} {w : World} {t : PErr} {v : Value} (h : EOwn B w t v) : ∃ n a1 n1 c1 a2 n2 c2, v = .agg #[.int .i64 n, .slice a1 n1 c1, .slice a2 n2 c2] := h.at.shape

/-- Two boxes of three cells: they stay. -/
theorem cells6 {w w1 : World} {x0 x1 x2 x3 x4 x5 : Value} {T1 T2 : TypeId} (hb : Below ((w.alloc (.cells #[x0, x1, x2] T1)).alloc (.cells #[x3, x4, x5] T2)).heap.size ((w.alloc (.cells #[x0, x1, x2] T1)).alloc (.cells #[x3, x4, x5] T2)) w1) :
    (w1.cell? ⟨w.heap.size, 0, none⟩ = some x0 ∧ w1.cell? ⟨w.heap.size, 1, none⟩ = some x1 ∧ w1.cell? ⟨w.heap.size, 2, none⟩ = some x2) ∧
    (w1.cell? ⟨w.heap.size + 1, 0, none⟩ = some x3 ∧ w1.cell? ⟨w.heap.size + 1, 1, none⟩ = some x4 ∧ w1.cell? ⟨w.heap.size + 1, 2, none⟩ = some x5) ∧
    (w1.frozen? ⟨w.heap.size + 1, 0, none⟩ = false ∧ w1.frozen? ⟨w.heap.size + 1, 1, none⟩ = false ∧ w1.frozen? ⟨w.heap.size + 1, 2, none⟩ = false) := by
  refine ⟨keep3 (n := w.heap.size) hb ⟨by simp [go_sem], by simp [go_sem], by simp [go_sem]⟩, ?_⟩
  have := cells3 hb
  rw [show (w.alloc (.cells #[x0, x1, x2] T1)).heap.size = w.heap.size + 1 by simp] at this
  exact ⟨⟨this.1, this.2.1, this.2.2.1⟩, this.2.2.2⟩

theorem undraw {w w1 : World} {n : Nat} (h : Below (w.drewN n).heap.size (w.drewN n) w1) : Below w.heap.size w w1 := (below_drewN (Below.refl w.heap.size w) n).trans h

theorem below_set3 {B b : Nat} {w0 w : World} (h : Below B w0 w) (hb : B ≤ b) (x y z : Value) : Below B w0 (((w.setCell ⟨b, 0, none⟩ x).setCell ⟨b, 1, none⟩ y).setCell ⟨b, 2, none⟩ z) :=
  ((h.setCell (p := ⟨b, 0, none⟩) hb x).setCell (p := ⟨b, 1, none⟩) hb y).setCell (p := ⟨b, 2, none⟩) hb z

end Go.Proofs.YtdldadgnggaopaaDoor

namespace Go.Proofs.YtdldadgnggaopaaDoor
open Go.RowKit
set_option maxRecDepth 100000

theorem mul3 {x s : Int} (hx : 0 ≤ x ∧ x < 4) (hs : 0 ≤ s ∧ s < 4) : 0 ≤ x * s ∧ x * s ≤ 9 := by
  obtain ⟨h1, h2⟩ := hx
  obtain ⟨h3, h4⟩ := hs
  have a : x = 0 ∨ x = 1 ∨ x = 2 ∨ x = 3 := by omega
  rcases a with rfl | rfl | rfl | rfl <;> omega

/-- The zero rule's value. -/
abbrev zRule : Value := .agg #[.int .i64 0, .int .i64 0, .slice none 0 0]

end Go.Proofs.YtdldadgnggaopaaDoor

namespace Go.Proofs.YtdldadgnggaopaaDoor
open Go.RowKit
set_option maxRecDepth 100000

end Go.Proofs.YtdldadgnggaopaaDoor

namespace Go.Proofs.YtdldadgnggaopaaDoor
open Go.RowKit Go.Extern.Stop Go.Stop Go.Extern
set_option maxRecDepth 100000
namespace Errs

theorem typeOfE (v : Value) (w : World) : (ReflectliteType.typeOf #[.iface 208 v]).run Tryd.prog w = .ok (.iface 183 (.agg #[.pointer (some ⟨13, 208, none⟩)])) w := by kernel_rfl
theorem comparableE (w : World) : ((ReflectliteType.method fun t => do Rtype.noPackHeld "Comparable" t; (fun a => Value.bool a.comparable) <$> typeInfo t) #[.agg #[.pointer (some ⟨13, 208, none⟩)]]).run Tryd.prog w = .ok (.bool true) w := by kernel_rfl
theorem methodComparable (v : Value) (w : World) : (Go.method 341 183 v "Comparable").run Tryd.prog w = .ok (181, v) w := by kernel_rfl
theorem compE : (Tryd.prog.info? 208).map (·.comparable) = some true := by kernel_rfl
theorem sizeE : (Tryd.prog.info? 229).map (·.size) = some 1 := by kernel_rfl
theorem uErr : Tryd.prog.underlying 27 = some (.interface #[("Error", 209)]) := by kernel_rfl
theorem uES : Tryd.prog.underlying 208 = some (.pointer 229) := by kernel_rfl
theorem uIs : Tryd.prog.underlying 185 = some (.interface #[("Is", 187)]) := by kernel_rfl
theorem uUnw : Tryd.prog.underlying 188 = some (.interface #[("Unwrap", 189)]) := by kernel_rfl
theorem noIsF (v : Value) (xT : TypeId) (w : World) : (Instr.typeAssert (.iface 104 v) xT 185 true).run Tryd.prog w = .ok (.tuple #[.nilIface, .bool false]) w := run_typeAssert_lacksB uIs (by kernel_rfl) (by kernel_rfl) v xT w
theorem hasUnwrapF (v : Value) (xT : TypeId) (w : World) : (Instr.typeAssert (.iface 104 v) xT 188 true).run Tryd.prog w = .ok (.tuple #[.iface 104 v, .bool true]) w := run_typeAssert_hasB uUnw (by kernel_rfl) v xT w
theorem methodUnwrap (v : Value) (w : World) : (Go.method 341 104 v "Unwrap").run Tryd.prog w = .ok (175, v) w := by kernel_rfl

theorem unwrap_any (p : Nat) (u : Value) (w : World) (h : w.cell? ⟨p, 2, none⟩ = some u) :
    Calls Tryd.prog 175 #[.pointer (some ⟨p, 0, none⟩)] w fun e w' => e = .returned u ∧ w = w' := by
  go_enter Tryd.func175, Tryd.ntmps175
  go_wp2
  go_ret
  exact ⟨rfl, rfl⟩

set_option maxHeartbeats 800000 in
theorem is_loop (r : Nat → Addr) (n : Int) (l : List (ByteArray × Int)) (v : Value) (w : World) (h : ErrAt r w n l v) :
    Calls Tryd.prog 116 #[v, rootV r n, .bool true] w fun e w' => e = .returned (.bool true) ∧ w = w' := by
  obtain ⟨i, hi, hcmp⟩ := Option.map_eq_some_iff.1 compE
  obtain ⟨j, hj, hjs⟩ := Option.map_eq_some_iff.1 sizeE
  have heq := run_eql_iface_ptr_same (P := Tryd.prog) w (r n.toNat) uErr uES hi hcmp hj
  have nF := noIsF
  have uF := hasUnwrapF
  have mU := methodUnwrap
  clear hi hcmp hj hjs
  replace h := Lib.hid h
  go_enter Tryd.func116, Tryd.ntmps116
  go_wp2
  go_loopg [0] l.length (fun k u wr => wr = w ∧ ∃ l', l'.length = k ∧ ErrAt r w n l' u)
  case atStart => exact ⟨rfl, l, rfl, h.out⟩
  case round =>
    obtain ⟨rfl, l', hl', hu⟩ := hrel
    match l', hl', hu with
    | [], hl', hu =>
      obtain rfl : _ = rootV r n := hu
      clear hl'
      go_wp2
      go_ret
      exact ⟨rfl, rfl⟩
    | (op, at_) :: rest, hl', hu =>
      obtain ⟨p, u', rfl, c0, c1, c2, hrest⟩ := hu
      obtain ⟨T, a, rfl⟩ := hrest.shape
      have hty := run_eql_iface_types (P := Tryd.prog) 104 208 (.pointer (some ⟨p, 0, none⟩)) (.pointer (some (r n.toNat))) uErr (by decide) wr
      replace hrest := Lib.hid hrest
      replace hl' := Lib.hid hl'
      go_wp2_with (go_at_call 175; refine (unwrap_any p _ _ c2).mono ?_; rintro e w' ⟨rfl, rfl⟩)
      go_roundg rest.length
      case measure => have := hl'.out; simp at this; omega
      case rel => exact ⟨rfl, rest, rfl, hrest.out⟩

/-- errors.Is at a chain of Faults and the error that it ends in. -/
theorem is_any (r : Nat → Addr) (n : Int) (l : List (ByteArray × Int)) (v : Value) (w : World) (h : ErrAt r w n l v) :
    Calls Tryd.prog 64 #[v, rootV r n] w fun e w' => e = .returned (.bool true) ∧ w = w' := by
  have h8 := @run_callFunc_extern Tryd.prog 115 _ Extern.ReflectliteType.typeOf Tryd.func115 (by kernel_rfl) (by kernel_rfl) (by kernel_rfl) (by kernel_rfl)
  have h32 := @run_callFunc_extern Tryd.prog 181 _ (Extern.ReflectliteType.method fun t => do Extern.Rtype.noPackHeld "Comparable" t; pure (.bool (← typeInfo t).comparable)) Tryd.func181 (by kernel_rfl) (by kernel_rfl) (by kernel_rfl) (by kernel_rfl)
  have tT := typeOfE
  have cT := comparableE
  have mR := methodComparable
  obtain ⟨T, a, rfl⟩ := h.shape
  replace h := Lib.hid h
  go_enter Tryd.func64, Tryd.ntmps64
  go_wp2_with fail
  refine (is_loop r n l _ _ h.out).mono ?_
  rintro e w' ⟨rfl, rfl⟩
  go_wp2
  go_ret
  exact ⟨rfl, rfl⟩
end Errs
end Go.Proofs.YtdldadgnggaopaaDoor

namespace Go.Proofs.YtdldadgnggaopaaDoor
open Go.RowKit Go.Extern.Stop Go.Stop Go.Extern
set_option maxRecDepth 100000
namespace Errs

/-! errors.As at a Fault: the target a *api.Fault variable. -/
theorem uF : Tryd.prog.underlying 104 = some (.pointer 108) := by kernel_rfl
theorem uFF : Tryd.prog.underlying 106 = some (.pointer 104) := by kernel_rfl
theorem valueOfFF (t : Addr) (w : World) : (ReflectliteValue.unpack (.iface 106 (.pointer (some t)))).run Tryd.prog w
    = .ok (.agg #[.pointer (some ⟨13, 106, none⟩), .pointer (some ⟨w.heap.size, 0, none⟩), .int .u64 150]) (w.alloc (.cells #[.pointer (some t)] 106)) := by kernel_rfl
theorem typeFF (a : Addr) (w : World) : (ReflectliteValue.methodAny (ReflectliteValue.valueError "reflectlite.Value.Type" 0) (fun t _ _ _ => ReflectliteType.toType t) #[.agg #[.pointer (some ⟨13, 106, none⟩), .pointer (some a), .int .u64 150]]).run Tryd.prog w
    = .ok (.iface 183 (.agg #[.pointer (some ⟨13, 106, none⟩)])) w := by kernel_rfl
theorem methodKind (h : Value) (w : World) : (Go.method 341 183 (.agg #[h]) "Kind").run Tryd.prog w = .ok (171, h) w := by kernel_rfl
theorem kindFF (w : World) : ((ReflectliteType.abiMethod fun t => (fun a : Nat => Value.int IntKind.u8 (a : Int)) <$> Rtype.kind t) #[.pointer (some ⟨13, 106, none⟩)]).run Tryd.prog w = .ok (.int .u8 22) w := by kernel_rfl
theorem kindF (w : World) : ((ReflectliteType.abiMethod fun t => (fun a : Nat => Value.int IntKind.u8 (a : Int)) <$> Rtype.kind t) #[.pointer (some ⟨13, 104, none⟩)]).run Tryd.prog w = .ok (.int .u8 22) w := by kernel_rfl
theorem rlm (z : Sem Value) (f : TypeId → Addr → Nat → Nat → Sem Value) (v : Value) :
    ReflectliteValue.method z f #[v] = (do match ← ReflectliteValue.parts v with | none => z | some (t, a, fl) => f t a fl (fl % 32)) := rfl
theorem partsFF (a : Addr) (w : World) : (ReflectliteValue.parts (.agg #[.pointer (some ⟨13, 106, none⟩), .pointer (some a), .int .u64 150])).run Tryd.prog w = .ok (some (106, a, 150)) w := by kernel_rfl
theorem isNilFF (a p : Addr) (W : World) (ha : W.cell? a = some (.pointer (some p))) :
    (ReflectliteValue.method (ReflectliteValue.valueError "reflectlite.Value.IsNil" 0) ReflectliteValue.isNil #[.agg #[.pointer (some ⟨13, 106, none⟩), .pointer (some a), .int .u64 150]]).run Tryd.prog W = .ok (.bool false) W := by
  rw [rlm]
  simp only [Sem.run_bind, partsFF, Result.andThen]
  simp [ReflectliteValue.isNil, loadVar, isAgg, underlying, ha, Result.andThen]
theorem methodElem (h : Value) (w : World) : (Go.method 341 183 (.agg #[h]) "Elem").run Tryd.prog w = .ok (182, .agg #[h]) w := by kernel_rfl
theorem methodImplements (h : Value) (w : World) : (Go.method 341 183 (.agg #[h]) "Implements").run Tryd.prog w = .ok (183, .agg #[h]) w := by kernel_rfl
theorem methodAssignableTo (h : Value) (w : World) : (Go.method 341 183 (.agg #[h]) "AssignableTo").run Tryd.prog w = .ok (180, .agg #[h]) w := by kernel_rfl
theorem elemFF (w : World) : (ReflectliteType.method ReflectliteType.elem #[.agg #[.pointer (some ⟨13, 106, none⟩)]]).run Tryd.prog w = .ok (.iface 183 (.agg #[.pointer (some ⟨13, 104, none⟩)])) w := by kernel_rfl
theorem implementsF (w : World) : (ReflectliteType.relation "Implements" ReflectliteType.implements_ #[.agg #[.pointer (some ⟨13, 104, none⟩)], .iface 183 (.agg #[.pointer (some ⟨13, 27, none⟩)])]).run Tryd.prog w = .ok (.bool true) w := by kernel_rfl
theorem typeOfF (v : Value) (w : World) : (ReflectliteType.typeOf #[.iface 104 v]).run Tryd.prog w = .ok (.iface 183 (.agg #[.pointer (some ⟨13, 104, none⟩)])) w := by kernel_rfl
theorem assignableF (w : World) : (ReflectliteType.relation "AssignableTo" ReflectliteType.assignableTo #[.agg #[.pointer (some ⟨13, 104, none⟩)], .iface 183 (.agg #[.pointer (some ⟨13, 104, none⟩)])]).run Tryd.prog w = .ok (.bool true) w := by kernel_rfl
theorem valueOfF (e : Addr) (w : World) : (ReflectliteValue.unpack (.iface 104 (.pointer (some e)))).run Tryd.prog w
    = .ok (.agg #[.pointer (some ⟨13, 104, none⟩), .pointer (some ⟨w.heap.size, 0, none⟩), .int .u64 150]) (w.alloc (.cells #[.pointer (some e)] 104)) := by kernel_rfl
theorem elemOfFF (w : World) : (Rtype.elem? 106).run Tryd.prog w = .ok (some 104) w := by kernel_rfl
theorem mkF (p : Addr) (w : World) : (ReflectliteValue.mk 104 p ReflectliteValue.flagAddr).run Tryd.prog w = .ok (.agg #[.pointer (some ⟨13, 104, none⟩), .pointer (some p), .int .u64 406]) w := by kernel_rfl
theorem elemVFF (a p : Addr) (W : World) (ha : W.cell? a = some (.pointer (some p))) :
    (ReflectliteValue.method (ReflectliteValue.valueError "reflectlite.Value.Elem" 0) ReflectliteValue.elem #[.agg #[.pointer (some ⟨13, 106, none⟩), .pointer (some a), .int .u64 150]]).run Tryd.prog W
      = .ok (.agg #[.pointer (some ⟨13, 104, none⟩), .pointer (some p), .int .u64 406]) W := by
  rw [rlm]
  simp only [Sem.run_bind, partsFF, Result.andThen]
  simp [ReflectliteValue.elem, loadVar, isAgg, underlying, ha, Result.andThen, elemOfFF, mkF]
theorem rls (v x : Value) : ReflectliteValue.set #[v, x] = (do
    let (some (dst, a, fl), some (src, b, _)) := (← ReflectliteValue.parts v, ← ReflectliteValue.parts x)
      | unsupported (.noEntry "extern/(internal/reflectlite.Value).Set.zeroValue")
    if fl / ReflectliteValue.flagAddr % 2 == 0 then unsupported (.noEntry "extern/(internal/reflectlite.Value).Set.unaddressable")
    let val ← loadVar src b
    if ← Rtype.directlyAssignable dst src then storeVar dst a val
    else if ← Rtype.implements dst src then
      if (← Rtype.kind src) == 20 then
        match val with
        | .nilIface => unsupported (.noEntry "extern/reflectlite: a nil value of one interface type handed on as a value of another")
        | _ => storeVar dst a val
      else storeVar dst a (.iface src val)
    else panicString ("reflectlite.Set: value of type " ++ (← Rtype.spelt src) ++ " is not assignable to type " ++ (← Rtype.spelt dst))
    pure (.tuple #[])) := rfl
theorem partsFa (a : Addr) (w : World) : (ReflectliteValue.parts (.agg #[.pointer (some ⟨13, 104, none⟩), .pointer (some a), .int .u64 406])).run Tryd.prog w = .ok (some (104, a, 406)) w := by kernel_rfl
theorem partsF (a : Addr) (w : World) : (ReflectliteValue.parts (.agg #[.pointer (some ⟨13, 104, none⟩), .pointer (some a), .int .u64 150])).run Tryd.prog w = .ok (some (104, a, 150)) w := by kernel_rfl
theorem directF (w : World) : (Rtype.directlyAssignable 104 104).run Tryd.prog w = .ok true w := by kernel_rfl
theorem setF (ta b e : Addr) (old : Value) (W : World) (hb : W.cell? b = some (.pointer (some e))) (ht : W.cell? ta = some old) (hf : W.frozen? ta = false) :
    (ReflectliteValue.set #[.agg #[.pointer (some ⟨13, 104, none⟩), .pointer (some ta), .int .u64 406], .agg #[.pointer (some ⟨13, 104, none⟩), .pointer (some b), .int .u64 150]]).run Tryd.prog W
      = .ok (.tuple #[]) (W.setCell ta (.pointer (some e))) := by
  rw [rls]
  simp only [Sem.run_bind, partsFa, partsF, Result.andThen]
  simp [ReflectliteValue.flagAddr, loadVar, isAgg, underlying, hb, Result.andThen, directF, storeVar, Value.cells, storeCells, Addr.add]
  rw [run_store Tryd.prog W ta _ _ (by rfl)]
  simp [ht, hf]

end Errs
end Go.Proofs.YtdldadgnggaopaaDoor

namespace Go.Proofs.YtdldadgnggaopaaDoor
open Go.RowKit Go.Extern.Stop Go.Stop Go.Extern
set_option maxRecDepth 100000
namespace Errs
set_option maxHeartbeats 4000000 in
theorem as_hit (e t : Addr) (old : Value) (w : World) (hg : w.cell? ⟨12, 0, none⟩ = some (.iface 183 (.agg #[.pointer (some ⟨13, 27, none⟩)]))) (ht0 : w.cell? t = some old) (hf0 : w.frozen? t = false) :
    Calls Tryd.prog 66 #[.iface 104 (.pointer (some e)), .iface 106 (.pointer (some t))] w fun ev w' => ev = .returned (.bool true) ∧ w' = ((((w.alloc (.cells #[.pointer (some t)] 106)).alloc (.cells #[.pointer (some ⟨13, 106, none⟩), .pointer (some ⟨w.heap.size, 0, none⟩), .int .u64 150] 155)).alloc (.cells #[.pointer (some ⟨13, 106, none⟩), .pointer (some ⟨w.heap.size, 0, none⟩), .int .u64 150] 155)).alloc (.cells #[.pointer (some e)] 104)).setCell t (.pointer (some e)) := by
  have h6 := @run_callFunc_extern Tryd.prog 117 _ (fun args => ReflectliteValue.unpack (args.getD 0 (.tuple #[]))) Tryd.func117 (by kernel_rfl) (by kernel_rfl) (by kernel_rfl) (by kernel_rfl)
  have h7 := @run_callFunc_extern Tryd.prog 118 _ (ReflectliteValue.methodAny (ReflectliteValue.valueError "reflectlite.Value.Type" 0) (fun t _ _ _ => ReflectliteType.toType t)) Tryd.func118 (by kernel_rfl) (by kernel_rfl) (by kernel_rfl) (by kernel_rfl)
  have h8 := @run_callFunc_extern Tryd.prog 119 _ (ReflectliteValue.method (ReflectliteValue.valueError "reflectlite.Value.IsNil" 0) ReflectliteValue.isNil) Tryd.func119 (by kernel_rfl) (by kernel_rfl) (by kernel_rfl) (by kernel_rfl)
  have h27 := @run_callFunc_extern Tryd.prog 171 _ (ReflectliteType.abiMethod fun t => do pure (.int .u8 (← Rtype.kind t))) Tryd.func171 (by kernel_rfl) (by kernel_rfl) (by kernel_rfl) (by kernel_rfl)
  have h37 := @run_callFunc_extern Tryd.prog 182 _ (ReflectliteType.method ReflectliteType.elem) Tryd.func182 (by kernel_rfl) (by kernel_rfl) (by kernel_rfl) (by kernel_rfl)
  have h38 := @run_callFunc_extern Tryd.prog 183 _ (ReflectliteType.relation "Implements" ReflectliteType.implements_) Tryd.func183 (by kernel_rfl) (by kernel_rfl) (by kernel_rfl) (by kernel_rfl)
  have h10 := @run_callFunc_extern Tryd.prog 115 _ ReflectliteType.typeOf Tryd.func115 (by kernel_rfl) (by kernel_rfl) (by kernel_rfl) (by kernel_rfl)
  have h35 := @run_callFunc_extern Tryd.prog 180 _ (ReflectliteType.relation "AssignableTo" ReflectliteType.assignableTo) Tryd.func180 (by kernel_rfl) (by kernel_rfl) (by kernel_rfl) (by kernel_rfl)
  have h11 := @run_callFunc_extern Tryd.prog 146 _ (ReflectliteValue.method (ReflectliteValue.valueError "reflectlite.Value.Elem" 0) ReflectliteValue.elem) Tryd.func146 (by kernel_rfl) (by kernel_rfl) (by kernel_rfl) (by kernel_rfl)
  have h12 := @run_callFunc_extern Tryd.prog 147 _ ReflectliteValue.set Tryd.func147 (by kernel_rfl) (by kernel_rfl) (by kernel_rfl) (by kernel_rfl)
  have tO := typeOfF
  have mA := methodAssignableTo
  have aF := assignableF
  have vF := valueOfF
  have f6 := valueOfFF
  have f7 := typeFF
  have mK := methodKind
  have mE := methodElem
  have mI := methodImplements
  have kFF := kindFF
  have kF := kindF
  have eFF := elemFF
  have iF := implementsF
  have n8 := isNilFF ⟨w.heap.size, 0, none⟩ t ((w.alloc (.cells #[.pointer (some t)] 106)).alloc (.cells #[.pointer (some ⟨13, 106, none⟩), .pointer (some ⟨w.heap.size, 0, none⟩), .int .u64 150] 155)) (by simp)
  have hlt : 12 < w.heap.size := World.block_lt_of_cell? _ _ hg
  have hg2 : ((w.alloc (.cells #[.pointer (some t)] 106)).alloc (.cells #[.pointer (some ⟨13, 106, none⟩), .pointer (some ⟨w.heap.size, 0, none⟩), .int .u64 150] 155)).cell? ⟨12, 0, none⟩ = some (.iface 183 (.agg #[.pointer (some ⟨13, 27, none⟩)])) := by
    rw [World.cell?_alloc_lt _ _ ⟨12, 0, none⟩ (by simp; omega), World.cell?_alloc_lt _ _ ⟨12, 0, none⟩ hlt]; exact hg
  have htl : t.block < w.heap.size := World.block_lt_of_cell? _ _ ht0
  have el := elemVFF ⟨w.heap.size, 0, none⟩ t (((w.alloc (.cells #[.pointer (some t)] 106)).alloc (.cells #[.pointer (some ⟨13, 106, none⟩), .pointer (some ⟨w.heap.size, 0, none⟩), .int .u64 150] 155)).alloc (.cells #[.pointer (some ⟨13, 106, none⟩), .pointer (some ⟨w.heap.size, 0, none⟩), .int .u64 150] 155)) (by rw [World.cell?_alloc_lt _ _ ⟨w.heap.size, 0, none⟩ (by simp; omega)]; simp)
  have st := setF t ⟨w.heap.size + 1 + 1 + 1, 0, none⟩ e old ((((w.alloc (.cells #[.pointer (some t)] 106)).alloc (.cells #[.pointer (some ⟨13, 106, none⟩), .pointer (some ⟨w.heap.size, 0, none⟩), .int .u64 150] 155)).alloc (.cells #[.pointer (some ⟨13, 106, none⟩), .pointer (some ⟨w.heap.size, 0, none⟩), .int .u64 150] 155)).alloc (.cells #[.pointer (some e)] 104))
    (by rw [World.cell?_alloc_at _ _ _ _ (by simp)]; rfl)
    (by rw [World.cell?_alloc_lt _ _ t (by simp; omega), World.cell?_alloc_lt _ _ t (by simp; omega), World.cell?_alloc_lt _ _ t (by simp; omega), World.cell?_alloc_lt _ _ t htl]; exact ht0)
    (by rw [World.frozen?_alloc_old _ _ t (by simp; omega), World.frozen?_alloc_old _ _ t (by simp; omega), World.frozen?_alloc_old _ _ t (by simp; omega), World.frozen?_alloc_old _ _ t (Nat.ne_of_lt htl)]; exact hf0)
  go_enter Tryd.func66, Tryd.ntmps66
  go_wp2
  refine wp_loop_rounds 1 ?_
  rw [rounds_succ]
  go_wp2
  go_ret
  exact ⟨rfl, rfl⟩

/-- errors.As at a Fault and a variable of the call's own: the variable holds the Fault; nothing else that was there has changed. -/
theorem as_any (e t : Addr) (old : Value) (w : World) (hg : w.cell? ⟨12, 0, none⟩ = some (.iface 183 (.agg #[.pointer (some ⟨13, 27, none⟩)]))) (ht0 : w.cell? t = some old) (hf0 : w.frozen? t = false) :
    Calls Tryd.prog 66 #[.iface 104 (.pointer (some e)), .iface 106 (.pointer (some t))] w fun ev w' => ev = .returned (.bool true) ∧ ∃ w1, Below w.heap.size w w1 ∧ w' = w1.setCell t (.pointer (some e)) :=
  (as_hit e t old w hg ht0 hf0).mono fun _ _ ⟨h1, h2⟩ => ⟨h1, _, ((((Below.refl _ _).alloc (Nat.le_refl _) _).alloc (by simp) _).alloc (by simp; omega) _).alloc (by simp; omega) _, h2⟩
end Errs
end Go.Proofs.YtdldadgnggaopaaDoor

namespace Go.Proofs.YtdldadgnggaopaaDoor
open Go.RowKit
set_option maxRecDepth 100000

/-- errors.errorType holds the handle of the type error. -/
def GlobE (w : World) : Prop := w.cell? ⟨12, 0, none⟩ = some (.iface 183 (.agg #[.pointer (some ⟨13, 27, none⟩)]))
theorem GlobE.below {w w' : World} (h : GlobE w) (hb : Below w.heap.size w w') : GlobE w' := cell_keep hb h

/-- An error's number and length are as every error's. -/
def PErr.Fine (t : PErr) : Prop := match t with | none => True | some (n, l) => 1 ≤ n ∧ n ≤ 11 ∧ l.length ≤ 1000

theorem takeD {P : Program} {ops : Array Oper} {Q : Exit → Act → World → Prop} {md : Region.Mode} {S : World → Prop} {i : Nat} {oi : Oper} {v : Value} {fuel : Nat} {listed : Array Bool} {a : Act} {w : World} (d : Option Tmp) (hi : ops[i]? = some oi) (hd : oi.dst = d)
    (hs : Region.noSelect ops = true) (hf : Region.free md ops listed i = true) (hr : (Region.ready md ops listed).contains i = true)
    (hQ : ∀ c a w, Q (.panic c) (a.put d v) w → Q (.panic c) a w) (hy : YieldsIf P ops S oi v a) (hS : S w)
    (h : wpAnyH P md ops Q S fuel (listed.setIfInBounds i true) (a.put d v) w) : wpAnyH P md ops Q S (fuel + 1) listed a w := by
  subst hd
  exact wpAnyH_take hi hs hf hr hQ hy hS h

theorem takeA {P : Program} {ops : Array Oper} {Q : Exit → Act → World → Prop} {md : Region.Mode} {i : Nat} {oi : Oper} {v : Value} {fuel : Nat} {listed : Array Bool} {a : Act} {w : World} (d : Option Tmp) (hi : ops[i]? = some oi) (hd : oi.dst = d)
    (hs : Region.noSelect ops = true) (hf : Region.free md ops listed i = true) (hr : (Region.ready md ops listed).contains i = true)
    (hQ : ∀ c a w, Q (.panic c) (a.put d v) w → Q (.panic c) a w) (hy : Yields P ops oi v a)
    (h : wpAny P md ops Q fuel (listed.setIfInBounds i true) (a.put d v) w) : wpAny P md ops Q (fuel + 1) listed a w := by
  subst hd
  exact wpAny_take hi hs hf hr hQ hy h

/-- errors.As at a Fault and a variable just laid: the variable holds the Fault; all that was there before it is as it was. -/
theorem as_keep (q : Addr) (wo wv w : World) (bv : Below wo.heap.size wo wv) (hw : w = wv.drew) (hG : GlobE wv) (zt : wv.cell? ⟨wo.heap.size, 0, none⟩ = some (.pointer none)) (ft : wv.frozen? ⟨wo.heap.size, 0, none⟩ = false) :
    Calls Tryd.prog 66 #[.iface 104 (.pointer (some q)), .iface 106 (.pointer (some ⟨wo.heap.size, 0, none⟩))] w fun e w' => e = .returned (.bool true) ∧ w'.cell? ⟨wo.heap.size, 0, none⟩ = some (.pointer (some q)) ∧ Below wo.heap.size wo w' := by
  subst hw
  refine (Errs.as_any q ⟨wo.heap.size, 0, none⟩ (.pointer none) wv.drew hG zt ft).mono ?_
  rintro e w6 ⟨rfl, w5, hb5, rfl⟩
  have h5 : Below wv.heap.size wv w5 := ((Below.refl wv.heap.size wv).drew).trans hb5
  refine ⟨rfl, World.cell?_setCell_same _ _ _ (cell_keep h5 zt), (Below.stepL bv h5).setCell (p := ⟨wo.heap.size, 0, none⟩) (Nat.le_refl _) _⟩

theorem raw_is_none (w : World) :
    Calls Tryd.prog 25 #[.nilIface, zErr] w (Ret1 (fun x _ => x = .bool true) w) := by
  go_enter Tryd.func25, Tryd.ntmps25
  go_wp2
  go_ret
  exact ⟨_, rfl, belowAlloc' _ _, rfl⟩

set_option maxHeartbeats 1000000 in
theorem raw_is_some (r : Nat → Addr) (n : Int) (l : List (ByteArray × Int)) (v e : Value) (w : World) (hg : Glob r w) (hG : GlobE w) (hv : ErrAt r w n l v) (he : EAt w (some (n, l)) e) (h1 : 1 ≤ n) (h11 : n ≤ 11) (hl : l.length ≤ 1000) :
    Calls Tryd.prog 25 #[v, e] w (Ret1 (fun x _ => x = .bool true) w) := by
  obtain ⟨a1, n1, c1, a2, n2, c2, rfl, hs, hi⟩ := he
  have b0 := belowAlloc' w (.cells #[.int .i64 n, .slice a1 n1 c1, .slice a2 n2 c2] 45)
  have hn0 : (n == 0) = false := by rw [beq_eq_false_iff_ne]; omega
  obtain ⟨T, p, rfl⟩ := hv.shape
  replace hv := Lib.hid (hv.below b0)
  have hg0 := Lib.hid hg
  replace hg := Lib.hid (hg.below b0)
  replace hG := Lib.hid (hG.below b0)
  have hsl := hs.len oneStrs
  rw [List.length_map] at hsl
  replace hs := Lib.hid (hs.below b0)
  replace hi := Lib.hid (hi.below b0)
  go_enter Tryd.func25, Tryd.ntmps25
  go_wp2_with fail
  refine (raw_root r n _ hg.out h1 h11).mono ?_
  rintro e w1 ⟨rfl, rfl⟩
  go_wp2_with fail
  refine (Errs.is_any r n l _ _ hv.out).mono ?_
  rintro e w1 ⟨rfl, rfl⟩
  have z : (w.alloc (.cells #[.int .i64 n, .slice a1 n1 c1, .slice a2 n2 c2] 45)).cell? ⟨w.heap.size, 0, none⟩ = some (.int .i64 n) ∧ (w.alloc (.cells #[.int .i64 n, .slice a1 n1 c1, .slice a2 n2 c2] 45)).cell? ⟨w.heap.size, 1, none⟩ = some (.slice a1 n1 c1) ∧ (w.alloc (.cells #[.int .i64 n, .slice a1 n1 c1, .slice a2 n2 c2] 45)).cell? ⟨w.heap.size, 2, none⟩ = some (.slice a2 n2 c2) := by simp
  obtain ⟨W, hW⟩ : ∃ W : World, W = w.alloc (.cells #[.int .i64 n, .slice a1 n1 c1, .slice a2 n2 c2] 45) := ⟨_, rfl⟩
  rw [← hW] at hv hg hG hs hi z b0 ⊢
  clear hW
  replace z := Lib.hid z
  go_wp2
  go_loopw [0, 5] (fun u i wr => ∃ k : Nat, k ≤ l.length ∧ i = .int .i64 k ∧ ErrAt r wr n (l.drop k) u ∧ Below W.heap.size W wr) (fun _ i _ => l.length - (intOf i).toNat)
  case atStart => exact ⟨0, by omega, rfl, hv.out, Below.refl _ _⟩
  case round =>
    obtain ⟨k, hk, rfl, hu, hB⟩ := hrel
    obtain ⟨wo, rfl⟩ : ∃ wo : World, wo = wr := ⟨_, rfl⟩
    obtain ⟨z0, z1, z2⟩ := keep3 hB z.out
    by_cases hkl : k < l.length
    · have hd : l.drop k = l[k] :: l.drop (k + 1) := List.drop_eq_getElem_cons hkl
      rw [hd] at hu
      generalize hlk : l[k] = x at hu
      obtain ⟨op, at_⟩ := x
      obtain ⟨q, u', rfl, d0, d1, d2, hrest⟩ := hu
      have hs' := hs.out.below hB
      have hi' := hi.out.below hB
      have i1 := hs'.idx oneStrs k (by simpa using hkl)
      have e1 := hs'.cell k (by simpa using hkl)
      have i2 := hi'.idx k (by simpa using hkl)
      have e2 := hi'.cell k (by simpa using hkl)
      simp only [List.getElem_map, hlk] at e1 e2
      replace hd := Lib.hid hd
      replace hlk := Lib.hid hlk
      replace hrest := Lib.hid hrest
      clear hs' hi'
      have gE := Lib.hid (hG.out.below hB)
      generalize valAt (.slice a1 n1 c1) k = A1 at i1 e1
      generalize valAt (.slice a2 n2 c2) k = A2 at i2 e2
      have bv := belowAlloc' wo (.cells #[.pointer none] 104)
      have y1 := cell_keep bv z1
      have y2 := cell_keep bv z2
      have g0 := cell_keep bv d0
      have g1 := cell_keep bv d1
      have s1 := (bv.cell (World.block_lt_of_cell? _ _ e1)).trans e1
      have s2 := (bv.cell (World.block_lt_of_cell? _ _ e2)).trans e2
      have zt : (wo.alloc (.cells #[.pointer none] 104)).cell? ⟨wo.heap.size, 0, none⟩ = some (.pointer none) := by simp
      have ft : (wo.alloc (.cells #[.pointer none] 104)).frozen? ⟨wo.heap.size, 0, none⟩ = false := by simp
      have gv := Lib.hid (gE.out.below bv)
      go_wp2
      obtain ⟨wv, hwv⟩ : ∃ W : World, W = wo.alloc (.cells #[.pointer none] 104) := ⟨_, rfl⟩
      rw [← hwv] at bv y1 y2 g0 g1 s1 s2 zt ft gv ⊢
      clear hwv
      replace z0 := Lib.hid z0
      replace z1 := Lib.hid z1
      replace z2 := Lib.hid z2
      replace d0 := Lib.hid d0
      replace d1 := Lib.hid d1
      replace d2 := Lib.hid d2
      replace e1 := Lib.hid e1
      replace e2 := Lib.hid e2
      refine wp_region_noPanic ?_
      refine wp_region_any (by kernel_rfl) ?_
      change wpAny _ _ _ _ _ _ _ (World.drew _)
      refine takeA (i := 0) (v := ?_) (some 29) rfl rfl (by kernel_rfl) (by kernel_rfl) (by kernel_rfl) (fun _ _ _ h => h) (Or.inl ⟨by rfl, ?_⟩) ?_
      rotate_left
      · intro _; go_simp; try with_reducible rfl
      simp only [Act.put, List.setIfInBounds_toArray, List.set_cons_zero, List.set_cons_succ]
      refine takeA (i := 1) (v := ?_) (some 30) rfl rfl (by kernel_rfl) (by kernel_rfl) (by kernel_rfl) (fun _ _ _ h => h) (Or.inl ⟨by rfl, ?_⟩) ?_
      rotate_left
      · intro _; go_simp; try with_reducible rfl
      simp only [Act.put, List.setIfInBounds_toArray, List.set_cons_zero, List.set_cons_succ]
      refine wpAny_ready (rs := [2]) (by kernel_rfl) (by simp) (AllReady.cons rfl (fun K hK => ?_) AllReady.nil)
      go_simp
      go_at_call 66
      refine (as_keep ⟨q, 0, none⟩ wo wv _ bv rfl gv.out zt ft).mono ?_
      rintro e w6 ⟨rfl, p0, b6⟩
      refine hK _ _ ?_
      clear hK K y1 y2 g0 g1 s1 s2
      have p1 := cell_keep b6 z1.out
      have p2 := cell_keep b6 z2.out
      have p3 := cell_keep b6 d0.out
      have p4 := cell_keep b6 d1.out
      have p5 := (b6.cell (World.block_lt_of_cell? _ _ e1.out)).trans e1.out
      have p6 := (b6.cell (World.block_lt_of_cell? _ _ e2.out)).trans e2.out
      have p7 := cell_keep b6 d2.out
      refine wpAny_of_held (S := fun w' => w' = w6) _ _ _ _ ?_
      refine takeD (i := 3) (v := ?_) (some 32) rfl rfl (by kernel_rfl) (by kernel_rfl) (by kernel_rfl) (fun _ _ _ h => h) (Or.inl ⟨by rfl, ?_⟩) rfl ?_
      rotate_left
      · intro _ hw; subst hw; go_simp; try with_reducible rfl
      simp only [Act.put, List.setIfInBounds_toArray, List.set_cons_zero, List.set_cons_succ]
      refine takeD (i := 4) (v := ?_) (some 33) rfl rfl (by kernel_rfl) (by kernel_rfl) (by kernel_rfl) (fun _ _ _ h => h) (Or.inl ⟨by rfl, ?_⟩) rfl ?_
      rotate_left
      · intro _ hw; subst hw; go_simp; try with_reducible rfl
      simp only [Act.put, List.setIfInBounds_toArray, List.set_cons_zero, List.set_cons_succ]
      refine takeD (i := 5) (v := ?_) (some 34) rfl rfl (by kernel_rfl) (by kernel_rfl) (by kernel_rfl) (fun _ _ _ h => h) (Or.inl ⟨by rfl, ?_⟩) rfl ?_
      rotate_left
      · intro _ hw; subst hw; go_simp; try with_reducible rfl
      simp only [Act.put, List.setIfInBounds_toArray, List.set_cons_zero, List.set_cons_succ]
      refine takeD (i := 6) (v := ?_) (some 35) rfl rfl (by kernel_rfl) (by kernel_rfl) (by kernel_rfl) (fun _ _ _ h => h) (Or.inl ⟨by rfl, ?_⟩) rfl ?_
      rotate_left
      · intro _ hw; subst hw; go_simp; try with_reducible rfl
      simp only [Act.put, List.setIfInBounds_toArray, List.set_cons_zero, List.set_cons_succ]
      refine takeD (i := 7) (v := ?_) (some 36) rfl rfl (by kernel_rfl) (by kernel_rfl) (by kernel_rfl) (fun _ _ _ h => h) (Or.inl ⟨by rfl, ?_⟩) rfl ?_
      rotate_left
      · intro _ hw; subst hw; go_simp; try with_reducible rfl
      simp only [Act.put, List.setIfInBounds_toArray, List.set_cons_zero, List.set_cons_succ]
      refine takeD (i := 8) (v := ?_) (some 37) rfl rfl (by kernel_rfl) (by kernel_rfl) (by kernel_rfl) (fun _ _ _ h => h) (Or.inl ⟨by rfl, ?_⟩) rfl ?_
      rotate_left
      · intro _ hw; subst hw; go_simp; try with_reducible rfl
      simp only [Act.put, List.setIfInBounds_toArray, List.set_cons_zero, List.set_cons_succ]
      refine takeD (i := 9) (v := ?_) (some 38) rfl rfl (by kernel_rfl) (by kernel_rfl) (by kernel_rfl) (fun _ _ _ h => h) (Or.inl ⟨by rfl, ?_⟩) rfl ?_
      rotate_left
      · intro _ hw; subst hw; go_simp; try with_reducible rfl
      simp only [Act.put, List.setIfInBounds_toArray, List.set_cons_zero, List.set_cons_succ]
      refine takeD (i := 10) (v := ?_) (some 39) rfl rfl (by kernel_rfl) (by kernel_rfl) (by kernel_rfl) (fun _ _ _ h => h) (Or.inl ⟨by rfl, ?_⟩) rfl ?_
      rotate_left
      · intro _ hw; subst hw; go_simp; try with_reducible rfl
      simp only [Act.put, List.setIfInBounds_toArray, List.set_cons_zero, List.set_cons_succ]
      refine takeD (i := 11) (v := ?_) (some 40) rfl rfl (by kernel_rfl) (by kernel_rfl) (by kernel_rfl) (fun _ _ _ h => h) (Or.inl ⟨by rfl, ?_⟩) rfl ?_
      rotate_left
      · intro _ hw; subst hw; go_simp; try with_reducible rfl
      simp only [Act.put, List.setIfInBounds_toArray, List.set_cons_zero, List.set_cons_succ]
      refine takeD (i := 12) (v := ?_) (some 41) rfl rfl (by kernel_rfl) (by kernel_rfl) (by kernel_rfl) (fun _ _ _ h => h) (Or.inl ⟨by rfl, ?_⟩) rfl ?_
      rotate_left
      · intro _ hw; subst hw; go_simp; try with_reducible rfl
      simp only [Act.put, List.setIfInBounds_toArray, List.set_cons_zero, List.set_cons_succ]
      refine takeD (i := 13) (v := ?_) (some 42) rfl rfl (by kernel_rfl) (by kernel_rfl) (by kernel_rfl) (fun _ _ _ h => h) (Or.inl ⟨by rfl, ?_⟩) rfl ?_
      rotate_left
      · intro _ hw; subst hw; go_simp; try with_reducible rfl
      simp only [Act.put, List.setIfInBounds_toArray, List.set_cons_zero, List.set_cons_succ]
      refine takeD (i := 14) (v := ?_) (some 43) rfl rfl (by kernel_rfl) (by kernel_rfl) (by kernel_rfl) (fun _ _ _ h => h) (Or.inl ⟨by rfl, ?_⟩) rfl ?_
      rotate_left
      · intro _ hw; subst hw; go_simp; try with_reducible rfl
      simp only [Act.put, List.setIfInBounds_toArray, List.set_cons_zero, List.set_cons_succ]
      refine takeD (i := 15) (v := ?_) (some 44) rfl rfl (by kernel_rfl) (by kernel_rfl) (by kernel_rfl) (fun _ _ _ h => h) (Or.inl ⟨by rfl, ?_⟩) rfl ?_
      rotate_left
      · intro _ hw; subst hw; go_simp; try with_reducible rfl
      simp only [Act.put, List.setIfInBounds_toArray, List.set_cons_zero, List.set_cons_succ]
      refine takeD (i := 16) (v := ?_) (some 45) rfl rfl (by kernel_rfl) (by kernel_rfl) (by kernel_rfl) (fun _ _ _ h => h) (Or.inl ⟨by rfl, ?_⟩) rfl ?_
      rotate_left
      · intro _ hw; subst hw; go_simp; try with_reducible rfl
      simp only [Act.put, List.setIfInBounds_toArray, List.set_cons_zero, List.set_cons_succ]
      refine takeD (i := 17) (v := ?_) (some 46) rfl rfl (by kernel_rfl) (by kernel_rfl) (by kernel_rfl) (fun _ _ _ h => h) (Or.inl ⟨by rfl, ?_⟩) rfl ?_
      rotate_left
      · intro _ hw; subst hw; go_simp; try with_reducible rfl
      simp only [Act.put, List.setIfInBounds_toArray, List.set_cons_zero, List.set_cons_succ]
      refine takeD (i := 18) (v := ?_) (some 47) rfl rfl (by kernel_rfl) (by kernel_rfl) (by kernel_rfl) (fun _ _ _ h => h) (Or.inl ⟨by rfl, ?_⟩) rfl ?_
      rotate_left
      · intro _ hw; subst hw; go_simp; try with_reducible rfl
      simp only [Act.put, List.setIfInBounds_toArray, List.set_cons_zero, List.set_cons_succ]
      refine takeD (i := 19) (v := ?_) (some 48) rfl rfl (by kernel_rfl) (by kernel_rfl) (by kernel_rfl) (fun _ _ _ h => h) (Or.inl ⟨by rfl, ?_⟩) rfl ?_
      rotate_left
      · intro _ hw; subst hw; go_simp; try with_reducible rfl
      simp only [Act.put, List.setIfInBounds_toArray, List.set_cons_zero, List.set_cons_succ]
      refine takeD (i := 20) (v := ?_) (some 49) rfl rfl (by kernel_rfl) (by kernel_rfl) (by kernel_rfl) (fun _ _ _ h => h) (Or.inl ⟨by rfl, ?_⟩) rfl ?_
      rotate_left
      · intro _ hw; subst hw; go_simp; try with_reducible rfl
      simp only [Act.put, List.setIfInBounds_toArray, List.set_cons_zero, List.set_cons_succ]
      refine takeD (i := 21) (v := ?_) (some 50) rfl rfl (by kernel_rfl) (by kernel_rfl) (by kernel_rfl) (fun _ _ _ h => h) (Or.inl ⟨by rfl, ?_⟩) rfl ?_
      rotate_left
      · intro _ hw; subst hw; go_simp; try with_reducible rfl
      simp only [Act.put, List.setIfInBounds_toArray, List.set_cons_zero, List.set_cons_succ]
      refine takeD (i := 22) (v := ?_) (some 51) rfl rfl (by kernel_rfl) (by kernel_rfl) (by kernel_rfl) (fun _ _ _ h => h) (Or.inl ⟨by rfl, ?_⟩) rfl ?_
      rotate_left
      · intro _ hw; subst hw; go_simp; try with_reducible rfl
      simp only [Act.put, List.setIfInBounds_toArray, List.set_cons_zero, List.set_cons_succ]
      refine takeD (i := 23) (v := ?_) (some 52) rfl rfl (by kernel_rfl) (by kernel_rfl) (by kernel_rfl) (fun _ _ _ h => h) (Or.inl ⟨by rfl, ?_⟩) rfl ?_
      rotate_left
      · intro _ hw; subst hw; go_simp; try with_reducible rfl
      simp only [Act.put, List.setIfInBounds_toArray, List.set_cons_zero, List.set_cons_succ]
      refine takeD (i := 24) (v := ?_) (some 53) rfl rfl (by kernel_rfl) (by kernel_rfl) (by kernel_rfl) (fun _ _ _ h => h) (Or.inl ⟨by rfl, ?_⟩) rfl ?_
      rotate_left
      · intro _ hw; subst hw; go_simp; try with_reducible rfl
      simp only [Act.put, List.setIfInBounds_toArray, List.set_cons_zero, List.set_cons_succ]
      refine takeD (i := 25) (v := ?_) (some 54) rfl rfl (by kernel_rfl) (by kernel_rfl) (by kernel_rfl) (fun _ _ _ h => h) (Or.inl ⟨by rfl, ?_⟩) rfl ?_
      rotate_left
      · intro _ hw; subst hw; go_simp; try with_reducible rfl
      simp only [Act.put, List.setIfInBounds_toArray, List.set_cons_zero, List.set_cons_succ]
      refine takeD (i := 26) (v := ?_) (some 55) rfl rfl (by kernel_rfl) (by kernel_rfl) (by kernel_rfl) (fun _ _ _ h => h) (Or.inl ⟨by rfl, ?_⟩) rfl ?_
      rotate_left
      · intro _ hw; subst hw; go_simp; try with_reducible rfl
      simp only [Act.put, List.setIfInBounds_toArray, List.set_cons_zero, List.set_cons_succ]
      refine takeD (i := 27) (v := ?_) (some 56) rfl rfl (by kernel_rfl) (by kernel_rfl) (by kernel_rfl) (fun _ _ _ h => h) (Or.inl ⟨by rfl, ?_⟩) rfl ?_
      rotate_left
      · intro _ hw; subst hw; go_simp; try with_reducible rfl
      simp only [Act.put, List.setIfInBounds_toArray, List.set_cons_zero, List.set_cons_succ]
      refine takeD (i := 28) (v := ?_) (some 57) rfl rfl (by kernel_rfl) (by kernel_rfl) (by kernel_rfl) (fun _ _ _ h => h) (Or.inl ⟨by rfl, ?_⟩) rfl ?_
      rotate_left
      · intro _ hw; subst hw; go_simp; try with_reducible rfl
      simp only [Act.put, List.setIfInBounds_toArray, List.set_cons_zero, List.set_cons_succ]
      refine takeD (i := 29) (v := ?_) (some 58) rfl rfl (by kernel_rfl) (by kernel_rfl) (by kernel_rfl) (fun _ _ _ h => h) (Or.inl ⟨by rfl, ?_⟩) rfl ?_
      rotate_left
      · intro _ hw; subst hw; go_simp; try with_reducible rfl
      simp only [Act.put, List.setIfInBounds_toArray, List.set_cons_zero, List.set_cons_succ]
      refine takeD (i := 30) (v := ?_) (some 59) rfl rfl (by kernel_rfl) (by kernel_rfl) (by kernel_rfl) (fun _ _ _ h => h) (Or.inl ⟨by rfl, ?_⟩) rfl ?_
      rotate_left
      · intro _ hw; subst hw; go_simp; try with_reducible rfl
      simp only [Act.put, List.setIfInBounds_toArray, List.set_cons_zero, List.set_cons_succ]
      refine takeD (i := 31) (v := ?_) (some 60) rfl rfl (by kernel_rfl) (by kernel_rfl) (by kernel_rfl) (fun _ _ _ h => h) (Or.inl ⟨by rfl, ?_⟩) rfl ?_
      rotate_left
      · intro _ hw; subst hw; go_simp; try with_reducible rfl
      simp only [Act.put, List.setIfInBounds_toArray, List.set_cons_zero, List.set_cons_succ]
      refine wpAnyH_done (by kernel_rfl) ?_ _
      refine NoPanic.normal ?_
      have hr6 := Lib.hid (hrest.out.below b6)
      have hB6 := Lib.hid (Below.stepL hB b6)
      clear p1 p2 p3 p4 p5 p6
      go_wp2
      go_roundw
      case rel => exact ⟨k + 1, by omega, by go_num, hr6.out, hB6.out⟩
      case measure => simp [intOf]; omega
    · obtain rfl : k = l.length := by omega
      rw [List.drop_length] at hu
      obtain rfl : _ = rootV r n := hu
      obtain ⟨i, hi, hcmp⟩ := Option.map_eq_some_iff.1 Errs.compE
      obtain ⟨j, hj, hjs⟩ := Option.map_eq_some_iff.1 Errs.sizeE
      have heq := run_eql_iface_ptr_same (P := Tryd.prog) wo (r n.toNat) Errs.uErr Errs.uES hi hcmp hj
      clear hi hcmp hj hjs
      have hgo := Lib.hid (hg.out.below hB)
      have hBf := Lib.hid (Below.stepL b0 hB)
      go_wp2_with fail
      refine (raw_root r n _ hgo.out h1 h11).mono ?_
      rintro e w1 ⟨rfl, rfl⟩
      go_wp2
      go_ret
      exact ⟨_, rfl, hBf.out, rfl⟩

/-- edenraw.Is at an error that is what it must be. -/
theorem raw_is (r : Nat → Addr) (t : PErr) (v e : Value) (w : World) (hg : Glob r w) (hG : GlobE w) (hv : ErrIs r w t v) (he : EAt w t e) (ht : t.Fine) :
    Calls Tryd.prog 25 #[v, e] w (Ret1 (fun x _ => x = .bool true) w) := by
  match t, hv, he, ht with
  | none, hv, he, _ =>
    obtain rfl := ErrIs.none_eq hv
    obtain rfl : e = zErr := he
    exact raw_is_none w
  | some (n, l), hv, he, ⟨h1, h11, hl⟩ => exact raw_is_some r n l v e w hg hG hv he h1 h11 hl

end Go.Proofs.YtdldadgnggaopaaDoor

namespace Go.Proofs.YtdldadgnggaopaaDoor

theorem sumRow_getD (K : Nat) (x y : Int) (s n : Nat) (h : n < s) : (sumRow K x y s).getD n 0 = (y + x * n) % K := by
  simp [sumRow, List.getD, h]

theorem sumStep_getD {K : Nat} (hK : 1 ≤ K) (x : Int) : ∀ (T : List Int) (i : Nat), i < T.length * K → (sumStep K x T).getD i 0 = (T.getD (i / K) 0 + x * (i % K : Nat)) % K
  | [], i, h => by simp at h
  | y :: T, i, h => by
    have e : sumStep K x (y :: T) = sumRow K x y K ++ sumStep K x T := rfl
    rw [e]
    by_cases hi : i < K
    · rw [show (sumRow K x y K ++ sumStep K x T).getD i 0 = (sumRow K x y K).getD i 0 by
        simp only [List.getD]; rw [List.getElem?_append_left (by rw [sumRow_length]; exact hi)]]
      rw [sumRow_getD K x y K i hi, Nat.div_eq_of_lt hi, Nat.mod_eq_of_lt hi]
      rfl
    · have hi' : i - K < T.length * K := by rw [List.length_cons, Nat.succ_mul] at h; omega
      rw [show (sumRow K x y K ++ sumStep K x T).getD i 0 = (sumStep K x T).getD (i - K) 0 by
        simp only [List.getD]; rw [List.getElem?_append_right (by rw [sumRow_length]; omega), sumRow_length]]
      rw [sumStep_getD hK x T (i - K) hi']
      have h1 : i / K = (i - K) / K + 1 := by
        rw [show i = (i - K) + K by omega, Nat.add_div_right _ (by omega), Nat.add_sub_cancel]
      have h2 : i % K = (i - K) % K := Nat.mod_eq_sub_mod (by omega)
      rw [h1, h2]
      simp [List.getD]

theorem sumT_snoc (K : Nat) (f : List Int) (x : Int) : sumT K (f ++ [x]) = sumStep K x (sumT K f) := sumTable_snoc ..

/-- An entry of a sum's table, by the window's last symbol. -/
theorem sumT_getD {K : Nat} (hK : 1 ≤ K) (f : List Int) (x : Int) (i : Nat) (h : i < pw K (f.length + 1)) :
    (sumT K (f ++ [x])).getD i 0 = ((sumT K f).getD (i / K) 0 + x * (i % K : Nat)) % K := by
  rw [sumT_snoc]
  refine sumStep_getD hK x _ i ?_
  rw [sumT_length, ← pw_succ]; exact h

theorem snoc_ind {P : List Int → Prop} (h0 : P []) (h1 : ∀ f x, P f → P (f ++ [x])) (f : List Int) : P f := by
  have : P f.reverse.reverse := by
    induction f.reverse with
    | nil => exact h0
    | cons x g ih => rw [List.reverse_cons]; exact h1 _ _ ih
  simpa using this

theorem sumT_zero {K : Nat} (hK : 1 ≤ K) (f : List Int) : (sumT K f).getD 0 0 = 0 := by
  refine snoc_ind (P := fun f => (sumT K f).getD 0 0 = 0) rfl (fun f x ih => ?_) f
  rw [sumT_getD hK f x 0 (pw_pos _ hK), Nat.zero_div, ih]
  simp

theorem emod_addMul {a b : Int} {K : Nat} : (a % K + b) % K = (a + b) % K := by simp [Int.add_emod]

theorem sumT_range {K : Nat} (hK : 1 ≤ K) (f : List Int) (i : Nat) : 0 ≤ (sumT K f).getD i 0 ∧ (sumT K f).getD i 0 < K := by
  by_cases h : i < (sumT K f).length
  · simp only [List.getD, List.getElem?_eq_getElem h, Option.getD_some]
    exact sumT_syms hK f _ (by simp)
  · simp only [List.getD, List.getElem?_eq_none (Nat.le_of_not_lt h), Option.getD_none]
    omega

/-- The windows with a single 1 tell the factors. -/
theorem sumT_pw {K : Nat} (hK : 1 < K) (f : List Int) : ∀ t, t < f.length → (sumT K f).getD (pw K t) 0 = f.getD (f.length - 1 - t) 0 % K := by
  refine snoc_ind (P := fun f => ∀ t, t < f.length → (sumT K f).getD (pw K t) 0 = f.getD (f.length - 1 - t) 0 % K) (by intro t h; simp at h) (fun f x ih => ?_) f
  intro t ht
  rw [List.length_append, List.length_singleton] at ht
  rw [sumT_getD (by omega) f x _ (pw_lt hK ht)]
  cases t with
  | zero =>
    rw [pw_zero, Nat.div_eq_of_lt hK, Nat.mod_eq_of_lt hK, sumT_zero (by omega)]
    simp [List.getD]
  | succ t =>
    rw [pw_succ, Nat.mul_div_cancel _ (by omega), Nat.mul_mod_left, ih t (by omega)]
    have : (f ++ [x]).getD ((f ++ [x]).length - 1 - (t + 1)) 0 = f.getD (f.length - 1 - t) 0 := by
      simp only [List.getD, List.length_append, List.length_singleton]
      rw [show f.length + 1 - 1 - (t + 1) = f.length - 1 - t by omega, List.getElem?_append_left (by omega)]
    rw [this]
    simp

/-- Window i is one with its first symbol less by one, and the window with a single 1 there. -/
theorem sumT_add {K : Nat} (hK : 1 < K) (f : List Int) : ∀ t x, x % K ≠ 0 → x * pw K t < pw K f.length →
    (sumT K f).getD (x * pw K t) 0 = ((sumT K f).getD (x * pw K t - pw K t) 0 + (sumT K f).getD (pw K t) 0) % K := by
  refine snoc_ind (P := fun f => ∀ t x, x % K ≠ 0 → x * pw K t < pw K f.length →
    (sumT K f).getD (x * pw K t) 0 = ((sumT K f).getD (x * pw K t - pw K t) 0 + (sumT K f).getD (pw K t) 0) % K) ?_ (fun f y ih => ?_) f
  · intro t x hx h
    have : x ≠ 0 := by intro e; subst e; simp at hx
    have h1 := pw_pos t (show 1 ≤ K by omega)
    have : 1 * 1 ≤ x * pw K t := Nat.mul_le_mul (by omega) h1
    simp only [List.length_nil, pw_zero] at h
    omega
  · intro t x hx h
    have hx0 : x ≠ 0 := by intro e; subst e; simp at hx
    rw [List.length_append, List.length_singleton] at h
    have hp := pw_pos t (show 1 ≤ K by omega)
    have hle : pw K t ≤ x * pw K t := Nat.le_mul_of_pos_left _ (by omega)
    rw [sumT_getD (by omega) f y _ h, sumT_getD (by omega) f y _ (show x * pw K t - pw K t < _ by omega), sumT_getD (by omega) f y _ (show pw K t < _ by omega)]
    cases t with
    | zero =>
      rw [pw_zero, Nat.mul_one]
      have h1 : (x - 1) / K = x / K ∧ (x - 1) % K = x % K - 1 := by
        have hd := Nat.div_add_mod x K
        have hl := Nat.mod_lt x (show 0 < K by omega)
        have e : x - 1 = (x % K - 1) + K * (x / K) := by omega
        rw [e, Nat.add_mul_div_left _ _ (by omega), Nat.add_mul_mod_self_left, Nat.div_eq_of_lt (by omega), Nat.mod_eq_of_lt (by omega)]
        omega
      rw [h1.1, h1.2, Nat.div_eq_of_lt hK, Nat.mod_eq_of_lt hK, sumT_zero (by omega)]
      rw [← Int.add_emod]
      congr 1
      have : ((x % K - 1 : Nat) : Int) = ((x % K : Nat) : Int) - 1 := by omega
      rw [this, Int.mul_sub]
      simp
      omega
    | succ t =>
      have hh : x * pw K t < pw K f.length := by
        rw [pw_succ, pw_succ, ← Nat.mul_assoc] at h
        exact Nat.lt_of_mul_lt_mul_right h
      have e := ih t x hx hh
      rw [pw_succ, ← Nat.mul_assoc, ← Nat.sub_mul, Nat.mul_div_cancel _ (by omega), Nat.mul_div_cancel _ (by omega), Nat.mul_div_cancel _ (by omega), Nat.mul_mod_left, Nat.mul_mod_left, Nat.mul_mod_left, e]
      simp

/-- What the law asks of window i; and that it does not hold. -/
def Good (K : Nat) (T : List Int) (i : Nat) : Prop := (i = 0 ∧ T.getD 0 0 = 0) ∨ ∃ t x, x * pw K t = i ∧ x % K ≠ 0 ∧ T.getD i 0 = (T.getD (i - pw K t) 0 + T.getD (pw K t) 0) % K
def Bad (K : Nat) (T : List Int) (i : Nat) : Prop := (i = 0 ∧ T.getD 0 0 ≠ 0) ∨ ∃ t x, x * pw K t = i ∧ x % K ≠ 0 ∧ T.getD i 0 ≠ (T.getD (i - pw K t) 0 + T.getD (pw K t) 0) % K

theorem not_sum_of_bad {K R : Nat} {T : List Int} (h : RuleOk K R T) (i : Nat) (hi : i < T.length) (hb : Bad K T i) : isSum K R T = false := by
  have hk := h.k1
  rw [isSum, decide_eq_false_iff_not]
  intro e
  have hlen : T.length = pw K (facs K R T).length := by rw [facs_length, h.len]
  rcases hb with ⟨_, h0⟩ | ⟨t, x, hx, hxK, hne⟩
  · apply h0
    rw [← e]; exact sumT_zero hk _
  · by_cases hK : 1 < K
    · apply hne
      rw [← e, ← hx]
      exact sumT_add hK _ t x hxK (by rw [hx, ← hlen]; exact hi)
    · have : K = 1 := by omega
      subst this
      simp [Nat.mod_one] at hxK

theorem facs_getD {K R : Nat} {T : List Int} (hK : 1 < K) (t : Nat) (ht : t < 2 * R + 1) : (facs K R T).getD (2 * R + 1 - 1 - t) 0 = T.getD (pw K t) 0 := by
  unfold facs facI
  rw [if_pos hK]
  simp only [facL, List.getD]
  rw [List.getElem?_map, List.getElem?_range (by omega)]
  simp only [Option.map_some, Option.getD_some]
  rw [if_pos (by omega)]
  rw [show 2 * R + 1 - 1 - (2 * R + 1 - 1 - t) = t by omega]

theorem sum_of_good {K R : Nat} {T : List Int} (h : RuleOk K R T) (hg : ∀ i, i < T.length → Good K T i) : isSum K R T = true := by
  have hk := h.k1
  rw [isSum, decide_eq_true_iff]
  have hlen : (sumT K (facs K R T)).length = T.length := by rw [sumT_length, facs_length, h.len]
  have rng : ∀ i, 0 ≤ T.getD i 0 ∧ T.getD i 0 < K := by
    intro i
    by_cases hi : i < T.length
    · simp only [List.getD, List.getElem?_eq_getElem hi, Option.getD_some]
      exact h.syms _ (by simp)
    · simp only [List.getD, List.getElem?_eq_none (Nat.le_of_not_lt hi), Option.getD_none]
      omega
  have hpow : 1 < K → ∀ t, t < 2 * R + 1 → (sumT K (facs K R T)).getD (pw K t) 0 = T.getD (pw K t) 0 := by
    intro hK t ht
    rw [sumT_pw hK _ t (by rw [facs_length]; exact ht), facs_length, facs_getD hK t ht]
    exact Int.emod_eq_of_lt (rng _).1 (rng _).2
  have key : ∀ n i, i < n → i < T.length → (sumT K (facs K R T)).getD i 0 = T.getD i 0 := by
    intro n
    induction n with
    | zero => intro i hi; omega
    | succ n ih =>
      intro i hin hi
      rcases hg i hi with ⟨rfl, h0⟩ | ⟨t, x, hx, hxK, he⟩
      · rw [h0]; exact sumT_zero hk _
      · by_cases hK : 1 < K
        · have hx0 : x ≠ 0 := by intro e; subst e; simp at hxK
          have hp := pw_pos t hk
          have hle : pw K t ≤ x * pw K t := Nat.le_mul_of_pos_left _ (by omega)
          have ht : t < 2 * R + 1 := by
            by_cases c : t < 2 * R + 1
            · exact c
            · have := pw_mono (i := 2 * R + 1) (j := t) hk (by omega)
              have := h.len
              omega
          have e1 := sumT_add hK (facs K R T) t x hxK (by rw [hx, facs_length, ← h.len]; exact hi)
          rw [hx] at e1
          rw [e1, he, ih (i - pw K t) (by omega) (by omega), hpow hK t ht]
        · have : K = 1 := by omega
          subst this
          simp [Nat.mod_one] at hxK
  refine List.ext_getElem hlen fun i h1 h2 => ?_
  have := key (i + 1) i (by omega) h2
  simpa [List.getD, h1, h2] using this

/-- The factors of a sum are those that it was made of. -/
theorem facs_sumT {K R : Nat} {f : List Int} (hK : 1 < K) (hl : f.length = 2 * R + 1) (hs : Syms K f) : facs K R (sumT K f) = f := by
  refine List.ext_getElem (by rw [facs_length, hl]) fun i h1 h2 => ?_
  have hi : i < 2 * R + 1 := by omega
  have e1 := facs_getD (K := K) (R := R) (T := sumT K f) hK (2 * R + 1 - 1 - i) (by omega)
  rw [show 2 * R + 1 - 1 - (2 * R + 1 - 1 - i) = i by omega, sumT_pw hK f _ (by omega), hl] at e1
  rw [show 2 * R + 1 - 1 - (2 * R + 1 - 1 - i) = i by omega] at e1
  have hb := hs.getD (by omega) i
  rw [Int.emod_eq_of_lt hb.1 hb.2] at e1
  simpa [List.getD, h1, h2] using e1
theorem isSum_sumT {K R : Nat} {f : List Int} (hK : 1 < K) (hl : f.length = 2 * R + 1) (hs : Syms K f) : isSum K R (sumT K f) = true := by
  rw [isSum, facs_sumT hK hl hs]; simp

theorem mulAll_one {K : Nat} {a : List Int} (hs : Syms K a) : ∀ i, i ≤ a.length → mulAll K a [1] i = a.take i ++ List.replicate (a.length - i) 0
  | 0, _ => by simp [mulAll]
  | i + 1, h => by
    rw [mulAll, mulAll_one hs i (by omega)]
    have hi : i < a.length := by omega
    have hx := hs (a[i]) (by simp)
    have hl : (a.take i).length = i := by simp; omega
    show addAt K (a.take i ++ List.replicate (a.length - i) 0) (i + 0) (a.getD i 0 * 1) = _
    have e : a.getD i 0 = a[i] := by simp [List.getD, hi]
    have hrep : List.replicate (a.length - i) (0 : Int) = 0 :: List.replicate (a.length - (i + 1)) 0 := by
      rw [show a.length - i = (a.length - (i + 1)) + 1 by omega, List.replicate_succ]
    have hg : (a.take i ++ List.replicate (a.length - i) (0 : Int)).getD (i + 0) 0 = 0 := by
      rw [hrep]
      simp only [List.getD, Nat.add_zero]
      rw [List.getElem?_append_right (by omega), hl]
      simp
    rw [addAt, hg, e, Int.mul_one, Int.zero_add, Int.emod_eq_of_lt hx.1 hx.2, hrep, List.take_succ_eq_append_getElem hi]
    rw [List.set_append_right _ _ (by omega), hl]
    simp only [Nat.add_zero, Nat.sub_self, List.set_cons_zero, List.append_assoc, List.singleton_append]
theorem mulL_one {K : Nat} {a : List Int} (hs : Syms K a) : mulL K a [1] = a := by
  rw [mulL, mulAll_one hs _ (Nat.le_refl _)]; simp

theorem makeP_none {k R : Int} {f : List Int} (h : makeP k R f = none) : ∃ K Q : Nat, k = K ∧ R = Q ∧ 1 ≤ K ∧ K ≤ 4 ∧ Q ≤ 3 ∧ f.length = 2 * Q + 1 ∧ Syms K f := by
  unfold makeP at h
  by_cases h1 : k < 1 ∨ 4 < k ∨ R < 0 ∨ 3 < R
  · rw [if_pos h1] at h; cases h
  rw [if_neg h1] at h
  by_cases h2 : (f.length : Int) ≠ 2 * R + 1
  · rw [if_pos h2] at h; cases h
  rw [if_neg h2] at h
  refine ⟨k.toNat, R.toNat, by omega, by omega, by omega, by omega, by omega, by omega, ?_⟩
  rw [show ((k.toNat : Nat) : Int) = k by omega]
  exact numP_none h
theorem oddP_mk {Q : Nat} (h : Q ≤ 3) : oddP (2 * Q + 1) = true := by
  simp [oddP]; omega
theorem factP_of {K : Nat} {f : List Int} (h1 : 1 ≤ K) (h4 : K ≤ 4) (ho : oddP f.length = true) (hs : Syms K f) : factP K f = none := by
  rw [factP, if_neg (by omega), ho, if_neg (by decide), hs.num]
theorem mulP_one {K : Nat} {f : List Int} (h1 : 1 < K) (h4 : K ≤ 4) (ho : oddP f.length = true) (hs : Syms K f) : mulP K f [1] = none := by
  have h1' : Syms K [1] := by intro x hx; simp at hx; omega
  simp only [mulP, factP_of (by omega) h4 ho hs, h1'.num, List.length_singleton, Nat.add_sub_cancel, ho]
  decide
end Go.Proofs.YtdldadgnggaopaaDoor

namespace Go.Proofs.YtdldadgnggaopaaDoor

theorem Sm_add (f g : Nat → Int) (n : Nat) : Sm (fun i => f i + g i) n = Sm f n + Sm g n := by
  induction n with
  | zero => rfl
  | succ n ih => rw [Sm, Sm, Sm, ih]; omega
theorem Sm_swap (f : Nat → Nat → Int) (n m : Nat) : Sm (fun i => Sm (f i) m) n = Sm (fun j => Sm (fun i => f i j) n) m := by
  induction n with
  | zero => rw [Sm, Sm_zero]; intro _ _; rfl
  | succ n ih => rw [Sm, ih, ← Sm_add]; exact Sm_congr _ fun i _ => rfl
theorem Sm_mulL (c : Int) (f : Nat → Int) (n : Nat) : Sm (fun i => c * f i) n = c * Sm f n := by
  induction n with
  | zero => simp [Sm]
  | succ n ih => rw [Sm, Sm, ih, Int.mul_add]
theorem Sm_delta (f : Nat → Int) (p n : Nat) : Sm (fun i => f i * (if i = p then 1 else 0)) n = if p < n then f p else 0 := by
  induction n with
  | zero => simp [Sm]
  | succ n ih =>
    rw [Sm, ih]
    by_cases e : n = p
    · subst e; simp
    · rw [if_neg e]
      by_cases c : p < n
      · rw [if_pos c, if_pos (by omega)]; omega
      · rw [if_neg c, if_neg (by omega)]; omega

theorem mulL_at (K : Nat) (hK : 1 ≤ K) (a b : List Int) (hb : 1 ≤ b.length) (p : Nat) (hp : p < a.length + b.length - 1) :
    (mulL K a b).getD p 0 = Sm (fun i => Sm (fun j => a.getD i 0 * b.getD j 0 * (if i + j = p then 1 else 0)) b.length) a.length % K := by
  have h := mulAll_sum K a b (fun t => if t = p then 1 else 0) hb a.length (Nat.le_refl _)
  rw [Sm_delta (fun t => (mulAll K a b a.length).getD t 0) p, if_pos hp] at h
  have hr := (mulAll_syms hK a b a.length).getD (by omega) p
  rw [Int.emod_eq_of_lt hr.1 hr.2] at h
  rw [mulL, h]
  congr 1
  refine Sm_congr _ fun i _ => ?_
  rw [← Sm_mulL]
  refine Sm_congr _ fun j _ => ?_
  rw [Int.mul_assoc]

/-- A product may be turned. -/
theorem mulL_comm (K : Nat) (hK : 1 ≤ K) (a b : List Int) (ha : 1 ≤ a.length) (hb : 1 ≤ b.length) : mulL K a b = mulL K b a := by
  have l1 := mulL_length K a b
  have l2 := mulL_length K b a
  refine List.ext_getElem (by omega) fun p h1 h2 => ?_
  have e1 := mulL_at K hK a b hb p (by omega)
  have e2 := mulL_at K hK b a ha p (by omega)
  rw [Sm_swap] at e2
  have : (mulL K a b).getD p 0 = (mulL K b a).getD p 0 := by
    rw [e1, e2]
    congr 1
    refine Sm_congr _ fun i _ => Sm_congr _ fun j _ => ?_
    rw [Int.mul_comm (a.getD i 0), Nat.add_comm]
  simpa [List.getD, h1, h2] using this

theorem facs_sumT1 {K R : Nat} {f : List Int} (hK : 1 ≤ K) (hl : f.length = 2 * R + 1) (hs : Syms K f) : facs K R (sumT K f) = f := by
  by_cases h : 1 < K
  · exact facs_sumT h hl hs
  · obtain rfl : K = 1 := by omega
    have e : f = List.replicate (2 * R + 1) 0 := List.eq_replicate_iff.2 ⟨hl, fun x hx => by have := hs x hx; omega⟩
    simp only [facs, facI, Nat.lt_irrefl, if_false]
    exact e.symm
theorem isSum_sumT1 {K R : Nat} {f : List Int} (hK : 1 ≤ K) (hl : f.length = 2 * R + 1) (hs : Syms K f) : isSum K R (sumT K f) = true := by
  rw [isSum, facs_sumT1 hK hl hs]; simp

/-- Factors taken modulo k. -/
def modL (K : Nat) (f : List Int) (n : Nat) : List Int := (f.take n).map (· % (K : Int))
theorem modL_length (K : Nat) (f : List Int) (n : Nat) (h : n ≤ f.length) : (modL K f n).length = n := by simp [modL]; omega
theorem modL_syms {K : Nat} (hK : 1 ≤ K) (f : List Int) (n : Nat) : Syms K (modL K f n) := by
  intro x hx
  obtain ⟨y, _, rfl⟩ := List.mem_map.1 hx
  exact ⟨Int.emod_nonneg _ (by omega), Int.emod_lt_of_pos _ (by omega)⟩
theorem modL_succ (K : Nat) (f : List Int) (j : Nat) (h : j < f.length) : modL K f (j + 1) = modL K f j ++ [f[j] % (K : Int)] := by
  rw [modL, modL, take_snoc f j h, List.map_append]; rfl
/-- Being filled. -/
def modF (K : Nat) (f : List Int) (n j : Nat) : List Int := modL K f j ++ List.replicate (n - j) 0
theorem modF_length (K : Nat) (f : List Int) (n j : Nat) (hn : n ≤ f.length) (h : j ≤ n) : (modF K f n j).length = n := by
  rw [modF, List.length_append, modL_length K f j (by omega), List.length_replicate]; omega
theorem modF_set (K : Nat) (f : List Int) (n j : Nat) (hn : n ≤ f.length) (h : j < n) : (modF K f n j).set j (f[j]'(by omega) % (K : Int)) = modF K f n (j + 1) := by
  have hl := modL_length K f j (by omega)
  rw [modF, List.set_append_right _ _ (by omega), hl, Nat.sub_self, show n - j = (n - (j + 1)) + 1 by omega, List.replicate_succ, List.set_cons_zero, modF, modL_succ K f j (by omega), List.append_assoc]
  rfl
theorem tmod_twice {x : Int} {K : Nat} (hK : 1 ≤ K) : (x.tmod K + K).tmod K = x % K ∧ -4 * (K : Int) ≤ x.tmod K ∧ x.tmod K < K := by
  have h1 : -(K : Int) < x.tmod K := by have := Int.lt_tmod_of_pos x (show (0 : Int) < K by omega); omega
  have h2 : x.tmod K < K := Int.tmod_lt_of_pos x (by omega)
  refine ⟨?_, by omega, h2⟩
  rw [Int.tmod_eq_emod_of_nonneg (by omega)]
  have h3 := Int.mul_tdiv_add_tmod x K
  have h4 : x.tmod K = x - K * x.tdiv K := by omega
  rw [h4, show x - (K : Int) * x.tdiv K + K = x + K * (1 - x.tdiv K) by rw [Int.mul_sub]; omega, Int.add_mul_emod_self_left]
end Go.Proofs.YtdldadgnggaopaaDoor

namespace Go.Proofs.YtdldadgnggaopaaDoor

/-- The reference's symbol of window i. -/
def sumR (K : Nat) (f : List Int) (i : Nat) : Int := Sm (fun j => f.getD j 0 * (digs K f.length i).getD j 0) f.length % K
theorem sumT_range_eq {K : Nat} (hK : 1 ≤ K) (f : List Int) : sumT K f = (List.range (pw K f.length)).map (sumR K f) := by
  refine List.ext_getElem (by simp [sumT_length]) fun i h1 h2 => ?_
  have hi : i < pw K f.length := by rw [← sumT_length]; exact h1
  have h := sumT_at K f (digs K f.length i) (digs_length ..).symm (digs_syms hK _ _)
  rw [numW_digs hK _ _ hi] at h
  simp only [List.getElem_map, List.getElem_range]
  rw [sumR, ← h]
  simp [List.getD, h1]
theorem Sm_bound {K : Nat} (h4 : K ≤ 4) (u v : Nat → Int) (hu : ∀ j, 0 ≤ u j ∧ u j < K) (hv : ∀ j, 0 ≤ v j ∧ v j < K) (n : Nat) : 0 ≤ Sm (fun j => u j * v j) n ∧ Sm (fun j => u j * v j) n ≤ 9 * n := by
  induction n with
  | zero => simp [Sm]
  | succ n ih =>
    rw [Sm]
    have h1 := hu n
    have h2 := hv n
    have h3 : 0 ≤ u n * v n := Int.mul_nonneg h1.1 h2.1
    have h5 : u n * v n ≤ 3 * 3 := Int.mul_le_mul (by omega) (by omega) h2.1 (by omega)
    omega
theorem prod_bound {K : Nat} (h4 : K ≤ 4) {x y : Int} (hx : 0 ≤ x ∧ x < K) (hy : 0 ≤ y ∧ y < K) : 0 ≤ x * y ∧ x * y ≤ 9 := by
  have h5 : x * y ≤ 3 * 3 := Int.mul_le_mul (by omega) (by omega) hy.1 (by omega)
  exact ⟨Int.mul_nonneg hx.1 hy.1, by omega⟩

/-- What the reference tells of a sum: has every word a preimage? -/
def ontoR (k : Int) (f : List Int) : Bool := !((decide (k = 2 ∨ k = 4) && f.all fun x => x % 2 == 0) || (decide (k = 3) && f.all fun x => x % 3 == 0))
theorem cnt_zero (p : Int) (f : List Int) : mayOnto (cnt p f) = !(f.all fun x => x % p == 0) := by
  unfold mayOnto cnt
  induction f with
  | nil => rfl
  | cons x f ih =>
    rw [List.countP_cons, List.all_cons]
    by_cases h : x % p = 0
    · simp [h, ← ih]
    · have : (x % p == 0) = false := by simpa using h
      simp [h, this]
theorem ontoR_eq {k : Int} {f : List Int} : ontoR k f = wholeP mayOnto k f := by
  unfold ontoR wholeP primesP
  by_cases h : k = 2 ∨ k = 4
  · have h3 : ¬ k = 3 := by omega
    rw [if_pos h]
    simp [h, h3, cnt_zero]
  · rw [if_neg h]
    by_cases h3 : k = 3
    · rw [if_pos h3]
      simp [h3, cnt_zero]
    · rw [if_neg h3]
      simp [h, h3]

def allD (d : Nat) (f : List Int) : Bool := f.all fun x => x % (d : Int) == 0
theorem allD_snoc (d : Nat) (f : List Int) (x : Int) : allD d (f ++ [x]) = (allD d f && (x % (d : Int) == 0)) := by simp [allD]
theorem allD_four {f : List Int} (h : allD 4 f = true) : allD 2 f = true := by
  simp only [allD, List.all_eq_true, beq_iff_eq] at *
  intro x hx
  have := h x hx
  omega
theorem ontoR_false {K d : Nat} {f : List Int} (h4 : K ≤ 4) (h2 : 2 ≤ d) (hd : d ≤ K) (hk : K % d = 0) (ha : allD d f = true) : ontoR K f = false := by
  have hc : (K = 2 ∧ d = 2) ∨ (K = 3 ∧ d = 3) ∨ (K = 4 ∧ d = 2) ∨ (K = 4 ∧ d = 4) := by
    have hKc : K = 2 ∨ K = 3 ∨ K = 4 := by omega
    have hdc : d = 2 ∨ d = 3 ∨ d = 4 := by omega
    rcases hKc with rfl | rfl | rfl <;> rcases hdc with rfl | rfl | rfl <;> simp_all
  rcases hc with ⟨rfl, rfl⟩ | ⟨rfl, rfl⟩ | ⟨rfl, rfl⟩ | ⟨rfl, rfl⟩
  · simp only [allD] at ha; simp [ontoR]; simpa using ha
  · simp only [allD] at ha; simp [ontoR]; simpa using ha
  · simp only [allD] at ha; simp [ontoR]; simpa using ha
  · have ha := allD_four ha; simp only [allD] at ha; simp [ontoR]; simpa using ha
theorem ontoR_true {K : Nat} {f : List Int} (h1 : 1 ≤ K) (h4 : K ≤ 4) (h : ∀ d, 2 ≤ d → d ≤ K → ¬ (K % d = 0 ∧ allD d f = true)) : ontoR K f = true := by
  have hc : K = 1 ∨ K = 2 ∨ K = 3 ∨ K = 4 := by omega
  rcases hc with rfl | rfl | rfl | rfl
  · simp [ontoR]
  · have := h 2 (by omega) (by omega)
    simp [allD] at this
    simpa [ontoR] using this
  · have := h 3 (by omega) (by omega)
    simp [allD] at this
    simpa [ontoR] using this
  · have := h 2 (by omega) (by omega)
    simp [allD] at this
    simpa [ontoR] using this
theorem oneR_false {K p : Nat} {f : List Int} (h4 : K ≤ 4) (h1 : 1 ≤ K) (hp : p = 2 ∨ p = 3) (hk : K % p = 0) (hn : cnt p f ≠ 1) : wholeP mayOne K f = false := by
  have hc : (p = 2 ∧ (K = 2 ∨ K = 4)) ∨ (p = 3 ∧ K = 3) := by
    have : K = 1 ∨ K = 2 ∨ K = 3 ∨ K = 4 := by omega
    rcases this with rfl | rfl | rfl | rfl <;> rcases hp with rfl | rfl <;> simp_all
  have hm : mayOne (cnt p f) = false := by simp [mayOne]; omega
  rcases hc with ⟨rfl, rfl | rfl⟩ | ⟨rfl, rfl⟩ <;> simpa [wholeP, primesP] using hm
theorem oneR_true {K : Nat} {f : List Int} (h4 : K ≤ 4) (h1 : 1 ≤ K) (h : ∀ p, p = 2 ∨ p = 3 → K % p = 0 → cnt p f = 1) : wholeP mayOne K f = true := by
  have : K = 1 ∨ K = 2 ∨ K = 3 ∨ K = 4 := by omega
  rcases this with rfl | rfl | rfl | rfl
  · simp [wholeP, primesP]
  · have := h 2 (.inl rfl) rfl; simp [wholeP, primesP, mayOne] at *; omega
  · have := h 3 (.inr rfl) rfl; simp [wholeP, primesP, mayOne] at *; omega
  · have := h 2 (.inl rfl) rfl; simp [wholeP, primesP, mayOne] at *; omega
end Go.Proofs.YtdldadgnggaopaaDoor

namespace Go.Proofs.YtdldadgnggaopaaDoor
open Go.RowKit
set_option maxRecDepth 100000

/-- append(s, y) onto a list of one's own, in a region that draws. -/
theorem step_app1 {ops : Array Oper} {o : Oper} {a : Act} {w : World} {K : Act → World → Prop} {Q : Exit → Act → World → Prop} {Ep : Prop} (hgd : o.guard = none) (s x : Operand)
    (ho : o.op = .call { callee := .builtin .append, args := #[s, x], argTypes := #[22, 22] })
    (B : Nat) (v : Value) (xs : List Int) (y : Int) (b : Nat) (hs : a.eval s = v) (hx : a.eval x = .slice (some ⟨b, 0, none⟩) 1 1) (hown : OwnI B w v xs) (hc : w.cell? ⟨b, 0, none⟩ = some (.int .i64 y))
    (hlen : xs.length < 4398046511104) (hB : B ≤ w.heap.size)
    (h : ∀ v' w', OwnI B w' v' (xs ++ [y]) → Below B w w' → K (a.put o.dst v') w') :
    if Region.wanted o (yielded ops a.tmps) = true then Oper.wp Tryd.prog o a w K Q else Ep := by
  have hw : Region.wanted o (yielded ops a.tmps) = true := by simp [Region.wanted, hgd]
  rw [if_pos hw]
  obtain ⟨v', w', hr, h2, h3⟩ := run_app oneInts w B o.type v _ hown.toV ⟨b, 0, none⟩ 1 [.int .i64 y] (by simp) (fun j u hj => by
    obtain ⟨hj1, hj2⟩ := List.getElem?_eq_some_iff.1 hj
    obtain rfl : j = 0 := by simpa using hj1
    simp at hj2; subst hj2
    exact hc) (by simp [Value.oneCell']) (by simp; omega) hB
  rw [show ([.int .i64 y] : List Value).length = 1 from rfl] at hr
  unfold Oper.wp
  simp [execOp, ho, resolve, invoke, builtin, hs, hx, hr, Result.andThen]
  have ho' : OwnI B w' v' (xs ++ [y]) := OwnV.toI (by simpa using h2)
  rcases h3 with ⟨_, hg⟩ | ⟨_, hg⟩
  · exact h v' w' ho' ((Below.refl _ _).grown hg hB (fun k hk => (hown.lt k hk).1))
  · exact h v' w' ho' ((Below.refl _ _).grown hg hB (by intro k hk; cases hk))

theorem Box3.belowB {B : Nat} {w w' : World} {b : Nat} {x0 x1 x2 : Value} (h : Box3 w b x0 x1 x2) (hb : Below B w w') (hlt : b < B) : Box3 w' b x0 x1 x2 := by
  obtain ⟨⟨h0, h1, h2⟩, f0, f1, f2⟩ := h
  exact ⟨⟨(hb.cell (p := ⟨b, 0, none⟩) hlt).trans h0, (hb.cell (p := ⟨b, 1, none⟩) hlt).trans h1, (hb.cell (p := ⟨b, 2, none⟩) hlt).trans h2⟩, (hb.frozen (p := ⟨b, 0, none⟩) hlt).trans f0, (hb.frozen (p := ⟨b, 1, none⟩) hlt).trans f1, (hb.frozen (p := ⟨b, 2, none⟩) hlt).trans f2⟩
theorem Box3.far {w : World} {b b' : Nat} {x0 x1 x2 : Value} (h : Box3 w b x0 x1 x2) (hne : b' ≠ b) (i : Nat) (u : Value) : Box3 (w.setCell ⟨b', i, none⟩ u) b x0 x1 x2 := by
  obtain ⟨⟨h0, h1, h2⟩, f0, f1, f2⟩ := h
  refine ⟨⟨?_, ?_, ?_⟩, ?_, ?_, ?_⟩
  · rw [World.cell?_setCell_far _ _ _ _ hne]; exact h0
  · rw [World.cell?_setCell_far _ _ _ _ hne]; exact h1
  · rw [World.cell?_setCell_far _ _ _ _ hne]; exact h2
  · simpa using f0
  · simpa using f1
  · simpa using f2
theorem Box3.set2 {w : World} {b : Nat} {x0 x1 x2 : Value} (h : Box3 w b x0 x1 x2) (u : Value) : Box3 (w.setCell ⟨b, 2, none⟩ u) b x0 x1 u := by
  obtain ⟨⟨h0, h1, h2⟩, f0, f1, f2⟩ := h
  refine ⟨⟨?_, ?_, World.cell?_setCell_same _ _ _ h2⟩, ?_, ?_, ?_⟩
  · rw [World.cell?_setCell_other _ _ _ _ (by simp)]; exact h0
  · rw [World.cell?_setCell_other _ _ _ _ (by simp)]; exact h1
  · simpa using f0
  · simpa using f1
  · simpa using f2

end Go.Proofs.YtdldadgnggaopaaDoor
