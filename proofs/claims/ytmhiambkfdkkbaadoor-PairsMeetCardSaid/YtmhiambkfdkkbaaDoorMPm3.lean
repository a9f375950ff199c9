/-
  Plain mathematics: the sides of mirrored, renamed and composed rules.
  Plain mathematics: the preimages of a word, begin by begin; the next word; one preimage to each begin where the last place permutes.
  Walks: word.Check, word.Next.
  edenraw.Err in memory; walks: edenraw.Root, New, Under, (Err).Bad.
  Walk: edenraw.Under at an error.
  Walks: rule.Small, package overlap's first functions.
  Walks: edenref03.Bad, edenref04.Power, Digits, Check.
  Walks: package additive.
  Walks: edenref18.Fault.
  Walks: errors.Is and errors.As at a chain of Faults; the model's entries for internal/reflectlite at this program's types (after the kit's worked example Toyas).
  The model's entries for internal/reflectlite at a *api.Fault and at the address of a variable of that type (after the kit's worked example Toyas).
  Walk: errors.As at a Fault (after the kit's worked example Toyas).
  Walk: edenraw.Is at an error that is what it must be.
  Plain law of AddParts: a table is a sum just if each window is the sum of two.
  Plain mathematics of AddSums: a product may be turned; the factors of a sum at one symbol alone; factors taken modulo k.
  Plain mathematics: the reference's sums, window by window; what it tells by the factors; its products.
  Walk: edenref18.Sum.
  Plain mathematics of layer 13: pairs of nodes, their arrows; words and the nodes along them.
  Walks: overlap.Nodes, overlap.Edge at a small rule.
  Walks: slices.ContainsFunc, graph.Check.
  Walk: graph.back: the arrows the other way round.
  Walk: pairs.arrows.
  Walk: rule.Step at a rule and a word of its symbols.
  Walks: forms.symbol, forms.behind$1.
-/
import Derived.Test.YtmhiambkfdkkbaaDoorMPm2
import Derived.Deep.RegionLawGrows
import Derived.Deep.RegionHeld3
import Derived.LaidEql
import Derived.Stop.Asserts
import Derived.RowKitTokens
import Derived.Deep.LoopGhost
import Derived.Deep.DeepCutAuto
import Derived.BigQuiet
namespace Go.Proofs.YtmhiambkfdkkbaaDoor

theorem syms_cons {K : Nat} {s : Int} {u : List Int} (h0 : 0 ≤ s) (h1 : s < K) (hu : Syms K u) : Syms K (s :: u) := by
  intro y hy
  rcases List.mem_cons.1 hy with rfl | hy
  · exact ⟨h0, h1⟩
  · exact hu y hy
theorem syms_snoc {K : Nat} {s : Int} {u : List Int} (h0 : 0 ≤ s) (h1 : s < K) (hu : Syms K u) : Syms K (u ++ [s]) := by
  intro y hy
  rcases List.mem_append.1 hy with hy | hy
  · exact hu y hy
  · rw [List.mem_singleton] at hy; subst hy; exact ⟨h0, h1⟩
theorem syms_rev {K : Nat} {u : List Int} (hu : Syms K u) : Syms K u.reverse := fun y hy => hu y (List.mem_reverse.1 hy)

/-- The first symbol of the window permutes. -/
def LeftW (K m : Nat) (T : List Int) : Prop := ∀ u, Syms K u → u.length = m → ∀ s t : Int, 0 ≤ s → s < K → 0 ≤ t → t < K → s ≠ t → T.getD (numW K (s :: u)) 0 ≠ T.getD (numW K (t :: u)) 0
/-- The last one does. -/
def RightW (K m : Nat) (T : List Int) : Prop := ∀ u, Syms K u → u.length = m → ∀ s t : Int, 0 ≤ s → s < K → 0 ≤ t → t < K → s ≠ t → T.getD (numW K (u ++ [s])) 0 ≠ T.getD (numW K (u ++ [t])) 0

theorem unlike_leftW {K R : Nat} {T : List Int} (h : RuleOk K R T) : unlikeP K T (T.length / K) = true ↔ LeftW K (2 * R) T := by
  have h1 := h.k1
  obtain ⟨hW, hl⟩ := h.half
  have hp := pw_pos (K := K) (2 * R) h1
  rw [hW, unlikeP_iff]
  constructor
  · intro hu u hsy hul s t hs0 hs1 ht0 ht1 hne
    have hlt := numW_lt u hsy
    rw [hul] at hlt
    have hf := hu (numW K u) (by rw [hl]; have := Nat.mul_le_mul_left (pw K (2 * R)) h1; omega) (by rw [Nat.div_eq_of_lt hlt, Nat.zero_mod])
    have hf := (fullP_iff h1 h.k4 h.syms (pw K (2 * R)) _).1 hf
    rw [numW_cons, numW_cons, hul, Nat.add_comm (s.toNat * _), Nat.add_comm (t.toNat * _)]
    rcases Nat.lt_or_ge s.toNat t.toNat with hst | hst
    · exact hf _ _ hst (by omega)
    · exact (hf t.toNat s.toNat (by omega) (by omega)).symm
  · intro hw i hi hm
    have hiW : i < pw K (2 * R) := by
      have hdl : i / pw K (2 * R) < K := by rw [Nat.div_lt_iff_lt_mul (by omega), Nat.mul_comm, ← hl]; exact hi
      rw [Nat.mod_eq_of_lt hdl] at hm
      have := Nat.div_add_mod i (pw K (2 * R))
      have := Nat.mod_lt i (show pw K (2 * R) > 0 by omega)
      rw [hm] at *
      omega
    refine (fullP_iff h1 h.k4 h.syms (pw K (2 * R)) i).2 fun s t hst ht => ?_
    have := hw (digs K (2 * R) i) (digs_syms h1 _ _) (digs_length ..) s t (by omega) (by omega) (by omega) (by omega) (by omega)
    rwa [numW_cons, numW_cons, digs_length, numW_digs h1 _ _ hiW, Int.toNat_natCast, Int.toNat_natCast, Nat.add_comm (s * _), Nat.add_comm (t * _)] at this

theorem unlike_rightW {K R : Nat} {T : List Int} (h : RuleOk K R T) : unlikeP K T 1 = true ↔ RightW K (2 * R) T := by
  have h1 := h.k1
  obtain ⟨hW, hl⟩ := h.half
  rw [unlikeP_iff]
  constructor
  · intro hu u hsy hul s t hs0 hs1 ht0 ht1 hne
    have hlt := numW_lt u hsy
    rw [hul] at hlt
    have hf := hu (numW K u * K) (by rw [hl]; exact Nat.mul_lt_mul_of_pos_right hlt (by omega)) (by rw [Nat.div_one, Nat.mul_mod_left])
    have hf := (fullP_iff h1 h.k4 h.syms 1 _).1 hf
    rw [numW_snoc, numW_snoc]
    rcases Nat.lt_or_ge s.toNat t.toNat with hst | hst
    · have := hf _ _ hst (by omega); rwa [Nat.mul_one, Nat.mul_one] at this
    · have := (hf t.toNat s.toNat (by omega) (by omega)).symm; rwa [Nat.mul_one, Nat.mul_one] at this
  · intro hw i hi hm
    rw [Nat.div_one] at hm
    obtain ⟨q, rfl⟩ : ∃ q, i = q * K := ⟨i / K, by have := Nat.div_add_mod' i K; omega⟩
    have hq : q < pw K (2 * R) := Nat.lt_of_mul_lt_mul_right (a := K) (by rw [← hl]; exact hi)
    refine (fullP_iff h1 h.k4 h.syms 1 _).2 fun s t hst ht => ?_
    have := hw (digs K (2 * R) q) (digs_syms h1 _ _) (digs_length ..) s t (by omega) (by omega) (by omega) (by omega) (by omega)
    rwa [numW_snoc, numW_snoc, numW_digs h1 _ _ hq, Int.toNat_natCast, Int.toNat_natCast, ← Nat.mul_one s, ← Nat.mul_one t] at this

/-- Mirrored: the other sides. -/
theorem mir_leftW {K R : Nat} {T : List Int} (h : RuleOk K R T) : LeftW K (2 * R) (mirT K (2 * R + 1) T) ↔ RightW K (2 * R) T := by
  have e : ∀ (u : List Int) (s : Int), Syms K u → u.length = 2 * R → 0 ≤ s → s < K → (mirT K (2 * R + 1) T).getD (numW K (s :: u)) 0 = T.getD (numW K (u.reverse ++ [s])) 0 := fun u s hu hl h0 h1 => by
    have := mirT_at h.k1 h.len (s :: u) (syms_cons h0 h1 hu) (by simp [hl])
    rwa [List.reverse_cons] at this
  constructor
  · intro hw u hu hl s t a b c d hne
    have := hw u.reverse (syms_rev hu) (by simpa using hl) s t a b c d hne
    rwa [e _ _ (syms_rev hu) (by simpa using hl) a b, e _ _ (syms_rev hu) (by simpa using hl) c d, List.reverse_reverse] at this
  · intro hw u hu hl s t a b c d hne
    rw [e _ _ hu hl a b, e _ _ hu hl c d]
    exact hw u.reverse (syms_rev hu) (by simpa using hl) s t a b c d hne
theorem mir_rightW {K R : Nat} {T : List Int} (h : RuleOk K R T) : RightW K (2 * R) (mirT K (2 * R + 1) T) ↔ LeftW K (2 * R) T := by
  have e : ∀ (u : List Int) (s : Int), Syms K u → u.length = 2 * R → 0 ≤ s → s < K → (mirT K (2 * R + 1) T).getD (numW K (u ++ [s])) 0 = T.getD (numW K (s :: u.reverse)) 0 := fun u s hu hl h0 h1 => by
    have := mirT_at h.k1 h.len (u ++ [s]) (syms_snoc h0 h1 hu) (by simp [hl])
    rwa [List.reverse_append, List.reverse_singleton, List.singleton_append] at this
  constructor
  · intro hw u hu hl s t a b c d hne
    have := hw u.reverse (syms_rev hu) (by simpa using hl) s t a b c d hne
    rwa [e _ _ (syms_rev hu) (by simpa using hl) a b, e _ _ (syms_rev hu) (by simpa using hl) c d, List.reverse_reverse] at this
  · intro hw u hu hl s t a b c d hne
    rw [e _ _ hu hl a b, e _ _ hu hl c d]
    exact hw u.reverse (syms_rev hu) (by simpa using hl) s t a b c d hne
theorem mir_sides {K R : Nat} {T : List Int} (h : RuleOk K R T) :
    unlikeP K (mirT K (2 * R + 1) T) ((mirT K (2 * R + 1) T).length / K) = unlikeP K T 1 ∧ unlikeP K (mirT K (2 * R + 1) T) 1 = unlikeP K T (T.length / K) := by
  constructor
  · rw [Bool.eq_iff_iff, unlike_leftW (mirT_ok h), unlike_rightW h, mir_leftW h]
  · rw [Bool.eq_iff_iff, unlike_rightW (mirT_ok h), unlike_leftW h, mir_rightW h]

/-- One rule behind another. -/
theorem imgP_cons {K R : Nat} {T : List Int} {x : Int} {w : List Int} (h : 2 * R ≤ w.length) : imgP K R T (x :: w) = T.getD (numW K (x :: w.take (2 * R))) 0 :: imgP K R T w := by
  unfold imgP
  rw [show (x :: w).length - 2 * R = (w.length - 2 * R) + 1 by simp; omega, List.range_succ_eq_map, List.map_cons, List.map_map]
  congr 1
theorem behindT_length (K R1 : Nat) (T1 : List Int) (R2 : Nat) (T2 : List Int) : (behindT K R1 T1 R2 T2).length = pw K (2 * (R1 + R2) + 1) := by simp [behindT]
theorem behindT_at {K R1 R2 : Nat} {T1 T2 : List Int} (hK : 1 ≤ K) (w : List Int) (hw : Syms K w) (hl : w.length = 2 * (R1 + R2) + 1) : (behindT K R1 T1 R2 T2).getD (numW K w) 0 = T1.getD (numW K (imgP K R2 T2 w)) 0 := by
  have hlt := numW_lt w hw
  rw [hl] at hlt
  have : (behindT K R1 T1 R2 T2).getD (numW K w) 0 = T1.getD (numW K (imgP K R2 T2 (digs K (2 * (R1 + R2) + 1) (numW K w)))) 0 := by simp [behindT, List.getD, hlt]
  rw [this, ← hl, digs_numW hK w hw]
theorem behindT_ok {K R1 R2 : Nat} {T1 T2 : List Int} (h1 : RuleOk K R1 T1) (hR : R1 + R2 ≤ 3) : RuleOk K (R1 + R2) (behindT K R1 T1 R2 T2) :=
  ⟨h1.k1, h1.k4, hR, behindT_length .., fun y hy => by
    obtain ⟨i, _, rfl⟩ := List.mem_map.1 hy
    exact h1.syms.getD (by have := h1.k1; omega) _⟩
theorem behind_left {K R1 R2 : Nat} {T1 T2 : List Int} (h1 : RuleOk K R1 T1) (h2 : RuleOk K R2 T2) (w1 : LeftW K (2 * R1) T1) (w2 : LeftW K (2 * R2) T2) : LeftW K (2 * (R1 + R2)) (behindT K R1 T1 R2 T2) := by
  intro u hu hl s t a b c d hne
  have hk := h1.k1
  rw [behindT_at hk _ (syms_cons a b hu) (by simp [hl]), behindT_at hk _ (syms_cons c d hu) (by simp [hl]), imgP_cons (by omega), imgP_cons (by omega)]
  have htk : Syms K (u.take (2 * R2)) := fun y hy => hu y (List.mem_of_mem_take hy)
  have hne2 := w2 (u.take (2 * R2)) htk (by simp; omega) s t a b c d hne
  have s1 := h2.syms.getD (by omega) (numW K (s :: u.take (2 * R2)))
  have s2 := h2.syms.getD (by omega) (numW K (t :: u.take (2 * R2)))
  exact w1 (imgP K R2 T2 u) (imgP_syms hk h2.syms) (by rw [imgP_length]; omega) _ _ s1.1 s1.2 s2.1 s2.2 hne2
theorem behind_right {K R1 R2 : Nat} {T1 T2 : List Int} (h1 : RuleOk K R1 T1) (h2 : RuleOk K R2 T2) (w1 : RightW K (2 * R1) T1) (w2 : RightW K (2 * R2) T2) : RightW K (2 * (R1 + R2)) (behindT K R1 T1 R2 T2) := by
  intro u hu hl s t a b c d hne
  have hk := h1.k1
  have win : ∀ x : Int, 0 ≤ x → x < K → imgP K R2 T2 (u ++ [x]) = imgP K R2 T2 u ++ [T2.getD (numW K (u.drop (u.length - 2 * R2) ++ [x])) 0] := fun x x0 x1 => by
    rw [imgP_snoc h2.len (syms_snoc x0 x1 hu), if_pos (by omega)]
    have hdl : (u.drop (u.length - 2 * R2) ++ [x]).length = 2 * R2 + 1 := by simp; omega
    have := numW_mod (K := K) (u := u.take (u.length - 2 * R2)) (v := u.drop (u.length - 2 * R2) ++ [x]) (syms_snoc x0 x1 fun y hy => hu y (List.mem_of_mem_drop hy))
    rw [← List.append_assoc, List.take_append_drop, hdl, ← h2.len] at this
    rw [this]
  rw [behindT_at hk _ (syms_snoc a b hu) (by simp [hl]), behindT_at hk _ (syms_snoc c d hu) (by simp [hl]), win s a b, win t c d]
  have hdk : Syms K (u.drop (u.length - 2 * R2)) := fun y hy => hu y (List.mem_of_mem_drop hy)
  have hne2 := w2 (u.drop (u.length - 2 * R2)) hdk (by simp; omega) s t a b c d hne
  have s1 := h2.syms.getD (by omega) (numW K (u.drop (u.length - 2 * R2) ++ [s]))
  have s2 := h2.syms.getD (by omega) (numW K (u.drop (u.length - 2 * R2) ++ [t]))
  exact w1 (imgP K R2 T2 u) (imgP_syms hk h2.syms) (by rw [imgP_length]; omega) _ _ s1.1 s1.2 s2.1 s2.2 hne2
theorem behind_sides {K R1 R2 : Nat} {T1 T2 : List Int} (h1 : RuleOk K R1 T1) (h2 : RuleOk K R2 T2) (hR : R1 + R2 ≤ 3) :
    (unlikeP K T1 (T1.length / K) = true → unlikeP K T2 (T2.length / K) = true → unlikeP K (behindT K R1 T1 R2 T2) ((behindT K R1 T1 R2 T2).length / K) = true) ∧
    (unlikeP K T1 1 = true → unlikeP K T2 1 = true → unlikeP K (behindT K R1 T1 R2 T2) 1 = true) := by
  have hb := behindT_ok (T2 := T2) h1 hR
  rw [unlike_leftW h1, unlike_leftW h2, unlike_leftW hb, unlike_rightW h1, unlike_rightW h2, unlike_rightW hb]
  exact ⟨behind_left h1 h2, behind_right h1 h2⟩
end Go.Proofs.YtmhiambkfdkkbaaDoor

namespace Go.Proofs.YtmhiambkfdkkbaaDoor

/-- What goes on from a node. -/
def compl (K N : Nat) (T : List Int) : Nat → List Int → List (List Int)
  | _, [] => [[]]
  | node, y :: ws => (List.range K).flatMap fun s => if T.getD (node * K + s) 0 = y then (compl K N T ((node * K + s) % N) ws).map (fun c => (s : Int) :: c) else []
/-- By the first t symbols. -/
def complU (K N : Nat) (T : List Int) (node : Nat) (y : Int) (ws : List Int) (t : Nat) : List (List Int) :=
  (List.range t).flatMap fun s => if T.getD (node * K + s) 0 = y then (compl K N T ((node * K + s) % N) ws).map (fun c => (s : Int) :: c) else []
theorem compl_cons (K N : Nat) (T : List Int) (node : Nat) (y : Int) (ws : List Int) : compl K N T node (y :: ws) = complU K N T node y ws K := rfl
theorem complU_succ (K N : Nat) (T : List Int) (node : Nat) (y : Int) (ws : List Int) (t : Nat) :
    complU K N T node y ws (t + 1) = complU K N T node y ws t ++ if T.getD (node * K + t) 0 = y then (compl K N T ((node * K + t) % N) ws).map (fun c => (t : Int) :: c) else [] := by
  simp [complU, List.range_succ]

theorem flatMap_one {α : Type} (K : Nat) (g : Nat → List α) (s : Nat) (hs : s < K) (h : ∀ t, t < K → t ≠ s → g t = []) : (List.range K).flatMap g = g s := by
  induction K with
  | zero => omega
  | succ K ih =>
    rw [List.range_succ, List.flatMap_append, List.flatMap_singleton]
    by_cases e : s = K
    · subst e
      have : (List.range s).flatMap g = [] := List.flatMap_eq_nil_iff.2 fun t ht => h t (by have := List.mem_range.1 ht; omega) (by have := List.mem_range.1 ht; omega)
      rw [this, List.nil_append]
    · rw [ih (by omega) (fun t ht hne => h t (by omega) hne), h K (by omega) (fun e2 => e e2.symm), List.append_nil]

/-- Where the last place permutes just one word goes on. -/
theorem compl_one {K R : Nat} {T : List Int} (h : RuleOk K R T) (hp : unlikeP K T 1 = true) (ws : List Int) (hw : Syms K ws) (node : Nat) (hn : node < pw K (2 * R)) : (compl K (pw K (2 * R)) T node ws).length = 1 := by
  have h1 := h.k1
  induction ws generalizing node with
  | nil => rfl
  | cons y ws ih =>
    have hy := hw y (by simp)
    have hl := h.half.2
    have hf := unlikeP_full hp (node * K) (by rw [hl]; exact Nat.mul_lt_mul_of_pos_right hn (by omega)) (by rw [Nat.div_one, Nat.mul_mod_left])
    obtain ⟨s, hs, he⟩ := fullP_all h1 h.syms hf y.toNat (by omega)
    rw [Nat.mul_one] at he
    have hinj := (fullP_iff h1 h.k4 h.syms 1 _).1 hf
    rw [compl, flatMap_one K _ s hs]
    · rw [if_pos (by omega), List.length_map]
      exact ih (fun x hx => hw x (by simp [hx])) _ (Nat.mod_lt _ (pw_pos _ h1))
    · intro t ht hne
      rw [if_neg]
      intro e
      rcases Nat.lt_or_ge s t with hst | hst
      · have := hinj s t hst ht; rw [Nat.mul_one, Nat.mul_one] at this; exact this (by omega)
      · have := hinj t s (by omega) hs; rw [Nat.mul_one, Nat.mul_one] at this; exact this (by omega)

/-- All preimages, begin by begin. -/
def allBefore (K R : Nat) (T ws : List Int) (n : Nat) : List (List Int) := (List.range n).flatMap fun node => (compl K (pw K (2 * R)) T node ws).map fun c => digs K (2 * R) node ++ c
theorem allBefore_succ (K R : Nat) (T ws : List Int) (n : Nat) : allBefore K R T ws (n + 1) = allBefore K R T ws n ++ (compl K (pw K (2 * R)) T n ws).map fun c => digs K (2 * R) n ++ c := by
  simp [allBefore, List.range_succ]

/-- How many begin so. -/
def begins (n : Nat) (ends l : List Int) : Bool := decide (n ≤ l.length) && decide (l.take n = ends)
theorem begins_count {K R : Nat} {T : List Int} (h : RuleOk K R T) (hp : unlikeP K T 1 = true) (ws ends : List Int) (hw : Syms K ws) (he : Syms K ends) (hl : ends.length = 2 * R) :
    ((allBefore K R T ws (pw K (2 * R))).filter (begins (2 * R) ends)).length = 1 := by
  have h1 := h.k1
  have hlt := numW_lt ends he
  rw [hl] at hlt
  have hb : ∀ node, node < pw K (2 * R) → ∀ c, begins (2 * R) ends (digs K (2 * R) node ++ c) = decide (node = numW K ends) := fun node hn c => by
    have e1 : (digs K (2 * R) node ++ c).take (2 * R) = digs K (2 * R) node := List.take_left' (digs_length ..)
    rw [begins, e1, Bool.eq_iff_iff]
    simp only [List.length_append, digs_length, Bool.and_eq_true, decide_eq_true_eq]
    constructor
    · rintro ⟨_, e⟩; rw [← e, numW_digs h1 _ _ hn]
    · rintro rfl
      refine ⟨by omega, ?_⟩
      have := digs_numW h1 ends he
      rwa [hl] at this
  have hf : (allBefore K R T ws (pw K (2 * R))).filter (begins (2 * R) ends) = (compl K (pw K (2 * R)) T (numW K ends) ws).map fun c => digs K (2 * R) (numW K ends) ++ c := by
    rw [allBefore, List.filter_flatMap, flatMap_one _ _ (numW K ends) hlt]
    · refine List.filter_eq_self.2 fun l hl => ?_
      obtain ⟨c, _, rfl⟩ := List.mem_map.1 hl
      rw [hb _ hlt]; simp
    · intro t ht hne
      refine List.filter_eq_nil_iff.2 fun l hl => ?_
      obtain ⟨c, _, rfl⟩ := List.mem_map.1 hl
      rw [hb _ ht]; simpa using hne
  rw [hf, List.length_map]
  exact compl_one h hp ws hw _ hlt

/-- The next word: the last symbols, all K - 1, become 0; the one ahead of them is one more. -/
theorem numW_rep_max {K : Nat} (hK : 1 ≤ K) (j : Nat) : numW K (List.replicate j ((K : Int) - 1)) + 1 = pw K j := by
  induction j with
  | zero => rfl
  | succ j ih =>
    rw [List.replicate_succ', numW_snoc, pw_succ, ← ih]
    have : ((K : Int) - 1).toNat = K - 1 := by omega
    rw [this, Nat.add_mul]
    omega
theorem numW_rep_zero (K j : Nat) : numW K (List.replicate j 0) = 0 := by
  induction j with
  | zero => rfl
  | succ j ih => rw [List.replicate_succ', numW_snoc, ih]; simp
theorem next_word {K n x : Nat} (hK : 1 ≤ K) (hx : x < pw K n) (u : List Int) (a : Int) (j : Nat) (h : digs K n x = u ++ [a] ++ List.replicate j ((K : Int) - 1)) (ha : a < (K : Int) - 1) :
    digs K n (x + 1) = u ++ [a + 1] ++ List.replicate j 0 := by
  have hs := digs_syms hK n x
  have hl := congrArg List.length h
  have hn := congrArg (numW K) h
  rw [digs_length] at hl
  rw [numW_digs hK _ _ hx, numW_append, List.length_replicate, numW_snoc] at hn
  rw [h] at hs
  have hu : Syms K u := fun y hy => hs y (by simp [hy])
  have ha0 := hs a (by simp)
  have hw : Syms K (u ++ [a + 1] ++ List.replicate j 0) := by
    intro y hy
    rcases List.mem_append.1 hy with hy | hy
    · exact syms_snoc (by omega) (by omega) hu y hy
    · have := List.eq_of_mem_replicate hy; omega
  have e := digs_numW hK _ hw
  have hlen : (u ++ [a + 1] ++ List.replicate j 0).length = n := by simp at hl ⊢; omega
  rw [hlen] at e
  rw [← e]
  congr 1
  rw [numW_append, List.length_replicate, numW_snoc, numW_rep_zero, show (a + 1).toNat = a.toNat + 1 by omega, ← Nat.add_assoc, Nat.add_mul (numW K u * K + a.toNat)]
  have := numW_rep_max hK j
  omega
theorem digs_last {K n x : Nat} (hK : 1 ≤ K) (hx : x < pw K n) (h : digs K n x = List.replicate n ((K : Int) - 1)) : x + 1 = pw K n := by
  have hn := congrArg (numW K) h
  rw [numW_digs hK _ _ hx] at hn
  rw [hn, numW_rep_max hK]
theorem digs_zero (K n : Nat) : digs K n 0 = List.replicate n 0 := by
  induction n with
  | zero => rfl
  | succ n ih => rw [digs, Nat.zero_div, ih, List.replicate_succ']; simp
end Go.Proofs.YtmhiambkfdkkbaaDoor

namespace Go.Proofs.YtmhiambkfdkkbaaDoor
open Go.RowKit
set_option maxRecDepth 100000

theorem set_here (u : List Int) (a y : Int) (r : List Int) : (u ++ [a] ++ r).set u.length y = u ++ [y] ++ r := by
  rw [List.append_assoc, List.set_append_right _ _ (by omega)]; simp

end Go.Proofs.YtmhiambkfdkkbaaDoor

namespace Go.Proofs.YtmhiambkfdkkbaaDoor
open Go.RowKit
set_option maxRecDepth 100000

/-- What an edenraw.Err is in memory. -/
def EAt (w : World) (t : PErr) (v : Value) : Prop :=
  match t with
  | none => v = .agg #[.int .i64 0, .slice none 0 0, .slice none 0 0]
  | some (n, l) => ∃ a1 n1 c1 a2 n2 c2, v = .agg #[.int .i64 n, .slice a1 n1 c1, .slice a2 n2 c2] ∧ ValsAt w (.slice a1 n1 c1) (l.map fun x => Value.string x.1) ∧ IntsAt w (.slice a2 n2 c2) (l.map (·.2))

theorem EAt.below {w w' : World} {t : PErr} {v : Value} (h : EAt w t v) (hb : Below w.heap.size w w') : EAt w' t v := by
  match t, h with
  | none, h => exact h
  | some (n, l), ⟨a1, n1, c1, a2, n2, c2, e, h1, h2⟩ => exact ⟨a1, n1, c1, a2, n2, c2, e, h1.below hb, h2.below hb⟩

/-- An edenraw.Err whose lists this call made, from block B on. -/
def EOwn (B : Nat) (w : World) (t : PErr) (v : Value) : Prop :=
  match t with
  | none => v = .agg #[.int .i64 0, .slice none 0 0, .slice none 0 0]
  | some (n, l) => ∃ a1 n1 c1 a2 n2 c2, v = .agg #[.int .i64 n, .slice a1 n1 c1, .slice a2 n2 c2] ∧ OwnV 9 B w (.slice a1 n1 c1) (l.map fun x => Value.string x.1) ∧ OwnV 3 B w (.slice a2 n2 c2) ((l.map (·.2)).map (Value.int .i64))

theorem OwnV.setBelowBase {E : TypeId} {B : Nat} {w : World} {v : Value} {vs : List Value} (h : OwnV E B w v vs) {a : Addr} (ha : a.block < B) (u : Value) : OwnV E B (w.setCell a u) v vs := ownsRow_setCell_below h ha u
theorem EOwn.at {B : Nat} {w : World} {t : PErr} {v : Value} (h : EOwn B w t v) : EAt w t v := by
  match t, h with
  | none, h => exact h
  | some (n, l), ⟨a1, n1, c1, a2, n2, c2, e, h1, h2⟩ => exact ⟨a1, n1, c1, a2, n2, c2, e, h1.at, OwnI.at (OwnV.toI h2)⟩
theorem EOwn.mono {B B' : Nat} {w : World} {t : PErr} {v : Value} (h : EOwn B w t v) (hB : B' ≤ B) : EOwn B' w t v := by
  match t, h with
  | none, h => exact h
  | some (n, l), ⟨a1, n1, c1, a2, n2, c2, e, h1, h2⟩ => exact ⟨a1, n1, c1, a2, n2, c2, e, h1.mono hB, h2.mono hB⟩
theorem EOwn.below {B : Nat} {w w' : World} {t : PErr} {v : Value} (h : EOwn B w t v) (hb : Below w.heap.size w w') : EOwn B w' t v := by
  match t, h with
  | none, h => exact h
  | some (n, l), ⟨a1, n1, c1, a2, n2, c2, e, h1, h2⟩ => exact ⟨a1, n1, c1, a2, n2, c2, e, h1.below hb, h2.below hb⟩
theorem EOwn.set {B : Nat} {w : World} {t : PErr} {v : Value} (h : EOwn B w t v) {a : Addr} (ha : a.block < B) (u : Value) : EOwn B (w.setCell a u) t v := by
  match t, h with
  | none, h => exact h
  | some (n, l), ⟨a1, n1, c1, a2, n2, c2, e, h1, h2⟩ => exact ⟨a1, n1, c1, a2, n2, c2, e, h1.setBelowBase ha u, h2.setBelowBase ha u⟩
theorem EOwn.set3 {B b : Nat} {w : World} {t : PErr} {v : Value} (h : EOwn B w t v) (hb : b < B) (x y z : Value) : EOwn B (((w.setCell ⟨b, 0, none⟩ x).setCell ⟨b, 1, none⟩ y).setCell ⟨b, 2, none⟩ z) t v :=
  ((h.set (a := ⟨b, 0, none⟩) hb x).set (a := ⟨b, 1, none⟩) hb y).set (a := ⟨b, 2, none⟩) hb z
theorem Below.set3 {B b : Nat} {w0 w : World} (h : Below B w0 w) (hb : B ≤ b) (x y z : Value) : Below B w0 (((w.setCell ⟨b, 0, none⟩ x).setCell ⟨b, 1, none⟩ y).setCell ⟨b, 2, none⟩ z) :=
  ((h.setCell (p := ⟨b, 0, none⟩) hb x).setCell (p := ⟨b, 1, none⟩) hb y).setCell (p := ⟨b, 2, none⟩) hb z
theorem OwnV.lit {E : TypeId} (B : Nat) (w : World) (hB : B ≤ w.heap.size) (x : Value) : OwnV E B (w.alloc (.cells #[x] E)) (.slice (some ⟨w.heap.size, 0, none⟩) 1 1) [x] :=
  World.ownsRow_lit (base := B) (e := E) (size := 1) w #[x] 1 hB (by unfold maxLen; omega) rfl

theorem EAt.shape {w : World} {t : PErr} {v : Value} (h : EAt w t v) : ∃ n a1 n1 c1 a2 n2 c2, v = .agg #[.int .i64 n, .slice a1 n1 c1, .slice a2 n2 c2] := by
  match t, h with
  | none, h => exact ⟨0, none, 0, 0, none, 0, 0, h⟩
  | some (n, l), ⟨a1, n1, c1, a2, n2, c2, e, _⟩ => exact ⟨n, a1, n1, c1, a2, n2, c2, e⟩

abbrev zErr : Value := .agg #[.int .i64 0, .slice none 0 0, .slice none 0 0]
theorem EAt.none (w : World) : EAt w none zErr := rfl

theorem vals1 {w : World} {b : Nat} {u : Value} (h : w.cell? ⟨b, 0, none⟩ = some u) : ValsAt w (.slice (some ⟨b, 0, none⟩) 1 1) [u] :=
  ⟨some ⟨b, 0, none⟩, 1, rfl, by simp, by unfold maxLen; omega, (fun e => by cases e), fun i hi => by
    obtain rfl : i = 0 := by simpa using hi
    rw [valAt_row]; simpa using h⟩
theorem ints1 {w : World} {b : Nat} {x : Int} (h : w.cell? ⟨b, 0, none⟩ = some (.int .i64 x)) : IntsAt w (.slice (some ⟨b, 0, none⟩) 1 1) [x] :=
  ⟨some ⟨b, 0, none⟩, 1, rfl, by simp, by unfold maxLen; omega, (fun e => by cases e), fun i hi => by
    obtain rfl : i = 0 := by simpa using hi
    rw [valAt_row]; simpa using h⟩

theorem ValsAt.alloc {w : World} {v : Value} {vs : List Value} (h : ValsAt w v vs) (o : Obj) : ValsAt (w.alloc o) v vs := h.below ((Below.refl _ _).alloc (Nat.le_refl _) _)
theorem ValsAt.drew {w : World} {v : Value} {vs : List Value} (h : ValsAt w v vs) : ValsAt w.drew v vs := h
theorem ValsAt.split {w : World} {v : Value} {vs : List Value} (h : ValsAt w v vs) : (v = .slice none 0 0 ∧ vs = []) ∨ ∃ p cap, v = .slice (some p) vs.length cap ∧ ∀ j u, vs[j]? = some u → w.cell? (p.add j) = some u := by
  obtain ⟨a, cap, rfl, h1, h2, h3, h4⟩ := h
  cases a with
  | none =>
    obtain rfl := h3 rfl
    obtain rfl := List.length_eq_zero_iff.1 (show vs.length = 0 by omega)
    exact .inl ⟨rfl, rfl⟩
  | some p =>
    refine .inr ⟨p, cap, rfl, fun j u hj => ?_⟩
    have hjl : j < vs.length := (List.getElem?_eq_some_iff.1 hj).1
    have := h4 j hjl
    simp only [valAt] at this
    rw [this, ← hj]; simp [hjl]
theorem IntsAt.alloc {w : World} {v : Value} {xs : List Int} (h : IntsAt w v xs) (o : Obj) : IntsAt (w.alloc o) v xs := h.below ((Below.refl _ _).alloc (Nat.le_refl _) _)

/-- append([]T{x}, ys...) in a region that draws. -/
theorem step_under {T E : TypeId} {z : Value} {bytes : Nat} (oc : OneCell T E z bytes) {ops : Array Oper} {o : Oper} {a : Act} {w : World} {K : Act → World → Prop} {Q : Exit → Act → World → Prop} {Ep : Prop}
    (hg : o.guard = none) (s x : Operand) (hop : o.op = Op.call { callee := Callee.builtin Builtin.append, args := #[s, x], argTypes := #[T, T] })
    (b : Nat) (x0 : Value) (hs : a.eval s = .slice (some ⟨b, 0, none⟩) 1 1) (hb : w.cell? ⟨b, 0, none⟩ = some x0)
    (u : Value) (ys : List Value) (hx : a.eval x = u) (hu : ValsAt w u ys) (h0 : 0 < ys.length) (hl : ys.length ≤ 1000) (h1 : ∀ u ∈ ys, u.oneCell' = true)
    (hK : ∀ v' w', OwnV E w.heap.size w' v' (x0 :: ys) → Below w.heap.size w w' → K (a.put o.dst v') w') :
    if Region.wanted o (yielded ops a.tmps) = true then Oper.wp Tryd.prog o a w K Q else Ep := by
  obtain ⟨i, hi, hz0, hz1, hz2⟩ := info_parts oc.hi
  rcases hu.split with ⟨_, rfl⟩ | ⟨p, cap, rfl, hc⟩
  · simp at h0
  · have hb' := oc.hb
    refine step_append_grows hg s x T hop E i z 1 bytes oc.ht hi hz0 hz1 hz2 (by rw [oc.hz]; rfl) (by decide) (some ⟨b, 0, none⟩) 1 1 [x0] hs (fun h => by cases h) rfl
      (fun b' hb2 j u hj => by
        obtain rfl := Option.some.inj hb2
        obtain ⟨hj1, hj2⟩ := List.getElem?_eq_some_iff.1 hj
        obtain rfl : j = 0 := by simpa using hj1
        simp at hj2; subst hj2
        exact hb) p ys.length cap ys hx (by simp) hc h1 (by omega) (by unfold maxLen; omega) (by
          calc (1 + ys.length) * bytes ≤ 1001 * 32 := Nat.mul_le_mul (by omega) hb'
            _ ≤ _ := by decide) ?_
    intro v' w' hown hgr
    have hv : OwnV E w.heap.size w' v' (x0 :: ys) := by
      unfold OwnV
      rw [show (x0 :: ys).length = 1 + ys.length by simp; omega]
      exact hown
    exact hK v' w' hv ((Below.refl _ _).grown hgr (Nat.le_refl _) (by intro k hk; cases hk))

end Go.Proofs.YtmhiambkfdkkbaaDoor

namespace Go.Proofs.YtmhiambkfdkkbaaDoor
open Go.RowKit
set_option maxRecDepth 100000

theorem ValsAt.shape {w : World} {v : Value} {vs : List Value} (h : ValsAt w v vs) : ∃ a n c, v = .slice a n c := by
  obtain ⟨a, cap, e, _⟩ := h; exact ⟨_, _, _, e⟩
theorem cell_keep {w w' : World} {b i : Nat} {x : Value} (hb : Below w.heap.size w w') (h : w.cell? ⟨b, i, none⟩ = some x) : w'.cell? ⟨b, i, none⟩ = some x :=
  (hb.cell (p := ⟨b, i, none⟩) (World.block_lt_of_cell? _ _ h)).trans h
theorem cell_alloc {w : World} {b i : Nat} {x : Value} (h : w.cell? ⟨b, i, none⟩ = some x) (o : Obj) : (w.alloc o).cell? ⟨b, i, none⟩ = some x := cell_keep ((Below.refl _ _).alloc (Nat.le_refl _) _) h
theorem cell_new {w : World} {b : Nat} {x : Value} {T : TypeId} (hb : b = w.heap.size) : (w.alloc (.cells #[x] T)).cell? ⟨b, 0, none⟩ = some x := by subst hb; simp
theorem cell_drew {w : World} {b i : Nat} {x : Value} (h : w.cell? ⟨b, i, none⟩ = some x) : w.drew.cell? ⟨b, i, none⟩ = some x := h

/-- Three cells of a variable of the call's own. -/
def Box3 (w : World) (b : Nat) (x0 x1 x2 : Value) : Prop := (w.cell? ⟨b, 0, none⟩ = some x0 ∧ w.cell? ⟨b, 1, none⟩ = some x1 ∧ w.cell? ⟨b, 2, none⟩ = some x2) ∧ w.frozen? ⟨b, 0, none⟩ = false ∧ w.frozen? ⟨b, 1, none⟩ = false ∧ w.frozen? ⟨b, 2, none⟩ = false
theorem Box3.below {w w' : World} {b : Nat} {x0 x1 x2 : Value} (h : Box3 w b x0 x1 x2) (hb : Below w.heap.size w w') : Box3 w' b x0 x1 x2 := by
  obtain ⟨⟨h0, h1, h2⟩, f0, f1, f2⟩ := h
  have hlt := World.block_lt_of_cell? _ _ h0
  exact ⟨⟨cell_keep hb h0, cell_keep hb h1, cell_keep hb h2⟩, (hb.frozen (p := ⟨b, 0, none⟩) hlt).trans f0, (hb.frozen (p := ⟨b, 1, none⟩) hlt).trans f1, (hb.frozen (p := ⟨b, 2, none⟩) hlt).trans f2⟩
theorem Box3.alloc {w : World} {b : Nat} {x0 x1 x2 : Value} (h : Box3 w b x0 x1 x2) (o : Obj) : Box3 (w.alloc o) b x0 x1 x2 := h.below ((Below.refl _ _).alloc (Nat.le_refl _) _)
theorem Box3.drew {w : World} {b : Nat} {x0 x1 x2 : Value} (h : Box3 w b x0 x1 x2) : Box3 w.drew b x0 x1 x2 := h
theorem OwnV.drew {E : TypeId} {B : Nat} {w : World} {v : Value} {vs : List Value} (h : OwnV E B w v vs) : OwnV E B w.drew v vs := h
theorem Below.allocL {w w' : World} (h : Below w.heap.size w w') (o : Obj) : Below w.heap.size w (w'.alloc o) := h.alloc h.size o
theorem Below.stepL {w1 w2 w3 : World} (h : Below w1.heap.size w1 w2) (k : Below w2.heap.size w2 w3) : Below w1.heap.size w1 w3 := h.trans (k.mono h.size)
theorem belowAlloc' (w : World) (o : Obj) : Below w.heap.size w (w.alloc o) := (Below.refl _ _).alloc (Nat.le_refl _) _
theorem Below.drewL {w w' : World} {n : Nat} (h : Below n w w') : Below n w w'.drew := h.drew

end Go.Proofs.YtmhiambkfdkkbaaDoor

namespace Go.Proofs.YtmhiambkfdkkbaaDoor
open Go.RowKit
set_option maxRecDepth 100000

def sOverlap : ByteArray := ⟨#[111, 118, 101, 114, 108, 97, 112]⟩
/-- rule.Small's answer. -/
def smallP (k R : Int) (T : List Int) : PErr :=
  match checkP k R T with
  | some t => some t
  | none => if 256 < T.length then fresh sRule 0 4 else none
theorem smallP_ok {K R : Nat} {T : List Int} (h : RuleOk K R T) : smallP K R T = if 256 < T.length then fresh sRule 0 4 else none := by
  unfold smallP; rw [h.check]
theorem smallP_none {k R : Int} {T : List Int} (h : smallP k R T = none) : checkP k R T = none ∧ T.length ≤ 256 := by
  unfold smallP at h
  cases hc : checkP k R T with
  | some t => rw [hc] at h; cases h
  | none =>
    rw [hc] at h
    refine ⟨rfl, ?_⟩
    by_cases hl : 256 < T.length
    · rw [if_pos hl] at h; simp [fresh] at h
    · omega

theorem small_any (r : Nat → Addr) (k R : Int) (va : Option Addr) (vn vc : Nat) (T : List Int) (w : World) (hg : Glob r w) (h : IntsAt w (.slice va vn vc) T) :
    Calls Tryd.prog 32 #[.agg #[.int .i64 k, .int .i64 R, .slice va vn vc]] w (Ret1 (fun x w' => ErrIs r w' (smallP k R T) x) w) := by
  have b0 := belowAlloc w (.cells #[.int .i64 k, .int .i64 R, .slice va vn vc] 24)
  have q : Box3 (w.alloc (.cells #[.int .i64 k, .int .i64 R, .slice va vn vc] 24)) w.heap.size (.int .i64 k) (.int .i64 R) (.slice va vn vc) := by simp [Box3, go_sem]
  have lT := h.len
  replace hg := Lib.hid (hg.below b0)
  replace h := Lib.hid (h.below b0)
  obtain ⟨e0, hsm, he0⟩ : ∃ e0, (smallP k R T = match e0 with | some t => some t | none => if 256 < T.length then fresh sRule 0 4 else none) ∧ checkP k R T = e0 := ⟨_, rfl, rfl⟩
  replace he0 := Lib.hid he0
  go_enter Tryd.func32, Tryd.ntmps32
  go_wp2_with fail
  refine (check_any r k R _ T _ hg.out h.out).mono ?_
  rintro e w1 ⟨x, rfl, b1, he⟩
  rw [he0.out] at he
  cases e0 with
  | some t =>
    simp only [] at hsm
    replace hsm := Lib.hid hsm
    obtain ⟨T1, a1, rfl⟩ := ErrIs.some_shape he
    replace he := Lib.hid he
    go_wp2
    go_ret
    exact ⟨_, rfl, Below.step b0 b1, by rw [hsm.out]; exact he.out⟩
  | none =>
    obtain rfl := he.none_eq
    simp only [] at hsm
    clear he
    obtain ⟨⟨z0, z1, z2⟩, -, -, -⟩ := q.below b1
    by_cases hl : 256 < T.length
    · rw [if_pos hl] at hsm
      replace hsm := Lib.hid hsm
      go_wp2_with fail
      refine (rule_wrong r _ _ _ (hg.out.below b1) (by decide) (by decide)).mono ?_
      rintro e w2 ⟨x, rfl, b2, he⟩
      go_wp2
      go_ret
      exact ⟨_, rfl, Below.step b0 (Below.step b1 b2), by rw [hsm.out]; exact he⟩
    · rw [if_neg hl] at hsm
      replace hsm := Lib.hid hsm
      go_wp2
      go_ret
      exact ⟨_, rfl, Below.step b0 b1, by rw [hsm.out]; rfl⟩

theorem over_small (r : Nat → Addr) (k R : Int) (va : Option Addr) (vn vc : Nat) (T : List Int) (w : World) (hg : Glob r w) (h : IntsAt w (.slice va vn vc) T) :
    Calls Tryd.prog 84 #[.agg #[.int .i64 k, .int .i64 R, .slice va vn vc]] w (Ret1 (fun x w' => ErrIs r w' (under sOverlap 0 (smallP k R T)) x) w) := by
  have b0 := belowAlloc w (.cells #[.int .i64 k, .int .i64 R, .slice va vn vc] 24)
  replace hg := Lib.hid (hg.below b0)
  replace h := Lib.hid (h.below b0)
  go_enter Tryd.func84, Tryd.ntmps84
  go_wp2_with fail
  refine (small_any r k R va vn vc T _ hg.out h.out).mono ?_
  rintro e w1 ⟨x, rfl, b1, he⟩
  go_wp2_with fail
  refine (under_any r _ 0 _ x _ he).mono ?_
  rintro e w2 ⟨y, rfl, b2, hy⟩
  go_wp2
  go_ret
  exact ⟨_, rfl, Below.step b0 (Below.step b1 b2), hy⟩

theorem over_wrong (r : Nat → Addr) (at_ n : Int) (w : World) (hg : Glob r w) (h1 : 1 ≤ n) (h2 : n ≤ 11) :
    Calls Tryd.prog 87 #[.int .i64 at_, .int .i64 n] w (Ret1 (fun v w' => ErrIs r w' (fresh sOverlap at_ n) v) w) := by
  go_enter Tryd.func87, Tryd.ntmps87
  go_wp2_with fail
  refine (new_any r _ at_ n w hg h1 h2).mono ?_
  rintro e w' ⟨v, rfl, hb, he⟩
  go_wp2
  go_ret
  exact ⟨_, rfl, hb, he⟩

theorem over_nodes (K R : Nat) (va : Option Addr) (vn vc : Nat) (T : List Int) (w : World) (h : IntsAt w (.slice va vn vc) T) (h1 : 1 ≤ K) (hT : T.length ≤ 16384) :
    Calls Tryd.prog 85 #[.agg #[.int .i64 K, .int .i64 R, .slice va vn vc]] w fun e w' => e = .returned (.int .i64 ((T.length / K : Nat) : Int)) ∧ w' = w.alloc (.cells #[.int .i64 K, .int .i64 R, .slice va vn vc] 24) := by
  have hK0 : ((K : Int) == 0) = false := by rw [beq_eq_false_iff_ne]; omega
  have hK1 : ¬ (K : Int) = 0 := by omega
  have hK2 : (0 : Int) < K := by omega
  have hK3 : ¬ K = 0 := by omega
  have lT := h.len
  have hq0 : 0 ≤ (T.length : Int) / (K : Int) := Int.ediv_nonneg (by omega) (by omega)
  have hqc : (T.length : Int) / (K : Int) = ((T.length / K : Nat) : Int) := by simp
  have hqw : IntKind.i64.wrap ((T.length : Int) / (K : Int)) = (T.length : Int) / (K : Int) := by
    have : T.length / K ≤ 16384 := Nat.le_trans (Nat.div_le_self _ _) hT
    exact wrapK (by omega) (by rw [hqc]; omega)
  rw [← hqc]
  replace hqc := Lib.hid hqc
  go_enter Tryd.func85, Tryd.ntmps85
  go_wp2
  go_ret
  exact ⟨rfl, rfl⟩

theorem over_check1 (x k : Int) (b : Nat) (w : World) (hb : w.cell? ⟨b, 0, none⟩ = some (.int .i64 k)) :
    Calls Tryd.prog 114 #[.int .i64 x, .pointer (some ⟨b, 0, none⟩)] w fun e w' => e = .returned (.bool (odd1 k x)) ∧ w = w' := by
  by_cases h : x < 0
  · have e : odd1 k x = true := by simp [odd1, h]
    rw [e]
    go_enter Tryd.func114, Tryd.ntmps114
    go_wp2
    go_ret
    exact ⟨rfl, rfl⟩
  · have e : odd1 k x = decide (k ≤ x) := by simp [odd1, h]
    rw [e]
    go_enter Tryd.func114, Tryd.ntmps114
    go_wp2
    go_ret
    exact ⟨ret_bool (by simp), rfl⟩
theorem eg_over_check1 (args : Array Value) (w : World) : (callFunc 114 args).run Tryd.prog w = .ok (.enter 114 args) w := by kernel_rfl

/-- overlap.check's answer. -/
def overP (k R : Int) (T ws : List Int) (most : Int) : PErr :=
  match smallP k R T with
  | some t => under sOverlap 0 (some t)
  | none => if most < ws.length then fresh sOverlap 1 4 else if idxOf (odd1 k) ws = -1 then none else fresh sOverlap (idxOf (odd1 k) ws) 2

set_option maxHeartbeats 1000000 in
theorem over_check (r : Nat → Addr) (k R : Int) (va : Option Addr) (vn vc : Nat) (T : List Int) (u : Value) (ws : List Int) (most : Int) (w : World) (hg : Glob r w) (h : IntsAt w (.slice va vn vc) T) (hu : IntsAt w u ws) :
    Calls Tryd.prog 86 #[.agg #[.int .i64 k, .int .i64 R, .slice va vn vc], u, .int .i64 most] w (Ret1 (fun x w' => ErrIs r w' (overP k R T ws most) x) w) := by
  have b0 := belowAlloc w (.cells #[.int .i64 k, .int .i64 R, .slice va vn vc] 24)
  have q : Box3 (w.alloc (.cells #[.int .i64 k, .int .i64 R, .slice va vn vc] 24)) w.heap.size (.int .i64 k) (.int .i64 R) (.slice va vn vc) := by simp [Box3, go_sem]
  have l1 := hu.len
  have lm := hu.len_le
  obtain ⟨a1, n1, c1, rfl⟩ := hu.shape
  replace hg := Lib.hid (hg.below b0)
  replace h := Lib.hid (h.below b0)
  replace hu := Lib.hid (hu.below b0)
  obtain ⟨e0, hsm, he0⟩ : ∃ e0, (overP k R T ws most = match e0 with | some t => under sOverlap 0 (some t) | none => if most < ws.length then fresh sOverlap 1 4 else if idxOf (odd1 k) ws = -1 then none else fresh sOverlap (idxOf (odd1 k) ws) 2) ∧ smallP k R T = e0 := ⟨_, rfl, rfl⟩
  replace he0 := Lib.hid he0
  go_enter Tryd.func86, Tryd.ntmps86
  go_wp2_with fail
  refine (over_small r k R va vn vc T _ hg.out h.out).mono ?_
  rintro e w1 ⟨x, rfl, b1, he⟩
  rw [he0.out] at he
  cases e0 with
  | some t =>
    simp only [] at hsm
    replace hsm := Lib.hid hsm
    obtain ⟨T1, a1, rfl⟩ := ErrIs.some_shape he
    replace he := Lib.hid he
    go_wp2
    go_ret
    exact ⟨_, rfl, Below.step b0 b1, by rw [hsm.out]; exact he.out⟩
  | none =>
    obtain rfl := he.none_eq
    simp only [] at hsm
    clear he
    obtain ⟨⟨z0, z1, z2⟩, -, -, -⟩ := q.below b1
    by_cases hl : most < ws.length
    · rw [if_pos hl] at hsm
      replace hsm := Lib.hid hsm
      go_wp2_with fail
      refine (over_wrong r _ _ _ (hg.out.below b1) (by decide) (by decide)).mono ?_
      rintro e w2 ⟨x, rfl, b2, he⟩
      go_wp2
      go_ret
      exact ⟨_, rfl, Below.step b0 (Below.step b1 b2), by rw [hsm.out]; exact he⟩
    · rw [if_neg hl] at hsm
      rcases idxOf_cases (odd1 k) ws with ⟨hi, _⟩ | ⟨i, hi, hi', _⟩
      · rw [if_pos hi] at hsm
        replace hi := Lib.hid hi
        replace hsm := Lib.hid hsm
        go_wp2_with fail
        refine (indexFunc_any _ _ 114 ws (odd1 k) _ (hu.out.below b1) eg_over_check1 (fun x _ => over_check1 x k _ _ z0)).mono ?_
        rintro e w2 ⟨rfl, rfl⟩
        rw [hi.out]
        go_wp2
        go_ret
        exact ⟨_, rfl, Below.step b0 b1, by rw [hsm.out]; rfl⟩
      · rw [if_neg (by omega), hi] at hsm
        replace hi := Lib.hid hi
        replace hsm := Lib.hid hsm
        go_wp2_with fail
        refine (indexFunc_any _ _ 114 ws (odd1 k) _ (hu.out.below b1) eg_over_check1 (fun x _ => over_check1 x k _ _ z0)).mono ?_
        rintro e w2 ⟨rfl, rfl⟩
        rw [hi.out]
        go_wp2_with fail
        refine (over_wrong r _ _ _ (hg.out.below b1) (by decide) (by decide)).mono ?_
        rintro e w2 ⟨x, rfl, b2, he⟩
        go_wp2
        go_ret
        exact ⟨_, rfl, Below.step b0 (Below.step b1 b2), by rw [hsm.out]; exact he⟩
end Go.Proofs.YtmhiambkfdkkbaaDoor

namespace Go.Proofs.YtmhiambkfdkkbaaDoor
open Go.RowKit
set_option maxRecDepth 100000

theorem EOwn.shape {B : Nat} {w : World} {t : PErr} {v : Value} (h : EOwn B w t v) : ∃ n a1 n1 c1 a2 n2 c2, v = .agg #[.int .i64 n, .slice a1 n1 c1, .slice a2 n2 c2] := h.at.shape

/-- Two boxes of three cells: they stay. -/
theorem cells6 {w w1 : World} {x0 x1 x2 x3 x4 x5 : Value} {T1 T2 : TypeId} (hb : Below ((w.alloc (.cells #[x0, x1, x2] T1)).alloc (.cells #[x3, x4, x5] T2)).heap.size ((w.alloc (.cells #[x0, x1, x2] T1)).alloc (.cells #[x3, x4, x5] T2)) w1) :
    (w1.cell? ⟨w.heap.size, 0, none⟩ = some x0 ∧ w1.cell? ⟨w.heap.size, 1, none⟩ = some x1 ∧ w1.cell? ⟨w.heap.size, 2, none⟩ = some x2) ∧
    (w1.cell? ⟨w.heap.size + 1, 0, none⟩ = some x3 ∧ w1.cell? ⟨w.heap.size + 1, 1, none⟩ = some x4 ∧ w1.cell? ⟨w.heap.size + 1, 2, none⟩ = some x5) ∧
    (w1.frozen? ⟨w.heap.size + 1, 0, none⟩ = false ∧ w1.frozen? ⟨w.heap.size + 1, 1, none⟩ = false ∧ w1.frozen? ⟨w.heap.size + 1, 2, none⟩ = false) := by
  refine ⟨keep3 (n := w.heap.size) hb ⟨by simp [go_sem], by simp [go_sem], by simp [go_sem]⟩, ?_⟩
  have := cells3 hb
  rw [show (w.alloc (.cells #[x0, x1, x2] T1)).heap.size = w.heap.size + 1 by simp] at this
  exact ⟨⟨this.1, this.2.1, this.2.2.1⟩, this.2.2.2⟩

theorem undraw {w w1 : World} {n : Nat} (h : Below (w.drewN n).heap.size (w.drewN n) w1) : Below w.heap.size w w1 := (below_drewN (Below.refl w.heap.size w) n).trans h

theorem below_set3 {B b : Nat} {w0 w : World} (h : Below B w0 w) (hb : B ≤ b) (x y z : Value) : Below B w0 (((w.setCell ⟨b, 0, none⟩ x).setCell ⟨b, 1, none⟩ y).setCell ⟨b, 2, none⟩ z) :=
  ((h.setCell (p := ⟨b, 0, none⟩) hb x).setCell (p := ⟨b, 1, none⟩) hb y).setCell (p := ⟨b, 2, none⟩) hb z

end Go.Proofs.YtmhiambkfdkkbaaDoor

namespace Go.Proofs.YtmhiambkfdkkbaaDoor
open Go.RowKit
set_option maxRecDepth 100000

theorem mul3 {x s : Int} (hx : 0 ≤ x ∧ x < 4) (hs : 0 ≤ s ∧ s < 4) : 0 ≤ x * s ∧ x * s ≤ 9 := by
  obtain ⟨h1, h2⟩ := hx
  obtain ⟨h3, h4⟩ := hs
  have a : x = 0 ∨ x = 1 ∨ x = 2 ∨ x = 3 := by omega
  rcases a with rfl | rfl | rfl | rfl <;> omega

/-- The zero rule's value. -/
abbrev zRule : Value := .agg #[.int .i64 0, .int .i64 0, .slice none 0 0]

end Go.Proofs.YtmhiambkfdkkbaaDoor

namespace Go.Proofs.YtmhiambkfdkkbaaDoor
open Go.RowKit
set_option maxRecDepth 100000

end Go.Proofs.YtmhiambkfdkkbaaDoor

namespace Go.Proofs.YtmhiambkfdkkbaaDoor
open Go.RowKit Go.Extern.Stop Go.Stop Go.Extern
set_option maxRecDepth 100000
namespace Errs

theorem comparableE (w : World) : ((ReflectliteType.method fun t => do Rtype.noPackHeld "Comparable" t; (fun a => Value.bool a.comparable) <$> typeInfo t) #[.agg #[.pointer (some ⟨12, 167, none⟩)]]).run Tryd.prog w = .ok (.bool true) w := by kernel_rfl
theorem compE : (Tryd.prog.info? 167).map (·.comparable) = some true := by kernel_rfl
theorem sizeE : (Tryd.prog.info? 184).map (·.size) = some 1 := by kernel_rfl
theorem uErr : Tryd.prog.underlying 29 = some (.interface #[("Error", 168)]) := by kernel_rfl
theorem uES : Tryd.prog.underlying 167 = some (.pointer 184) := by kernel_rfl
end Errs
end Go.Proofs.YtmhiambkfdkkbaaDoor

namespace Go.Proofs.YtmhiambkfdkkbaaDoor
open Go.RowKit Go.Extern.Stop Go.Stop Go.Extern
set_option maxRecDepth 100000
namespace Errs

/-! errors.As at a Fault: the target a *api.Fault variable. -/
theorem uF : Tryd.prog.underlying 101 = some (.pointer 103) := by kernel_rfl
theorem kindF (w : World) : ((ReflectliteType.abiMethod fun t => (fun a : Nat => Value.int IntKind.u8 (a : Int)) <$> Rtype.kind t) #[.pointer (some ⟨12, 101, none⟩)]).run Tryd.prog w = .ok (.int .u8 22) w := by kernel_rfl
theorem rlm (z : Sem Value) (f : TypeId → Addr → Nat → Nat → Sem Value) (v : Value) :
    ReflectliteValue.method z f #[v] = (do match ← ReflectliteValue.parts v with | none => z | some (t, a, fl) => f t a fl (fl % 32)) := rfl
theorem valueOfF (e : Addr) (w : World) : (ReflectliteValue.unpack (.iface 101 (.pointer (some e)))).run Tryd.prog w
    = .ok (.agg #[.pointer (some ⟨12, 101, none⟩), .pointer (some ⟨w.heap.size, 0, none⟩), .int .u64 150]) (w.alloc (.cells #[.pointer (some e)] 101)) := by kernel_rfl
theorem mkF (p : Addr) (w : World) : (ReflectliteValue.mk 101 p ReflectliteValue.flagAddr).run Tryd.prog w = .ok (.agg #[.pointer (some ⟨12, 101, none⟩), .pointer (some p), .int .u64 406]) w := by kernel_rfl
theorem rls (v x : Value) : ReflectliteValue.set #[v, x] = (do
    let (some (dst, a, fl), some (src, b, _)) := (← ReflectliteValue.parts v, ← ReflectliteValue.parts x)
      | unsupported (.noEntry "extern/(internal/reflectlite.Value).Set.zeroValue")
    if fl / ReflectliteValue.flagAddr % 2 == 0 then unsupported (.noEntry "extern/(internal/reflectlite.Value).Set.unaddressable")
    let val ← loadVar src b
    if ← Rtype.directlyAssignable dst src then storeVar dst a val
    else if ← Rtype.implements dst src then
      if (← Rtype.kind src) == 20 then
        match val with
        | .nilIface => unsupported (.noEntry "extern/reflectlite: a nil value of one interface type handed on as a value of another")
        | _ => storeVar dst a val
      else storeVar dst a (.iface src val)
    else panicString ("reflectlite.Set: value of type " ++ (← Rtype.spelt src) ++ " is not assignable to type " ++ (← Rtype.spelt dst))
    pure (.tuple #[])) := rfl
theorem partsFa (a : Addr) (w : World) : (ReflectliteValue.parts (.agg #[.pointer (some ⟨12, 101, none⟩), .pointer (some a), .int .u64 406])).run Tryd.prog w = .ok (some (101, a, 406)) w := by kernel_rfl
theorem partsF (a : Addr) (w : World) : (ReflectliteValue.parts (.agg #[.pointer (some ⟨12, 101, none⟩), .pointer (some a), .int .u64 150])).run Tryd.prog w = .ok (some (101, a, 150)) w := by kernel_rfl
theorem directF (w : World) : (Rtype.directlyAssignable 101 101).run Tryd.prog w = .ok true w := by kernel_rfl
theorem setF (ta b e : Addr) (old : Value) (W : World) (hb : W.cell? b = some (.pointer (some e))) (ht : W.cell? ta = some old) (hf : W.frozen? ta = false) :
    (ReflectliteValue.set #[.agg #[.pointer (some ⟨12, 101, none⟩), .pointer (some ta), .int .u64 406], .agg #[.pointer (some ⟨12, 101, none⟩), .pointer (some b), .int .u64 150]]).run Tryd.prog W
      = .ok (.tuple #[]) (W.setCell ta (.pointer (some e))) := by
  rw [rls]
  simp only [Sem.run_bind, partsFa, partsF, Result.andThen]
  simp [ReflectliteValue.flagAddr, loadVar, isAgg, underlying, hb, Result.andThen, directF, storeVar, Value.cells, storeCells, Addr.add]
  rw [run_store Tryd.prog W ta _ _ (by rfl)]
  simp [ht, hf]

end Errs
end Go.Proofs.YtmhiambkfdkkbaaDoor

namespace Go.Proofs.YtmhiambkfdkkbaaDoor
open Go.RowKit Go.Extern.Stop Go.Stop Go.Extern
set_option maxRecDepth 100000
namespace Errs
end Errs
end Go.Proofs.YtmhiambkfdkkbaaDoor

namespace Go.Proofs.YtmhiambkfdkkbaaDoor
open Go.RowKit
set_option maxRecDepth 100000

/-- An error's number and length are as every error's. -/
def PErr.Fine (t : PErr) : Prop := match t with | none => True | some (n, l) => 1 ≤ n ∧ n ≤ 11 ∧ l.length ≤ 1000

theorem takeD {P : Program} {ops : Array Oper} {Q : Exit → Act → World → Prop} {md : Region.Mode} {S : World → Prop} {i : Nat} {oi : Oper} {v : Value} {fuel : Nat} {listed : Array Bool} {a : Act} {w : World} (d : Option Tmp) (hi : ops[i]? = some oi) (hd : oi.dst = d)
    (hs : Region.noSelect ops = true) (hf : Region.free md ops listed i = true) (hr : (Region.ready md ops listed).contains i = true)
    (hQ : ∀ c a w, Q (.panic c) (a.put d v) w → Q (.panic c) a w) (hy : YieldsIf P ops S oi v a) (hS : S w)
    (h : wpAnyH P md ops Q S fuel (listed.setIfInBounds i true) (a.put d v) w) : wpAnyH P md ops Q S (fuel + 1) listed a w := by
  subst hd
  exact wpAnyH_take hi hs hf hr hQ hy hS h

theorem takeA {P : Program} {ops : Array Oper} {Q : Exit → Act → World → Prop} {md : Region.Mode} {i : Nat} {oi : Oper} {v : Value} {fuel : Nat} {listed : Array Bool} {a : Act} {w : World} (d : Option Tmp) (hi : ops[i]? = some oi) (hd : oi.dst = d)
    (hs : Region.noSelect ops = true) (hf : Region.free md ops listed i = true) (hr : (Region.ready md ops listed).contains i = true)
    (hQ : ∀ c a w, Q (.panic c) (a.put d v) w → Q (.panic c) a w) (hy : Yields P ops oi v a)
    (h : wpAny P md ops Q fuel (listed.setIfInBounds i true) (a.put d v) w) : wpAny P md ops Q (fuel + 1) listed a w := by
  subst hd
  exact wpAny_take hi hs hf hr hQ hy h

end Go.Proofs.YtmhiambkfdkkbaaDoor

namespace Go.Proofs.YtmhiambkfdkkbaaDoor

theorem sumRow_getD (K : Nat) (x y : Int) (s n : Nat) (h : n < s) : (sumRow K x y s).getD n 0 = (y + x * n) % K := by
  simp [sumRow, List.getD, h]

theorem sumStep_getD {K : Nat} (hK : 1 ≤ K) (x : Int) : ∀ (T : List Int) (i : Nat), i < T.length * K → (sumStep K x T).getD i 0 = (T.getD (i / K) 0 + x * (i % K : Nat)) % K
  | [], i, h => by simp at h
  | y :: T, i, h => by
    have e : sumStep K x (y :: T) = sumRow K x y K ++ sumStep K x T := rfl
    rw [e]
    by_cases hi : i < K
    · rw [show (sumRow K x y K ++ sumStep K x T).getD i 0 = (sumRow K x y K).getD i 0 by
        simp only [List.getD]; rw [List.getElem?_append_left (by rw [sumRow_length]; exact hi)]]
      rw [sumRow_getD K x y K i hi, Nat.div_eq_of_lt hi, Nat.mod_eq_of_lt hi]
      rfl
    · have hi' : i - K < T.length * K := by rw [List.length_cons, Nat.succ_mul] at h; omega
      rw [show (sumRow K x y K ++ sumStep K x T).getD i 0 = (sumStep K x T).getD (i - K) 0 by
        simp only [List.getD]; rw [List.getElem?_append_right (by rw [sumRow_length]; omega), sumRow_length]]
      rw [sumStep_getD hK x T (i - K) hi']
      have h1 : i / K = (i - K) / K + 1 := by
        rw [show i = (i - K) + K by omega, Nat.add_div_right _ (by omega), Nat.add_sub_cancel]
      have h2 : i % K = (i - K) % K := Nat.mod_eq_sub_mod (by omega)
      rw [h1, h2]
      simp [List.getD]

theorem sumT_snoc (K : Nat) (f : List Int) (x : Int) : sumT K (f ++ [x]) = sumStep K x (sumT K f) := sumTable_snoc ..

/-- An entry of a sum's table, by the window's last symbol. -/
theorem sumT_getD {K : Nat} (hK : 1 ≤ K) (f : List Int) (x : Int) (i : Nat) (h : i < pw K (f.length + 1)) :
    (sumT K (f ++ [x])).getD i 0 = ((sumT K f).getD (i / K) 0 + x * (i % K : Nat)) % K := by
  rw [sumT_snoc]
  refine sumStep_getD hK x _ i ?_
  rw [sumT_length, ← pw_succ]; exact h

theorem snoc_ind {P : List Int → Prop} (h0 : P []) (h1 : ∀ f x, P f → P (f ++ [x])) (f : List Int) : P f := by
  have : P f.reverse.reverse := by
    induction f.reverse with
    | nil => exact h0
    | cons x g ih => rw [List.reverse_cons]; exact h1 _ _ ih
  simpa using this

theorem sumT_zero {K : Nat} (hK : 1 ≤ K) (f : List Int) : (sumT K f).getD 0 0 = 0 := by
  refine snoc_ind (P := fun f => (sumT K f).getD 0 0 = 0) rfl (fun f x ih => ?_) f
  rw [sumT_getD hK f x 0 (pw_pos _ hK), Nat.zero_div, ih]
  simp

theorem emod_addMul {a b : Int} {K : Nat} : (a % K + b) % K = (a + b) % K := by simp [Int.add_emod]

theorem sumT_range {K : Nat} (hK : 1 ≤ K) (f : List Int) (i : Nat) : 0 ≤ (sumT K f).getD i 0 ∧ (sumT K f).getD i 0 < K := by
  by_cases h : i < (sumT K f).length
  · simp only [List.getD, List.getElem?_eq_getElem h, Option.getD_some]
    exact sumT_syms hK f _ (by simp)
  · simp only [List.getD, List.getElem?_eq_none (Nat.le_of_not_lt h), Option.getD_none]
    omega

/-- The windows with a single 1 tell the factors. -/
theorem sumT_pw {K : Nat} (hK : 1 < K) (f : List Int) : ∀ t, t < f.length → (sumT K f).getD (pw K t) 0 = f.getD (f.length - 1 - t) 0 % K := by
  refine snoc_ind (P := fun f => ∀ t, t < f.length → (sumT K f).getD (pw K t) 0 = f.getD (f.length - 1 - t) 0 % K) (by intro t h; simp at h) (fun f x ih => ?_) f
  intro t ht
  rw [List.length_append, List.length_singleton] at ht
  rw [sumT_getD (by omega) f x _ (pw_lt hK ht)]
  cases t with
  | zero =>
    rw [pw_zero, Nat.div_eq_of_lt hK, Nat.mod_eq_of_lt hK, sumT_zero (by omega)]
    simp [List.getD]
  | succ t =>
    rw [pw_succ, Nat.mul_div_cancel _ (by omega), Nat.mul_mod_left, ih t (by omega)]
    have : (f ++ [x]).getD ((f ++ [x]).length - 1 - (t + 1)) 0 = f.getD (f.length - 1 - t) 0 := by
      simp only [List.getD, List.length_append, List.length_singleton]
      rw [show f.length + 1 - 1 - (t + 1) = f.length - 1 - t by omega, List.getElem?_append_left (by omega)]
    rw [this]
    simp

/-- Window i is one with its first symbol less by one, and the window with a single 1 there. -/
theorem sumT_add {K : Nat} (hK : 1 < K) (f : List Int) : ∀ t x, x % K ≠ 0 → x * pw K t < pw K f.length →
    (sumT K f).getD (x * pw K t) 0 = ((sumT K f).getD (x * pw K t - pw K t) 0 + (sumT K f).getD (pw K t) 0) % K := by
  refine snoc_ind (P := fun f => ∀ t x, x % K ≠ 0 → x * pw K t < pw K f.length →
    (sumT K f).getD (x * pw K t) 0 = ((sumT K f).getD (x * pw K t - pw K t) 0 + (sumT K f).getD (pw K t) 0) % K) ?_ (fun f y ih => ?_) f
  · intro t x hx h
    have : x ≠ 0 := by intro e; subst e; simp at hx
    have h1 := pw_pos t (show 1 ≤ K by omega)
    have : 1 * 1 ≤ x * pw K t := Nat.mul_le_mul (by omega) h1
    simp only [List.length_nil, pw_zero] at h
    omega
  · intro t x hx h
    have hx0 : x ≠ 0 := by intro e; subst e; simp at hx
    rw [List.length_append, List.length_singleton] at h
    have hp := pw_pos t (show 1 ≤ K by omega)
    have hle : pw K t ≤ x * pw K t := Nat.le_mul_of_pos_left _ (by omega)
    rw [sumT_getD (by omega) f y _ h, sumT_getD (by omega) f y _ (show x * pw K t - pw K t < _ by omega), sumT_getD (by omega) f y _ (show pw K t < _ by omega)]
    cases t with
    | zero =>
      rw [pw_zero, Nat.mul_one]
      have h1 : (x - 1) / K = x / K ∧ (x - 1) % K = x % K - 1 := by
        have hd := Nat.div_add_mod x K
        have hl := Nat.mod_lt x (show 0 < K by omega)
        have e : x - 1 = (x % K - 1) + K * (x / K) := by omega
        rw [e, Nat.add_mul_div_left _ _ (by omega), Nat.add_mul_mod_self_left, Nat.div_eq_of_lt (by omega), Nat.mod_eq_of_lt (by omega)]
        omega
      rw [h1.1, h1.2, Nat.div_eq_of_lt hK, Nat.mod_eq_of_lt hK, sumT_zero (by omega)]
      rw [← Int.add_emod]
      congr 1
      have : ((x % K - 1 : Nat) : Int) = ((x % K : Nat) : Int) - 1 := by omega
      rw [this, Int.mul_sub]
      simp
      omega
    | succ t =>
      have hh : x * pw K t < pw K f.length := by
        rw [pw_succ, pw_succ, ← Nat.mul_assoc] at h
        exact Nat.lt_of_mul_lt_mul_right h
      have e := ih t x hx hh
      rw [pw_succ, ← Nat.mul_assoc, ← Nat.sub_mul, Nat.mul_div_cancel _ (by omega), Nat.mul_div_cancel _ (by omega), Nat.mul_div_cancel _ (by omega), Nat.mul_mod_left, Nat.mul_mod_left, Nat.mul_mod_left, e]
      simp

/-- What the law asks of window i; and that it does not hold. -/
def Good (K : Nat) (T : List Int) (i : Nat) : Prop := (i = 0 ∧ T.getD 0 0 = 0) ∨ ∃ t x, x * pw K t = i ∧ x % K ≠ 0 ∧ T.getD i 0 = (T.getD (i - pw K t) 0 + T.getD (pw K t) 0) % K
def Bad (K : Nat) (T : List Int) (i : Nat) : Prop := (i = 0 ∧ T.getD 0 0 ≠ 0) ∨ ∃ t x, x * pw K t = i ∧ x % K ≠ 0 ∧ T.getD i 0 ≠ (T.getD (i - pw K t) 0 + T.getD (pw K t) 0) % K

theorem not_sum_of_bad {K R : Nat} {T : List Int} (h : RuleOk K R T) (i : Nat) (hi : i < T.length) (hb : Bad K T i) : isSum K R T = false := by
  have hk := h.k1
  rw [isSum, decide_eq_false_iff_not]
  intro e
  have hlen : T.length = pw K (facs K R T).length := by rw [facs_length, h.len]
  rcases hb with ⟨_, h0⟩ | ⟨t, x, hx, hxK, hne⟩
  · apply h0
    rw [← e]; exact sumT_zero hk _
  · by_cases hK : 1 < K
    · apply hne
      rw [← e, ← hx]
      exact sumT_add hK _ t x hxK (by rw [hx, ← hlen]; exact hi)
    · have : K = 1 := by omega
      subst this
      simp [Nat.mod_one] at hxK

theorem facs_getD {K R : Nat} {T : List Int} (hK : 1 < K) (t : Nat) (ht : t < 2 * R + 1) : (facs K R T).getD (2 * R + 1 - 1 - t) 0 = T.getD (pw K t) 0 := by
  unfold facs facI
  rw [if_pos hK]
  simp only [facL, List.getD]
  rw [List.getElem?_map, List.getElem?_range (by omega)]
  simp only [Option.map_some, Option.getD_some]
  rw [if_pos (by omega)]
  rw [show 2 * R + 1 - 1 - (2 * R + 1 - 1 - t) = t by omega]

theorem sum_of_good {K R : Nat} {T : List Int} (h : RuleOk K R T) (hg : ∀ i, i < T.length → Good K T i) : isSum K R T = true := by
  have hk := h.k1
  rw [isSum, decide_eq_true_iff]
  have hlen : (sumT K (facs K R T)).length = T.length := by rw [sumT_length, facs_length, h.len]
  have rng : ∀ i, 0 ≤ T.getD i 0 ∧ T.getD i 0 < K := by
    intro i
    by_cases hi : i < T.length
    · simp only [List.getD, List.getElem?_eq_getElem hi, Option.getD_some]
      exact h.syms _ (by simp)
    · simp only [List.getD, List.getElem?_eq_none (Nat.le_of_not_lt hi), Option.getD_none]
      omega
  have hpow : 1 < K → ∀ t, t < 2 * R + 1 → (sumT K (facs K R T)).getD (pw K t) 0 = T.getD (pw K t) 0 := by
    intro hK t ht
    rw [sumT_pw hK _ t (by rw [facs_length]; exact ht), facs_length, facs_getD hK t ht]
    exact Int.emod_eq_of_lt (rng _).1 (rng _).2
  have key : ∀ n i, i < n → i < T.length → (sumT K (facs K R T)).getD i 0 = T.getD i 0 := by
    intro n
    induction n with
    | zero => intro i hi; omega
    | succ n ih =>
      intro i hin hi
      rcases hg i hi with ⟨rfl, h0⟩ | ⟨t, x, hx, hxK, he⟩
      · rw [h0]; exact sumT_zero hk _
      · by_cases hK : 1 < K
        · have hx0 : x ≠ 0 := by intro e; subst e; simp at hxK
          have hp := pw_pos t hk
          have hle : pw K t ≤ x * pw K t := Nat.le_mul_of_pos_left _ (by omega)
          have ht : t < 2 * R + 1 := by
            by_cases c : t < 2 * R + 1
            · exact c
            · have := pw_mono (i := 2 * R + 1) (j := t) hk (by omega)
              have := h.len
              omega
          have e1 := sumT_add hK (facs K R T) t x hxK (by rw [hx, facs_length, ← h.len]; exact hi)
          rw [hx] at e1
          rw [e1, he, ih (i - pw K t) (by omega) (by omega), hpow hK t ht]
        · have : K = 1 := by omega
          subst this
          simp [Nat.mod_one] at hxK
  refine List.ext_getElem hlen fun i h1 h2 => ?_
  have := key (i + 1) i (by omega) h2
  simpa [List.getD, h1, h2] using this

/-- The factors of a sum are those that it was made of. -/
theorem facs_sumT {K R : Nat} {f : List Int} (hK : 1 < K) (hl : f.length = 2 * R + 1) (hs : Syms K f) : facs K R (sumT K f) = f := by
  refine List.ext_getElem (by rw [facs_length, hl]) fun i h1 h2 => ?_
  have hi : i < 2 * R + 1 := by omega
  have e1 := facs_getD (K := K) (R := R) (T := sumT K f) hK (2 * R + 1 - 1 - i) (by omega)
  rw [show 2 * R + 1 - 1 - (2 * R + 1 - 1 - i) = i by omega, sumT_pw hK f _ (by omega), hl] at e1
  rw [show 2 * R + 1 - 1 - (2 * R + 1 - 1 - i) = i by omega] at e1
  have hb := hs.getD (by omega) i
  rw [Int.emod_eq_of_lt hb.1 hb.2] at e1
  simpa [List.getD, h1, h2] using e1
theorem isSum_sumT {K R : Nat} {f : List Int} (hK : 1 < K) (hl : f.length = 2 * R + 1) (hs : Syms K f) : isSum K R (sumT K f) = true := by
  rw [isSum, facs_sumT hK hl hs]; simp

theorem mulAll_one {K : Nat} {a : List Int} (hs : Syms K a) : ∀ i, i ≤ a.length → mulAll K a [1] i = a.take i ++ List.replicate (a.length - i) 0
  | 0, _ => by simp [mulAll]
  | i + 1, h => by
    rw [mulAll, mulAll_one hs i (by omega)]
    have hi : i < a.length := by omega
    have hx := hs (a[i]) (by simp)
    have hl : (a.take i).length = i := by simp; omega
    show addAt K (a.take i ++ List.replicate (a.length - i) 0) (i + 0) (a.getD i 0 * 1) = _
    have e : a.getD i 0 = a[i] := by simp [List.getD, hi]
    have hrep : List.replicate (a.length - i) (0 : Int) = 0 :: List.replicate (a.length - (i + 1)) 0 := by
      rw [show a.length - i = (a.length - (i + 1)) + 1 by omega, List.replicate_succ]
    have hg : (a.take i ++ List.replicate (a.length - i) (0 : Int)).getD (i + 0) 0 = 0 := by
      rw [hrep]
      simp only [List.getD, Nat.add_zero]
      rw [List.getElem?_append_right (by omega), hl]
      simp
    rw [addAt, hg, e, Int.mul_one, Int.zero_add, Int.emod_eq_of_lt hx.1 hx.2, hrep, List.take_succ_eq_append_getElem hi]
    rw [List.set_append_right _ _ (by omega), hl]
    simp only [Nat.add_zero, Nat.sub_self, List.set_cons_zero, List.append_assoc, List.singleton_append]
theorem mulL_one {K : Nat} {a : List Int} (hs : Syms K a) : mulL K a [1] = a := by
  rw [mulL, mulAll_one hs _ (Nat.le_refl _)]; simp

theorem makeP_none {k R : Int} {f : List Int} (h : makeP k R f = none) : ∃ K Q : Nat, k = K ∧ R = Q ∧ 1 ≤ K ∧ K ≤ 4 ∧ Q ≤ 3 ∧ f.length = 2 * Q + 1 ∧ Syms K f := by
  unfold makeP at h
  by_cases h1 : k < 1 ∨ 4 < k ∨ R < 0 ∨ 3 < R
  · rw [if_pos h1] at h; cases h
  rw [if_neg h1] at h
  by_cases h2 : (f.length : Int) ≠ 2 * R + 1
  · rw [if_pos h2] at h; cases h
  rw [if_neg h2] at h
  refine ⟨k.toNat, R.toNat, by omega, by omega, by omega, by omega, by omega, by omega, ?_⟩
  rw [show ((k.toNat : Nat) : Int) = k by omega]
  exact numP_none h
theorem oddP_mk {Q : Nat} (h : Q ≤ 3) : oddP (2 * Q + 1) = true := by
  simp [oddP]; omega
theorem factP_of {K : Nat} {f : List Int} (h1 : 1 ≤ K) (h4 : K ≤ 4) (ho : oddP f.length = true) (hs : Syms K f) : factP K f = none := by
  rw [factP, if_neg (by omega), ho, if_neg (by decide), hs.num]
theorem mulP_one {K : Nat} {f : List Int} (h1 : 1 < K) (h4 : K ≤ 4) (ho : oddP f.length = true) (hs : Syms K f) : mulP K f [1] = none := by
  have h1' : Syms K [1] := by intro x hx; simp at hx; omega
  simp only [mulP, factP_of (by omega) h4 ho hs, h1'.num, List.length_singleton, Nat.add_sub_cancel, ho]
  decide
end Go.Proofs.YtmhiambkfdkkbaaDoor

namespace Go.Proofs.YtmhiambkfdkkbaaDoor

theorem Sm_add (f g : Nat → Int) (n : Nat) : Sm (fun i => f i + g i) n = Sm f n + Sm g n := by
  induction n with
  | zero => rfl
  | succ n ih => rw [Sm, Sm, Sm, ih]; omega
theorem Sm_swap (f : Nat → Nat → Int) (n m : Nat) : Sm (fun i => Sm (f i) m) n = Sm (fun j => Sm (fun i => f i j) n) m := by
  induction n with
  | zero => rw [Sm, Sm_zero]; intro _ _; rfl
  | succ n ih => rw [Sm, ih, ← Sm_add]; exact Sm_congr _ fun i _ => rfl
theorem Sm_mulL (c : Int) (f : Nat → Int) (n : Nat) : Sm (fun i => c * f i) n = c * Sm f n := by
  induction n with
  | zero => simp [Sm]
  | succ n ih => rw [Sm, Sm, ih, Int.mul_add]
theorem Sm_delta (f : Nat → Int) (p n : Nat) : Sm (fun i => f i * (if i = p then 1 else 0)) n = if p < n then f p else 0 := by
  induction n with
  | zero => simp [Sm]
  | succ n ih =>
    rw [Sm, ih]
    by_cases e : n = p
    · subst e; simp
    · rw [if_neg e]
      by_cases c : p < n
      · rw [if_pos c, if_pos (by omega)]; omega
      · rw [if_neg c, if_neg (by omega)]; omega

theorem mulL_at (K : Nat) (hK : 1 ≤ K) (a b : List Int) (hb : 1 ≤ b.length) (p : Nat) (hp : p < a.length + b.length - 1) :
    (mulL K a b).getD p 0 = Sm (fun i => Sm (fun j => a.getD i 0 * b.getD j 0 * (if i + j = p then 1 else 0)) b.length) a.length % K := by
  have h := mulAll_sum K a b (fun t => if t = p then 1 else 0) hb a.length (Nat.le_refl _)
  rw [Sm_delta (fun t => (mulAll K a b a.length).getD t 0) p, if_pos hp] at h
  have hr := (mulAll_syms hK a b a.length).getD (by omega) p
  rw [Int.emod_eq_of_lt hr.1 hr.2] at h
  rw [mulL, h]
  congr 1
  refine Sm_congr _ fun i _ => ?_
  rw [← Sm_mulL]
  refine Sm_congr _ fun j _ => ?_
  rw [Int.mul_assoc]

/-- A product may be turned. -/
theorem mulL_comm (K : Nat) (hK : 1 ≤ K) (a b : List Int) (ha : 1 ≤ a.length) (hb : 1 ≤ b.length) : mulL K a b = mulL K b a := by
  have l1 := mulL_length K a b
  have l2 := mulL_length K b a
  refine List.ext_getElem (by omega) fun p h1 h2 => ?_
  have e1 := mulL_at K hK a b hb p (by omega)
  have e2 := mulL_at K hK b a ha p (by omega)
  rw [Sm_swap] at e2
  have : (mulL K a b).getD p 0 = (mulL K b a).getD p 0 := by
    rw [e1, e2]
    congr 1
    refine Sm_congr _ fun i _ => Sm_congr _ fun j _ => ?_
    rw [Int.mul_comm (a.getD i 0), Nat.add_comm]
  simpa [List.getD, h1, h2] using this

theorem facs_sumT1 {K R : Nat} {f : List Int} (hK : 1 ≤ K) (hl : f.length = 2 * R + 1) (hs : Syms K f) : facs K R (sumT K f) = f := by
  by_cases h : 1 < K
  · exact facs_sumT h hl hs
  · obtain rfl : K = 1 := by omega
    have e : f = List.replicate (2 * R + 1) 0 := List.eq_replicate_iff.2 ⟨hl, fun x hx => by have := hs x hx; omega⟩
    simp only [facs, facI, Nat.lt_irrefl, if_false]
    exact e.symm
theorem isSum_sumT1 {K R : Nat} {f : List Int} (hK : 1 ≤ K) (hl : f.length = 2 * R + 1) (hs : Syms K f) : isSum K R (sumT K f) = true := by
  rw [isSum, facs_sumT1 hK hl hs]; simp

/-- Factors taken modulo k. -/
def modL (K : Nat) (f : List Int) (n : Nat) : List Int := (f.take n).map (· % (K : Int))
theorem modL_length (K : Nat) (f : List Int) (n : Nat) (h : n ≤ f.length) : (modL K f n).length = n := by simp [modL]; omega
theorem modL_syms {K : Nat} (hK : 1 ≤ K) (f : List Int) (n : Nat) : Syms K (modL K f n) := by
  intro x hx
  obtain ⟨y, _, rfl⟩ := List.mem_map.1 hx
  exact ⟨Int.emod_nonneg _ (by omega), Int.emod_lt_of_pos _ (by omega)⟩
theorem modL_succ (K : Nat) (f : List Int) (j : Nat) (h : j < f.length) : modL K f (j + 1) = modL K f j ++ [f[j] % (K : Int)] := by
  rw [modL, modL, take_snoc f j h, List.map_append]; rfl
/-- Being filled. -/
def modF (K : Nat) (f : List Int) (n j : Nat) : List Int := modL K f j ++ List.replicate (n - j) 0
theorem modF_length (K : Nat) (f : List Int) (n j : Nat) (hn : n ≤ f.length) (h : j ≤ n) : (modF K f n j).length = n := by
  rw [modF, List.length_append, modL_length K f j (by omega), List.length_replicate]; omega
theorem modF_set (K : Nat) (f : List Int) (n j : Nat) (hn : n ≤ f.length) (h : j < n) : (modF K f n j).set j (f[j]'(by omega) % (K : Int)) = modF K f n (j + 1) := by
  have hl := modL_length K f j (by omega)
  rw [modF, List.set_append_right _ _ (by omega), hl, Nat.sub_self, show n - j = (n - (j + 1)) + 1 by omega, List.replicate_succ, List.set_cons_zero, modF, modL_succ K f j (by omega), List.append_assoc]
  rfl
theorem tmod_twice {x : Int} {K : Nat} (hK : 1 ≤ K) : (x.tmod K + K).tmod K = x % K ∧ -4 * (K : Int) ≤ x.tmod K ∧ x.tmod K < K := by
  have h1 : -(K : Int) < x.tmod K := by have := Int.lt_tmod_of_pos x (show (0 : Int) < K by omega); omega
  have h2 : x.tmod K < K := Int.tmod_lt_of_pos x (by omega)
  refine ⟨?_, by omega, h2⟩
  rw [Int.tmod_eq_emod_of_nonneg (by omega)]
  have h3 := Int.mul_tdiv_add_tmod x K
  have h4 : x.tmod K = x - K * x.tdiv K := by omega
  rw [h4, show x - (K : Int) * x.tdiv K + K = x + K * (1 - x.tdiv K) by rw [Int.mul_sub]; omega, Int.add_mul_emod_self_left]
end Go.Proofs.YtmhiambkfdkkbaaDoor

namespace Go.Proofs.YtmhiambkfdkkbaaDoor

/-- The reference's symbol of window i. -/
def sumR (K : Nat) (f : List Int) (i : Nat) : Int := Sm (fun j => f.getD j 0 * (digs K f.length i).getD j 0) f.length % K
theorem sumT_range_eq {K : Nat} (hK : 1 ≤ K) (f : List Int) : sumT K f = (List.range (pw K f.length)).map (sumR K f) := by
  refine List.ext_getElem (by simp [sumT_length]) fun i h1 h2 => ?_
  have hi : i < pw K f.length := by rw [← sumT_length]; exact h1
  have h := sumT_at K f (digs K f.length i) (digs_length ..).symm (digs_syms hK _ _)
  rw [numW_digs hK _ _ hi] at h
  simp only [List.getElem_map, List.getElem_range]
  rw [sumR, ← h]
  simp [List.getD, h1]
theorem Sm_bound {K : Nat} (h4 : K ≤ 4) (u v : Nat → Int) (hu : ∀ j, 0 ≤ u j ∧ u j < K) (hv : ∀ j, 0 ≤ v j ∧ v j < K) (n : Nat) : 0 ≤ Sm (fun j => u j * v j) n ∧ Sm (fun j => u j * v j) n ≤ 9 * n := by
  induction n with
  | zero => simp [Sm]
  | succ n ih =>
    rw [Sm]
    have h1 := hu n
    have h2 := hv n
    have h3 : 0 ≤ u n * v n := Int.mul_nonneg h1.1 h2.1
    have h5 : u n * v n ≤ 3 * 3 := Int.mul_le_mul (by omega) (by omega) h2.1 (by omega)
    omega
theorem prod_bound {K : Nat} (h4 : K ≤ 4) {x y : Int} (hx : 0 ≤ x ∧ x < K) (hy : 0 ≤ y ∧ y < K) : 0 ≤ x * y ∧ x * y ≤ 9 := by
  have h5 : x * y ≤ 3 * 3 := Int.mul_le_mul (by omega) (by omega) hy.1 (by omega)
  exact ⟨Int.mul_nonneg hx.1 hy.1, by omega⟩

/-- What the reference tells of a sum: has every word a preimage? -/
def ontoR (k : Int) (f : List Int) : Bool := !((decide (k = 2 ∨ k = 4) && f.all fun x => x % 2 == 0) || (decide (k = 3) && f.all fun x => x % 3 == 0))
theorem cnt_zero (p : Int) (f : List Int) : mayOnto (cnt p f) = !(f.all fun x => x % p == 0) := by
  unfold mayOnto cnt
  induction f with
  | nil => rfl
  | cons x f ih =>
    rw [List.countP_cons, List.all_cons]
    by_cases h : x % p = 0
    · simp [h, ← ih]
    · have : (x % p == 0) = false := by simpa using h
      simp [h, this]
theorem ontoR_eq {k : Int} {f : List Int} : ontoR k f = wholeP mayOnto k f := by
  unfold ontoR wholeP primesP
  by_cases h : k = 2 ∨ k = 4
  · have h3 : ¬ k = 3 := by omega
    rw [if_pos h]
    simp [h, h3, cnt_zero]
  · rw [if_neg h]
    by_cases h3 : k = 3
    · rw [if_pos h3]
      simp [h3, cnt_zero]
    · rw [if_neg h3]
      simp [h, h3]

def allD (d : Nat) (f : List Int) : Bool := f.all fun x => x % (d : Int) == 0
theorem allD_snoc (d : Nat) (f : List Int) (x : Int) : allD d (f ++ [x]) = (allD d f && (x % (d : Int) == 0)) := by simp [allD]
theorem allD_four {f : List Int} (h : allD 4 f = true) : allD 2 f = true := by
  simp only [allD, List.all_eq_true, beq_iff_eq] at *
  intro x hx
  have := h x hx
  omega
theorem ontoR_false {K d : Nat} {f : List Int} (h4 : K ≤ 4) (h2 : 2 ≤ d) (hd : d ≤ K) (hk : K % d = 0) (ha : allD d f = true) : ontoR K f = false := by
  have hc : (K = 2 ∧ d = 2) ∨ (K = 3 ∧ d = 3) ∨ (K = 4 ∧ d = 2) ∨ (K = 4 ∧ d = 4) := by
    have hKc : K = 2 ∨ K = 3 ∨ K = 4 := by omega
    have hdc : d = 2 ∨ d = 3 ∨ d = 4 := by omega
    rcases hKc with rfl | rfl | rfl <;> rcases hdc with rfl | rfl | rfl <;> simp_all
  rcases hc with ⟨rfl, rfl⟩ | ⟨rfl, rfl⟩ | ⟨rfl, rfl⟩ | ⟨rfl, rfl⟩
  · simp only [allD] at ha; simp [ontoR]; simpa using ha
  · simp only [allD] at ha; simp [ontoR]; simpa using ha
  · simp only [allD] at ha; simp [ontoR]; simpa using ha
  · have ha := allD_four ha; simp only [allD] at ha; simp [ontoR]; simpa using ha
theorem ontoR_true {K : Nat} {f : List Int} (h1 : 1 ≤ K) (h4 : K ≤ 4) (h : ∀ d, 2 ≤ d → d ≤ K → ¬ (K % d = 0 ∧ allD d f = true)) : ontoR K f = true := by
  have hc : K = 1 ∨ K = 2 ∨ K = 3 ∨ K = 4 := by omega
  rcases hc with rfl | rfl | rfl | rfl
  · simp [ontoR]
  · have := h 2 (by omega) (by omega)
    simp [allD] at this
    simpa [ontoR] using this
  · have := h 3 (by omega) (by omega)
    simp [allD] at this
    simpa [ontoR] using this
  · have := h 2 (by omega) (by omega)
    simp [allD] at this
    simpa [ontoR] using this
theorem oneR_false {K p : Nat} {f : List Int} (h4 : K ≤ 4) (h1 : 1 ≤ K) (hp : p = 2 ∨ p = 3) (hk : K % p = 0) (hn : cnt p f ≠ 1) : wholeP mayOne K f = false := by
  have hc : (p = 2 ∧ (K = 2 ∨ K = 4)) ∨ (p = 3 ∧ K = 3) := by
    have : K = 1 ∨ K = 2 ∨ K = 3 ∨ K = 4 := by omega
    rcases this with rfl | rfl | rfl | rfl <;> rcases hp with rfl | rfl <;> simp_all
  have hm : mayOne (cnt p f) = false := by simp [mayOne]; omega
  rcases hc with ⟨rfl, rfl | rfl⟩ | ⟨rfl, rfl⟩ <;> simpa [wholeP, primesP] using hm
theorem oneR_true {K : Nat} {f : List Int} (h4 : K ≤ 4) (h1 : 1 ≤ K) (h : ∀ p, p = 2 ∨ p = 3 → K % p = 0 → cnt p f = 1) : wholeP mayOne K f = true := by
  have : K = 1 ∨ K = 2 ∨ K = 3 ∨ K = 4 := by omega
  rcases this with rfl | rfl | rfl | rfl
  · simp [wholeP, primesP]
  · have := h 2 (.inl rfl) rfl; simp [wholeP, primesP, mayOne] at *; omega
  · have := h 3 (.inr rfl) rfl; simp [wholeP, primesP, mayOne] at *; omega
  · have := h 2 (.inl rfl) rfl; simp [wholeP, primesP, mayOne] at *; omega
end Go.Proofs.YtmhiambkfdkkbaaDoor

namespace Go.Proofs.YtmhiambkfdkkbaaDoor
open Go.RowKit
set_option maxRecDepth 100000

/-- append(s, y) onto a list of one's own, in a region that draws. -/
theorem step_app1 {ops : Array Oper} {o : Oper} {a : Act} {w : World} {K : Act → World → Prop} {Q : Exit → Act → World → Prop} {Ep : Prop} (hgd : o.guard = none) (s x : Operand)
    (ho : o.op = .call { callee := .builtin .append, args := #[s, x], argTypes := #[22, 22] })
    (B : Nat) (v : Value) (xs : List Int) (y : Int) (b : Nat) (hs : a.eval s = v) (hx : a.eval x = .slice (some ⟨b, 0, none⟩) 1 1) (hown : OwnI B w v xs) (hc : w.cell? ⟨b, 0, none⟩ = some (.int .i64 y))
    (hlen : xs.length < 4398046511104) (hB : B ≤ w.heap.size)
    (h : ∀ v' w', OwnI B w' v' (xs ++ [y]) → Below B w w' → K (a.put o.dst v') w') :
    if Region.wanted o (yielded ops a.tmps) = true then Oper.wp Tryd.prog o a w K Q else Ep := by
  have hw : Region.wanted o (yielded ops a.tmps) = true := by simp [Region.wanted, hgd]
  rw [if_pos hw]
  obtain ⟨v', w', hr, h2, h3⟩ := run_app oneInts w B o.type v _ hown.toV ⟨b, 0, none⟩ 1 [.int .i64 y] (by simp) (fun j u hj => by
    obtain ⟨hj1, hj2⟩ := List.getElem?_eq_some_iff.1 hj
    obtain rfl : j = 0 := by simpa using hj1
    simp at hj2; subst hj2
    exact hc) (by simp [Value.oneCell']) (by simp; omega) hB
  rw [show ([.int .i64 y] : List Value).length = 1 from rfl] at hr
  unfold Oper.wp
  simp [execOp, ho, resolve, invoke, builtin, hs, hx, hr, Result.andThen]
  have ho' : OwnI B w' v' (xs ++ [y]) := OwnV.toI (by simpa using h2)
  rcases h3 with ⟨_, hg⟩ | ⟨_, hg⟩
  · exact h v' w' ho' ((Below.refl _ _).grown hg hB (fun k hk => (hown.lt k hk).1))
  · exact h v' w' ho' ((Below.refl _ _).grown hg hB (by intro k hk; cases hk))

theorem Box3.belowB {B : Nat} {w w' : World} {b : Nat} {x0 x1 x2 : Value} (h : Box3 w b x0 x1 x2) (hb : Below B w w') (hlt : b < B) : Box3 w' b x0 x1 x2 := by
  obtain ⟨⟨h0, h1, h2⟩, f0, f1, f2⟩ := h
  exact ⟨⟨(hb.cell (p := ⟨b, 0, none⟩) hlt).trans h0, (hb.cell (p := ⟨b, 1, none⟩) hlt).trans h1, (hb.cell (p := ⟨b, 2, none⟩) hlt).trans h2⟩, (hb.frozen (p := ⟨b, 0, none⟩) hlt).trans f0, (hb.frozen (p := ⟨b, 1, none⟩) hlt).trans f1, (hb.frozen (p := ⟨b, 2, none⟩) hlt).trans f2⟩
theorem Box3.far {w : World} {b b' : Nat} {x0 x1 x2 : Value} (h : Box3 w b x0 x1 x2) (hne : b' ≠ b) (i : Nat) (u : Value) : Box3 (w.setCell ⟨b', i, none⟩ u) b x0 x1 x2 := by
  obtain ⟨⟨h0, h1, h2⟩, f0, f1, f2⟩ := h
  refine ⟨⟨?_, ?_, ?_⟩, ?_, ?_, ?_⟩
  · rw [World.cell?_setCell_far _ _ _ _ hne]; exact h0
  · rw [World.cell?_setCell_far _ _ _ _ hne]; exact h1
  · rw [World.cell?_setCell_far _ _ _ _ hne]; exact h2
  · simpa using f0
  · simpa using f1
  · simpa using f2
theorem Box3.set2 {w : World} {b : Nat} {x0 x1 x2 : Value} (h : Box3 w b x0 x1 x2) (u : Value) : Box3 (w.setCell ⟨b, 2, none⟩ u) b x0 x1 u := by
  obtain ⟨⟨h0, h1, h2⟩, f0, f1, f2⟩ := h
  refine ⟨⟨?_, ?_, World.cell?_setCell_same _ _ _ h2⟩, ?_, ?_, ?_⟩
  · rw [World.cell?_setCell_other _ _ _ _ (by simp)]; exact h0
  · rw [World.cell?_setCell_other _ _ _ _ (by simp)]; exact h1
  · simpa using f0
  · simpa using f1
  · simpa using f2

end Go.Proofs.YtmhiambkfdkkbaaDoor

namespace Go.Proofs.YtmhiambkfdkkbaaDoor

def sPairs : ByteArray := ⟨#[112, 97, 105, 114, 115]⟩
/-- Where a symbol leads from a node, and what is told. -/
def toN (K N u s : Nat) : Nat := (u * K + s) % N
def labN (K : Nat) (T : List Int) (u s : Nat) : Int := T.getD (u * K + s) 0
/-- The arrows of a pair as they are found. -/
def rawT (K N : Nat) (T : List Int) (u v s t : Nat) : List Nat := if labN K T u s = labN K T v t then [toN K N u s * N + toN K N v t] else []
def rawS (K N : Nat) (T : List Int) (u v s n : Nat) : List Nat := (List.range n).flatMap fun t => rawT K N T u v s t
def rawP (K N : Nat) (T : List Int) (u v n : Nat) : List Nat := (List.range n).flatMap fun s => rawS K N T u v s K
theorem rawS_succ (K N : Nat) (T : List Int) (u v s n : Nat) : rawS K N T u v s (n + 1) = rawS K N T u v s n ++ rawT K N T u v s n := by
  simp [rawS, List.range_succ]
theorem rawP_succ (K N : Nat) (T : List Int) (u v n : Nat) : rawP K N T u v (n + 1) = rawP K N T u v n ++ rawS K N T u v n K := by
  simp [rawP, List.range_succ]
theorem rawT_len (K N : Nat) (T : List Int) (u v s t : Nat) : (rawT K N T u v s t).length ≤ 1 := by unfold rawT; split <;> simp
theorem rawS_len (K N : Nat) (T : List Int) (u v s n : Nat) : (rawS K N T u v s n).length ≤ n := by
  induction n with
  | zero => simp [rawS]
  | succ n ih => rw [rawS_succ, List.length_append]; have := rawT_len K N T u v s n; omega
theorem rawP_len (K N : Nat) (T : List Int) (u v n : Nat) : (rawP K N T u v n).length ≤ n * K := by
  induction n with
  | zero => simp [rawP]
  | succ n ih => rw [rawP_succ, List.length_append, Nat.add_mul]; have := rawS_len K N T u v n K; omega
/-- Does an arrow lead from the pair u, v to the vertex q? -/
def Arr (K N : Nat) (T : List Int) (u v q : Nat) : Prop := ∃ s t, s < K ∧ t < K ∧ labN K T u s = labN K T v t ∧ q = toN K N u s * N + toN K N v t
theorem mem_rawP {K N : Nat} {T : List Int} {u v q : Nat} : q ∈ rawP K N T u v K ↔ Arr K N T u v q := by
  unfold rawP rawS rawT Arr
  simp only [List.mem_flatMap, List.mem_range]
  constructor
  · rintro ⟨s, hs, t, ht, h⟩
    split at h
    · rename_i e
      exact ⟨s, t, hs, ht, e, by simpa using h⟩
    · cases h
  · rintro ⟨s, t, hs, ht, e, h⟩
    exact ⟨s, hs, t, ht, by rw [if_pos e]; simpa using h⟩
theorem toN_lt {K N u s : Nat} (hN : 0 < N) : toN K N u s < N := Nat.mod_lt _ hN
theorem pair_lt {N a b : Nat} (ha : a < N) (hb : b < N) : a * N + b < N * N := by
  have := Nat.mul_le_mul_right N (show a + 1 ≤ N by omega)
  rw [Nat.add_mul] at this; omega
theorem pair_div {N a b : Nat} (hb : b < N) : (a * N + b) / N = a := div_mk hb
theorem pair_mod {N a b : Nat} (hb : b < N) : (a * N + b) % N = b := mod_mk hb
theorem pair_eq (p N : Nat) : p / N * N + p % N = p := by rw [Nat.mul_comm]; exact Nat.div_add_mod p N
theorem div_lt_of {p N : Nat} (h : p < N * N) : p / N < N := Nat.div_lt_of_lt_mul h
theorem Arr.lt {K N : Nat} {T : List Int} {u v q : Nat} (hN : 0 < N) (h : Arr K N T u v q) : q < N * N := by
  obtain ⟨s, t, _, _, _, rfl⟩ := h
  exact pair_lt (toN_lt hN) (toN_lt hN)
theorem Arr.swap {K N : Nat} {T : List Int} {u v q : Nat} (hN : 0 < N) (h : Arr K N T u v q) : Arr K N T v u (q % N * N + q / N) := by
  obtain ⟨s, t, hs, ht, e, rfl⟩ := h
  rw [pair_div (toN_lt hN), pair_mod (toN_lt hN)]
  exact ⟨t, s, ht, hs, e.symm, rfl⟩
/-- The vertices that arrows lead to, ascending. -/
def pairL (K N : Nat) (T : List Int) (p : Nat) : List Nat := (List.range (N * N)).filter fun q => decide (q ∈ rawP K N T (p / N) (p % N) K)
theorem pairL_sorted (K N : Nat) (T : List Int) (p : Nat) : (pairL K N T p).Pairwise (· < ·) := List.Pairwise.filter _ List.pairwise_lt_range
theorem mem_pairL {K N : Nat} {T : List Int} {p q : Nat} (hN : 0 < N) : q ∈ pairL K N T p ↔ Arr K N T (p / N) (p % N) q := by
  unfold pairL
  rw [List.mem_filter, List.mem_range, decide_eq_true_iff, mem_rawP]
  exact ⟨fun h => h.2, fun h => ⟨h.lt hN, h⟩⟩
theorem nodup_sub {α : Type} [DecidableEq α] : ∀ {l m : List α}, l.Nodup → l ⊆ m → l.length ≤ m.length
  | [], _, _, _ => by simp
  | a :: l, m, hn, hs => by
    obtain ⟨h1, h2⟩ := List.nodup_cons.1 hn
    have ha := hs List.mem_cons_self
    have := nodup_sub (l := l) (m := m.erase a) h2 (fun b hb => (List.mem_erase_of_ne (fun e => h1 (by rw [← e]; exact hb))).2 (hs (List.mem_cons_of_mem _ hb)))
    have hl := List.length_erase_of_mem ha
    have := List.length_pos_of_mem ha
    simp only [List.length_cons]; omega
theorem pairL_len (K N : Nat) (T : List Int) (p : Nat) : (pairL K N T p).length ≤ K * K := by
  have hn : (pairL K N T p).Nodup := (pairL_sorted K N T p).imp (fun h => Nat.ne_of_lt h)
  have hs : pairL K N T p ⊆ rawP K N T (p / N) (p % N) K := fun q hq => by
    unfold pairL at hq
    simpa using (List.mem_filter.1 hq).2
  exact Nat.le_trans (nodup_sub hn hs) (rawP_len ..)

/-- The node of a word at a place. -/
def nodeAt (K m : Nat) (x : List Int) (i : Nat) : Nat := numW K ((x.drop i).take m)
theorem win_snoc {x : List Int} {i m : Nat} (h : i + m < x.length) : (x.drop i).take (m + 1) = (x.drop i).take m ++ [x.getD (i + m) 0] := by
  rw [List.take_add_one, List.getElem?_drop]
  simp [List.getD, h]
theorem win_cons {x : List Int} {i m : Nat} : ((x.drop i).take (m + 1)).drop 1 = (x.drop (i + 1)).take m := by
  rw [List.drop_take]; simp
theorem syms_drop {K : Int} {x : List Int} (h : Syms K x) (i : Nat) : Syms K (x.drop i) := fun y hy => h y (List.mem_of_mem_drop hy)
theorem syms_take {K : Int} {x : List Int} (h : Syms K x) (i : Nat) : Syms K (x.take i) := fun y hy => h y (List.mem_of_mem_take hy)
theorem syms_at {K : Nat} {x : List Int} (h : Syms K x) {i : Nat} (hi : i < x.length) : 0 ≤ x.getD i 0 ∧ x.getD i 0 < K ∧ (x.getD i 0).toNat < K := by
  have := h (x[i]) (List.getElem_mem hi)
  simp only [List.getD_eq_getElem?_getD, List.getElem?_eq_getElem hi, Option.getD_some]
  omega
theorem win_num {K m : Nat} {x : List Int} {i : Nat} (h : i + m < x.length) : numW K ((x.drop i).take (m + 1)) = nodeAt K m x i * K + (x.getD (i + m) 0).toNat := by
  rw [win_snoc h, numW_snoc]; rfl
theorem node_lt {K m : Nat} {x : List Int} (hx : Syms K x) {i : Nat} (h : i + m ≤ x.length) : nodeAt K m x i < pw K m := by
  have := numW_lt _ (syms_take (syms_drop hx i) m)
  rwa [show ((x.drop i).take m).length = m by simp; omega] at this
theorem node_next {K m : Nat} {x : List Int} (hx : Syms K x) {i : Nat} (h : i + m < x.length) : nodeAt K m x (i + 1) = toN K (pw K m) (nodeAt K m x i) (x.getD (i + m) 0).toNat := by
  have hl : ((x.drop i).take m).length = m := by simp; omega
  have hs : Syms K ((x.drop i).take m ++ [x.getD (i + m) 0]) := by rw [← win_snoc h]; exact syms_take (syms_drop hx i) _
  have := num_shift hs
  rw [← win_snoc h, win_cons, hl, win_num h] at this
  exact this
theorem img_at {K R : Nat} {T x : List Int} {i : Nat} (h : i + 2 * R < x.length) : (imgP K R T x).getD i 0 = labN K T (nodeAt K (2 * R) x i) (x.getD (i + 2 * R) 0).toNat := by
  rw [imgP_getD _ _ _ _ _ (by omega), win_num h]; rfl
theorem img_eq {K R : Nat} {T x y : List Int} (hl : x.length = y.length) : imgP K R T x = imgP K R T y ↔
    ∀ i, i + 2 * R < x.length → labN K T (nodeAt K (2 * R) x i) (x.getD (i + 2 * R) 0).toNat = labN K T (nodeAt K (2 * R) y i) (y.getD (i + 2 * R) 0).toNat := by
  constructor
  · intro h i hi
    rw [← img_at hi, ← img_at (by omega), h]
  · intro h
    refine List.ext_getElem (by rw [imgP_length, imgP_length, hl]) fun i h1 h2 => ?_
    rw [imgP_length] at h1 h2
    have := h i (by omega)
    rw [← img_at (by omega), ← img_at (by omega)] at this
    simpa [List.getD_eq_getElem?_getD, imgP_length, h1, h2] using this

/-- The vertices along two words. -/
def wayW (K m : Nat) (x y : List Int) : List Nat := (List.range (x.length - m + 1)).map fun i => nodeAt K m x i * pw K m + nodeAt K m y i
theorem wayW_len (K m : Nat) (x y : List Int) : (wayW K m x y).length = x.length - m + 1 := by simp [wayW]
theorem wayW_get {K m : Nat} {x y : List Int} {i : Nat} (h : i ≤ x.length - m) : (wayW K m x y).getD i 0 = nodeAt K m x i * pw K m + nodeAt K m y i := by
  simp [wayW, List.getD, show i < x.length - m + 1 by omega]
theorem wayW_arr {K R : Nat} {T x y : List Int} (hx : Syms K x) (hy : Syms K y) (hl : x.length = y.length) (he : imgP K R T x = imgP K R T y) {i : Nat} (hi : i + 2 * R < x.length) :
    Arr K (pw K (2 * R)) T (nodeAt K (2 * R) x i) (nodeAt K (2 * R) y i) (nodeAt K (2 * R) x (i + 1) * pw K (2 * R) + nodeAt K (2 * R) y (i + 1)) :=
  ⟨_, _, (syms_at hx hi).2.2, (syms_at hy (by omega)).2.2, (img_eq hl).1 he i hi, by rw [node_next hx hi, node_next hy (by omega)]⟩

/-- Does a step of the way fit: the second vertex by the last symbols of its nodes? -/
def StepFits (K N : Nat) (T : List Int) (p q : Nat) : Prop :=
  toN K N (p / N) (q / N % K) = q / N ∧ toN K N (p % N) (q % N % K) = q % N ∧ labN K T (p / N) (q / N % K) = labN K T (p % N) (q % N % K)
instance (K N : Nat) (T : List Int) (p q : Nat) : Decidable (StepFits K N T p q) := by unfold StepFits; exact inferInstance
/-- The last symbol of the node that a symbol leads to is that symbol. -/
theorem toN_mod {K R u s : Nat} (_hK : 1 ≤ K) (hR : 1 ≤ R) (hs : s < K) : toN K (pw K (2 * R)) u s % K = s := by
  unfold toN
  have : K ∣ pw K (2 * R) := ⟨pw K (2 * R - 1), by rw [Nat.mul_comm K, ← pw_succ]; congr 1; omega⟩
  rw [Nat.mod_mod_of_dvd _ this, mod_mk hs]
theorem fits_iff {K R : Nat} {T : List Int} {p q : Nat} (hK : 1 ≤ K) (hR : 1 ≤ R) (hq : q < pw K (2 * R) * pw K (2 * R)) :
    StepFits K (pw K (2 * R)) T p q ↔ Arr K (pw K (2 * R)) T (p / pw K (2 * R)) (p % pw K (2 * R)) q := by
  have hN := pw_pos (K := K) (2 * R) hK
  constructor
  · rintro ⟨h1, h2, h3⟩
    exact ⟨_, _, Nat.mod_lt _ (by omega), Nat.mod_lt _ (by omega), h3, by rw [h1, h2, pair_eq]⟩
  · rintro ⟨s, t, hs, ht, e, rfl⟩
    unfold StepFits
    rw [pair_div (toN_lt (by omega)), pair_mod (toN_lt (by omega)), toN_mod hK hR hs, toN_mod hK hR ht]
    exact ⟨rfl, rfl, e⟩
/-- The word along a way of nodes. -/
def alongW (K m : Nat) (F : Nat → Nat) (way : List Nat) : List Int := digs K m (F (way.getD 0 0)) ++ (way.drop 1).map fun p => ((F p % K : Nat) : Int)
theorem alongW_len (K m : Nat) (F : Nat → Nat) (way : List Nat) : (alongW K m F way).length = m + (way.length - 1) := by simp [alongW, digs_length]
theorem alongW_syms {K m : Nat} (hK : 1 ≤ K) (F : Nat → Nat) (way : List Nat) : Syms K (alongW K m F way) := by
  intro y hy
  rcases List.mem_append.1 hy with hy | hy
  · exact digs_syms hK _ _ y hy
  · obtain ⟨p, _, rfl⟩ := List.mem_map.1 hy
    have := Nat.mod_lt (F p) (show 0 < K by omega); omega
theorem alongW_get {K m : Nat} {F : Nat → Nat} {way : List Nat} {i : Nat} (h : i + 1 < way.length) : (alongW K m F way).getD (i + m) 0 = ((F (way.getD (i + 1) 0) % K : Nat) : Int) := by
  unfold alongW
  rw [List.getD_eq_getElem?_getD, List.getElem?_append_right (by rw [digs_length]; omega), digs_length, Nat.add_sub_cancel, List.getElem?_map, List.getElem?_drop, Nat.add_comm 1 i]
  rw [List.getElem?_eq_getElem h]
  simp [List.getD, h]
/-- Along a way that fits the nodes are the way's. -/
theorem along_node {K m : Nat} (hK : 1 ≤ K) {F : Nat → Nat} {way : List Nat} (h0 : F (way.getD 0 0) < pw K m) (hs : ∀ i, i + 1 < way.length → toN K (pw K m) (F (way.getD i 0)) (F (way.getD (i + 1) 0) % K) = F (way.getD (i + 1) 0)) :
    ∀ i, i < way.length → nodeAt K m (alongW K m F way) i = F (way.getD i 0)
  | 0, _ => by
    unfold nodeAt alongW
    rw [List.drop_zero, List.take_append_of_le_length (by rw [digs_length]; omega), List.take_of_length_le (by rw [digs_length]; omega), numW_digs hK _ _ h0]
  | i + 1, hi => by
    have ih := along_node hK h0 hs i (by omega)
    rw [node_next (alongW_syms hK F way) (by rw [alongW_len]; omega), ih, alongW_get hi, Int.toNat_natCast]
    exact hs i hi
/-- The word along the nodes of a word is that word. -/
theorem along_word {K R : Nat} (hK : 1 ≤ K) (hR : 1 ≤ R) {F : Nat → Nat} {x : List Int} (hx : Syms K x) (hl : 2 * R ≤ x.length) {way : List Nat} (hw : way.length = x.length - 2 * R + 1)
    (hF : ∀ i, i < way.length → F (way.getD i 0) = nodeAt K (2 * R) x i) : alongW K (2 * R) F way = x := by
  have hN := pw_pos (K := K) (2 * R) hK
  refine List.ext_getElem (by rw [alongW_len]; omega) fun i h1 h2 => ?_
  by_cases hi : i < 2 * R
  · have e : digs K (2 * R) (F (way.getD 0 0)) = x.take (2 * R) := by
      rw [hF 0 (by omega)]
      have := digs_numW hK (x.take (2 * R)) (syms_take hx _)
      rw [show (x.take (2 * R)).length = 2 * R by simp; omega] at this
      simpa [nodeAt] using this
    simp only [alongW, e]
    rw [List.getElem_append_left (by simp; omega), List.getElem_take]
  · obtain ⟨j, rfl⟩ : ∃ j, i = j + 2 * R := ⟨i - 2 * R, by omega⟩
    have hj : j + 1 < way.length := by omega
    have := alongW_get (K := K) (m := 2 * R) (F := F) hj
    rw [hF (j + 1) hj, node_next hx (by omega), toN_mod hK hR (syms_at hx (by omega)).2.2] at this
    simp only [List.getD_eq_getElem?_getD, List.getElem?_eq_getElem h1, List.getElem?_eq_getElem h2, Option.getD_some] at this
    rw [this]
    have := (hx (x[j + 2 * R]) (List.getElem_mem _)).1
    omega
end Go.Proofs.YtmhiambkfdkkbaaDoor

namespace Go.Proofs.YtmhiambkfdkkbaaDoor
open Go.RowKit
set_option maxRecDepth 100000

theorem smallP_small {K R : Nat} {T : List Int} (h : RuleOk K R T) (hl : T.length ≤ 256) : smallP K R T = none := by rw [smallP_ok h, if_neg (by omega)]

theorem over_Nodes (r : Nat → Addr) (K R : Nat) (va : Option Addr) (vn vc : Nat) (T : List Int) (w : World) (hg : Glob r w) (h : IntsAt w (.slice va vn vc) T) (hok : RuleOk K R T) (hl : T.length ≤ 256) :
    Calls Tryd.prog 50 #[.agg #[.int .i64 K, .int .i64 R, .slice va vn vc]] w (Ret2 (fun x y _ => x = .int .i64 ((T.length / K : Nat) : Int) ∧ y = .nilIface) w) := by
  have b0 := belowAlloc w (.cells #[.int .i64 K, .int .i64 R, .slice va vn vc] 24)
  have q : Box3 (w.alloc (.cells #[.int .i64 K, .int .i64 R, .slice va vn vc] 24)) w.heap.size (.int .i64 K) (.int .i64 R) (.slice va vn vc) := by simp [Box3, go_sem]
  have hs := smallP_small hok hl
  have hk1 := hok.k1
  generalize hN : T.length / K = N
  replace hN := Lib.hid hN
  replace hs := Lib.hid hs
  replace hg := Lib.hid (hg.below b0)
  replace h := Lib.hid (h.below b0)
  go_enter Tryd.func50, Tryd.ntmps50
  go_wp2_with fail
  refine (over_small r K R va vn vc T _ hg.out h.out).mono ?_
  rintro e w1 ⟨x, rfl, b1, he⟩
  rw [hs.out] at he
  obtain rfl := ErrIs.none_eq he
  obtain ⟨⟨z0, z1, z2⟩, -, -, -⟩ := q.below b1
  go_wp2_with fail
  refine (over_nodes K R va vn vc T _ (h.out.below b1) hk1 (by omega)).mono ?_
  rintro e w2 ⟨rfl, rfl⟩
  rw [hN.out]
  go_wp2
  go_ret2
  exact ⟨_, _, rfl, Below.step b0 (Below.step b1 (belowAlloc _ _)), rfl, rfl⟩

set_option maxHeartbeats 1000000 in
theorem over_Edge (r : Nat → Addr) (K R : Nat) (va : Option Addr) (vn vc : Nat) (T : List Int) (u s : Nat) (w : World) (hg : Glob r w) (h : IntsAt w (.slice va vn vc) T) (hok : RuleOk K R T) (hl : T.length ≤ 256) (hu : u < T.length / K) (hs : s < K) :
    Calls Tryd.prog 55 #[.agg #[.int .i64 K, .int .i64 R, .slice va vn vc], .int .i64 u, .int .i64 s] w (Ret3 (fun x y z _ => x = .int .i64 (toN K (T.length / K) u s) ∧ y = .int .i64 (labN K T u s) ∧ z = .nilIface) w) := by
  have b0 := belowAlloc w (.cells #[.int .i64 K, .int .i64 R, .slice va vn vc] 24)
  have q : Box3 (w.alloc (.cells #[.int .i64 K, .int .i64 R, .slice va vn vc] 24)) w.heap.size (.int .i64 K) (.int .i64 R) (.slice va vn vc) := by simp [Box3, go_sem]
  have hsm := smallP_small hok hl
  have hk1 := hok.k1
  have hk4 := hok.k4
  have hul : u * K + s < T.length := by
    have := Nat.div_mul_le_self T.length K
    have := mul_add_lt (q := u) (m := T.length / K) hs hu
    omega
  have hN0 : T.length / K ≤ 256 := Nat.le_trans (Nat.div_le_self _ _) hl
  have huK : u * K ≤ 256 := by omega
  obtain ⟨p, hp⟩ : ∃ n, u * K = n := ⟨_, rfl⟩
  have hM : (u : Int) * (K : Int) = (p : Int) := by rw [← hp]; simp
  obtain ⟨at_, hat⟩ : ∃ n, u * K + s = n := ⟨_, rfl⟩
  have hA : (p : Int) + (s : Int) = (at_ : Int) := by rw [← hat, hp]; simp
  have i1 := fun w' => h.idx at_ (by omega) w'
  have c1 := h.cellD at_ (by omega)
  generalize valAt (.slice va vn vc) at_ = ta at *
  have hb1 := h.below b0
  have e1 : labN K T u s = T.getD at_ 0 := by unfold labN; rw [hat]
  have e2 : toN K (T.length / K) u s = at_ % (T.length / K) := by unfold toN; rw [hat]
  rw [e1, e2]
  generalize T.getD at_ 0 = y at *
  obtain ⟨N, hN⟩ : ∃ N, T.length / K = N := ⟨_, rfl⟩
  rw [hN] at hu hN0 ⊢
  have hN1 : ¬ (N : Int) = 0 := by omega
  have hN2 : ((N : Int) == 0) = false := by rw [beq_eq_false_iff_ne]; omega
  have hN3 : (0 : Int) < N := by omega
  have hN4 : ¬ N = 0 := by omega
  have hrem : (at_ : Int).tmod (N : Int) = ((at_ % N : Nat) : Int) := by rw [Int.tmod_eq_emod_of_nonneg (by omega)]; simp
  have hat1 : at_ ≤ 256 := by omega
  rw [hat] at hul
  rw [hp] at huK hat
  have hps : (p : Int) + (s : Int) ≤ 256 := by omega
  clear hat hp
  have c1' := (b0.cell (World.block_lt_of_cell? _ _ c1)).trans c1
  replace hN := Lib.hid hN
  replace hsm := Lib.hid hsm
  replace hg := Lib.hid (hg.below b0)
  replace h := Lib.hid hb1
  clear c1 e1 e2 hb1
  go_enter Tryd.func55, Tryd.ntmps55
  go_wp2_with fail
  refine (over_small r K R va vn vc T _ hg.out h.out).mono ?_
  rintro e w1 ⟨x, rfl, b1, he⟩
  rw [hsm.out] at he
  obtain rfl := ErrIs.none_eq he
  have q1 := q.below b1
  obtain ⟨⟨z0, z1, z2⟩, -, -, -⟩ := q1
  have q1 := Lib.hid (q.below b1)
  go_wp2_with fail
  refine (over_nodes K R va vn vc T _ (h.out.below b1) hk1 (by omega)).mono ?_
  rintro e w2 ⟨rfl, rfl⟩
  rw [hN.out]
  have b2 := Below.step b1 (belowAlloc w1 (.cells #[.int .i64 K, .int .i64 R, .slice va vn vc] 24))
  obtain ⟨W2, hW2⟩ : ∃ W2 : World, W2 = w1.alloc (.cells #[.int .i64 K, .int .i64 R, .slice va vn vc] 24) := ⟨_, rfl⟩
  rw [← hW2] at b2 ⊢
  have q2 := q.below b2
  have hT2 := h.out.below b2
  have cT2 := (b2.cell (World.block_lt_of_cell? _ _ c1')).trans c1'
  clear hW2 z0 z1 z2 c1'
  obtain ⟨⟨z0, z1, z2⟩, -, -, -⟩ := q2
  replace hT2 := Lib.hid hT2
  go_upto_region 9 with fail
  refine wp_region_plan (fun w' => w'.cell? ⟨w.heap.size, 0, none⟩ = some (.int .i64 K) ∧ w'.cell? ⟨w.heap.size, 1, none⟩ = some (.int .i64 R) ∧ w'.cell? ⟨w.heap.size, 2, none⟩ = some (.slice va vn vc) ∧ w'.cell? ta = some (.int .i64 y)) 11 [(0, true), (1, true), (4, true), (5, true), (6, true), (7, true), (8, true), (2, false), (3, true), (9, true), (10, true)] (by kernel_rfl) (by kernel_rfl) ?_
  have hS : W2.drew.cell? ⟨w.heap.size, 0, none⟩ = some (.int .i64 K) ∧ W2.drew.cell? ⟨w.heap.size, 1, none⟩ = some (.int .i64 R) ∧ W2.drew.cell? ⟨w.heap.size, 2, none⟩ = some (.slice va vn vc) ∧ W2.drew.cell? ta = some (.int .i64 y) := ⟨z0, z1, z2, cT2⟩
  refine headY (v := ?_) (some 42) rfl rfl (Or.inl ⟨by rfl, ?_⟩) hS ?_
  rotate_left
  · rintro W' ⟨s0, s1, s2, s3⟩; go_simp; try with_reducible rfl
  simp only [Act.put, List.setIfInBounds_toArray, List.set_cons_zero, List.set_cons_succ]
  refine headY (v := ?_) (some 43) rfl rfl (Or.inl ⟨by rfl, ?_⟩) hS ?_
  rotate_left
  · rintro W' ⟨s0, s1, s2, s3⟩; go_simp; try with_reducible rfl
  simp only [Act.put, List.setIfInBounds_toArray, List.set_cons_zero, List.set_cons_succ]
  refine headY (v := ?_) (some 46) rfl rfl (Or.inl ⟨by rfl, ?_⟩) hS ?_
  rotate_left
  · rintro W' ⟨s0, s1, s2, s3⟩; go_simp; try with_reducible rfl
  simp only [Act.put, List.setIfInBounds_toArray, List.set_cons_zero, List.set_cons_succ]
  refine headY (v := ?_) (some 47) rfl rfl (Or.inl ⟨by rfl, ?_⟩) hS ?_
  rotate_left
  · rintro W' ⟨s0, s1, s2, s3⟩; go_simp; try with_reducible rfl
  simp only [Act.put, List.setIfInBounds_toArray, List.set_cons_zero, List.set_cons_succ]
  refine headY (v := ?_) (some 48) rfl rfl (Or.inl ⟨by rfl, ?_⟩) hS ?_
  rotate_left
  · rintro W' ⟨s0, s1, s2, s3⟩; go_simp; try with_reducible rfl
  simp only [Act.put, List.setIfInBounds_toArray, List.set_cons_zero, List.set_cons_succ]
  refine headY (v := ?_) (some 49) rfl rfl (Or.inl ⟨by rfl, ?_⟩) hS ?_
  rotate_left
  · rintro W' ⟨s0, s1, s2, s3⟩; go_simp; try with_reducible rfl
  simp only [Act.put, List.setIfInBounds_toArray, List.set_cons_zero, List.set_cons_succ]
  refine headY (v := ?_) (some 50) rfl rfl (Or.inl ⟨by rfl, ?_⟩) hS ?_
  rotate_left
  · rintro W' ⟨s0, s1, s2, s3⟩; go_simp; try with_reducible rfl
  simp only [Act.put, List.setIfInBounds_toArray, List.set_cons_zero, List.set_cons_succ]
  refine headC rfl (fun KK hK => ?_)
  go_simp
  refine (over_nodes K R va vn vc T _ hT2.out.drew hk1 (by omega)).mono ?_
  rintro e W3 ⟨rfl, rfl⟩
  rw [hN.out]
  have b3 := belowAlloc W2.drew (.cells #[.int .i64 K, .int .i64 R, .slice va vn vc] 24)
  have hS3 := (⟨cell_keep b3 hS.1, cell_keep b3 hS.2.1, cell_keep b3 hS.2.2.1, (b3.cell (World.block_lt_of_cell? _ _ hS.2.2.2)).trans hS.2.2.2⟩ : (W2.drew.alloc (.cells #[.int .i64 K, .int .i64 R, .slice va vn vc] 24)).cell? ⟨w.heap.size, 0, none⟩ = some (.int .i64 K) ∧ (W2.drew.alloc (.cells #[.int .i64 K, .int .i64 R, .slice va vn vc] 24)).cell? ⟨w.heap.size, 1, none⟩ = some (.int .i64 R) ∧ (W2.drew.alloc (.cells #[.int .i64 K, .int .i64 R, .slice va vn vc] 24)).cell? ⟨w.heap.size, 2, none⟩ = some (.slice va vn vc) ∧ (W2.drew.alloc (.cells #[.int .i64 K, .int .i64 R, .slice va vn vc] 24)).cell? ta = some (.int .i64 y))
  refine hK _ _ hS3 ?_
  clear hK KK
  refine headY (v := ?_) (some 45) rfl rfl (Or.inl ⟨by rfl, ?_⟩) hS3 ?_
  rotate_left
  · rintro W' ⟨s0, s1, s2, s3⟩; go_simp; try with_reducible rfl
  simp only [Act.put, List.setIfInBounds_toArray, List.set_cons_zero, List.set_cons_succ]
  refine headY (v := ?_) (some 6) rfl rfl (Or.inl ⟨by rfl, ?_⟩) hS3 ?_
  rotate_left
  · rintro W' ⟨s0, s1, s2, s3⟩; go_simp; try with_reducible rfl
  simp only [Act.put, List.setIfInBounds_toArray, List.set_cons_zero, List.set_cons_succ]
  refine headY (v := ?_) (some 7) rfl rfl (Or.inl ⟨by rfl, ?_⟩) hS3 ?_
  rotate_left
  · rintro W' ⟨s0, s1, s2, s3⟩; go_simp; try with_reducible rfl
  simp only [Act.put, List.setIfInBounds_toArray, List.set_cons_zero, List.set_cons_succ]
  refine head0 ?_
  simp only [List.drop_succ_cons, List.drop_zero]
  clear hS hS3
  go_wp2
  refine NoPanic.normal ?_
  go_wp2
  go_ret3
  exact ⟨_, _, _, rfl, Below.step b0 (Below.step b2 ((Below.refl _ _).drew.alloc (Nat.le_refl _) _)), rfl, rfl, rfl⟩
end Go.Proofs.YtmhiambkfdkkbaaDoor

namespace Go.Proofs.YtmhiambkfdkkbaaDoor
open Go.RowKit
set_option maxRecDepth 100000

def sGraph : ByteArray := ⟨#[103, 114, 97, 112, 104]⟩
/-- No vertex of n. -/
def oddT (n : Nat) (t : Int) : Bool := decide (t < 0) || decide ((n : Int) ≤ t)
def arrowsTo (G : List (List Int)) : Nat → Nat
  | 0 => 0
  | k + 1 => arrowsTo G k + (G.getD k []).length
def oddTo (G : List (List Int)) : Nat → Int
  | 0 => -1
  | k + 1 => if oddTo G k < 0 then (if 0 ≤ idxOf (oddT G.length) (G.getD k []) then (k : Int) else oddTo G k) else oddTo G k
/-- What Check tells. -/
def checkG (G : List (List Int)) : PErr :=
  if 8192 < G.length then fresh sGraph 0 4
  else if 262144 < arrowsTo G G.length then fresh sGraph 1 4
  else if 0 ≤ oddTo G G.length then fresh sGraph (oddTo G G.length) 1
  else none
theorem arrowsTo_mono (G : List (List Int)) {k l : Nat} (h : k ≤ l) : arrowsTo G k ≤ arrowsTo G l := by
  induction l with
  | zero => obtain rfl : k = 0 := by omega
            exact Nat.le_refl _
  | succ l ih =>
    by_cases e : k = l + 1
    · subst e; exact Nat.le_refl _
    · have := ih (by omega); simp only [arrowsTo]; omega
theorem oddTo_neg (G : List (List Int)) : ∀ k, oddTo G k < 0 → ∀ v, v < k → ∀ t ∈ G.getD v [], oddT G.length t = false
  | 0, _, v, hv => by omega
  | k + 1, h, v, hv => by
    simp only [oddTo] at h
    by_cases hk : oddTo G k < 0
    · rw [if_pos hk] at h
      by_cases hj : 0 ≤ idxOf (oddT G.length) (G.getD k [])
      · rw [if_pos hj] at h; omega
      · by_cases e : v = k
        · subst e
          intro t ht
          rcases idxOf_cases (oddT G.length) (G.getD v []) with ⟨_, q⟩ | ⟨i, q, _⟩
          · exact q t ht
          · omega
        · exact oddTo_neg G k hk v (by omega)
    · rw [if_neg hk] at h; exact absurd h hk
theorem checkG_none {G : List (List Int)} (h : checkG G = none) : G.length ≤ 8192 ∧ arrowsTo G G.length ≤ 262144 ∧ GraphOk G := by
  unfold checkG at h
  by_cases h1 : 8192 < G.length
  · rw [if_pos h1] at h; cases h
  rw [if_neg h1] at h
  by_cases h2 : 262144 < arrowsTo G G.length
  · rw [if_pos h2] at h; cases h
  rw [if_neg h2] at h
  by_cases h3 : 0 ≤ oddTo G G.length
  · rw [if_pos h3] at h; cases h
  refine ⟨by omega, by omega, fun v hv t ht => ?_⟩
  have := oddTo_neg G G.length (by omega) v hv t ht
  simp [oddT] at this
  omega

theorem graph_wrong (r : Nat → Addr) (at_ n : Int) (w : World) (hg : Glob r w) (h1 : 1 ≤ n) (h2 : n ≤ 11) :
    Calls Tryd.prog 117 #[.int .i64 at_, .int .i64 n] w (Ret1 (fun v w' => ErrIs r w' (fresh sGraph at_ n) v) w) := by
  go_enter Tryd.func117, Tryd.ntmps117
  go_wp2_with fail
  refine (new_any r _ at_ n w hg h1 h2).mono ?_
  rintro e w' ⟨v, rfl, hb, he⟩
  go_wp2
  go_ret
  exact ⟨_, rfl, hb, he⟩

theorem check1_any (x : Int) (na : Option Addr) (n nc : Nat) (b : Addr) (w : World) (hb : w.cell? b = some (.slice na n nc)) :
    Calls Tryd.prog 130 #[.int .i64 x, .pointer (some b)] w fun e w' => e = .returned (.bool (oddT n x)) ∧ w = w' := by
  by_cases h : x < 0
  · have e : oddT n x = true := by simp [oddT, h]
    rw [e]
    go_enter Tryd.func130, Tryd.ntmps130
    go_wp2
    go_ret
    exact ⟨rfl, rfl⟩
  · have e : oddT n x = decide ((n : Int) ≤ x) := by simp [oddT, h]
    rw [e]
    go_enter Tryd.func130, Tryd.ntmps130
    go_wp2
    go_ret
    exact ⟨ret_bool (by simp), rfl⟩
theorem eg_check1 (args : Array Value) (w : World) : (callFunc 130 args).run Tryd.prog w = .ok (.enter 130 args) w := by kernel_rfl

theorem containsFunc_any (v b : Value) (F : Nat) (xs : List Int) (p : Int → Bool) (w : World) (h : IntsAt w v xs)
    (eg : ∀ args w, (callFunc F args).run Tryd.prog w = .ok (.enter F args) w)
    (hF : ∀ x : Int, x ∈ xs → Calls Tryd.prog F #[.int .i64 x, b] w fun e w' => e = .returned (.bool (p x)) ∧ w = w') :
    Calls Tryd.prog 52 #[v, .func (.func F) #[] #[b]] w fun e w' => e = .returned (.bool (decide (0 ≤ idxOf p xs))) ∧ w = w' := by
  have hI := indexFunc_any v b F xs p w h eg hF
  clear hF eg
  go_enter Tryd.func52, Tryd.ntmps52
  go_wp2_with fail
  refine hI.mono ?_
  rintro e w' ⟨rfl, rfl⟩
  go_wp2
  go_ret
  exact ⟨ret_bool (by simp), rfl⟩

set_option maxHeartbeats 2000000 in
theorem graph_check (r : Nat → Addr) (na : Option Addr) (nc : Nat) (G : List (List Int)) (w : World) (hg : Glob r w) (h : ListsAt w (.slice na G.length nc) G) (hsz : ∀ k, k < G.length → (G.getD k []).length ≤ 17592186044416) :
    Calls Tryd.prog 116 #[.slice na G.length nc] w (Ret1 (fun v w' => ErrIs r w' (checkG G) v) w) := by
  have b0 : Below w.heap.size w (w.alloc (.cells #[.slice na G.length nc] 43)) := (Below.refl _ _).alloc (Nat.le_refl _) _
  obtain ⟨w0, hw0⟩ : ∃ w0, w0 = w.alloc (.cells #[.slice na G.length nc] 43) := ⟨_, rfl⟩
  have c0 : w0.cell? ⟨w.heap.size, 0, none⟩ = some (.slice na G.length nc) := by simp [hw0, go_sem]
  rw [← hw0] at b0
  replace hsz := Lib.hid hsz
  replace hg := Lib.hid (hg.below b0)
  replace h := Lib.hid (h.below b0)
  have hn63 : G.length ≤ 9223372036854775807 := by
    obtain ⟨vs, h1, h2, _⟩ := h.out
    have := h1.len_le; omega
  by_cases hbig : 8192 < G.length
  · have hp : checkG G = fresh sGraph 0 4 := by unfold checkG; rw [if_pos hbig]
    rw [hp]
    replace hp := Lib.hid hp
    go_enter Tryd.func116, Tryd.ntmps116
    go_wp2_with fail
    rw [← hw0]
    clear hw0
    refine (graph_wrong r _ _ _ hg.out (by decide) (by decide)).mono ?_
    rintro e w' ⟨v, rfl, hb, he⟩
    replace he := Lib.hid he
    go_wp2
    go_ret
    exact ⟨_, rfl, Below.step b0 hb, he.out⟩
  · have hpure : ∀ k, k ≤ G.length → 262144 < arrowsTo G k → checkG G = fresh sGraph 1 4 := fun k hk hq => by
      unfold checkG
      rw [if_neg hbig, if_pos (by have := arrowsTo_mono G hk; omega)]
    have hend : arrowsTo G G.length ≤ 262144 → checkG G = if 0 ≤ oddTo G G.length then fresh sGraph (oddTo G G.length) 1 else none := fun hq => by
      unfold checkG
      rw [if_neg hbig, if_neg (by omega)]
    replace hpure := Lib.hid hpure
    replace hend := Lib.hid hend
    have hgt : decide ((G.length : Int) > 8192) = false := by simp; omega
    go_enter Tryd.func116, Tryd.ntmps116
    go_upto_if 9 with fail
    rw [← hw0]
    clear hw0
    go_wp2_with fail
    go_loopw [3, 4, 13] (fun a o i wr => ∃ k n : Nat, k ≤ G.length ∧ i = .int .i64 k ∧ a = .int .i64 (arrowsTo G k) ∧ o = .int .i64 (oddTo G k) ∧ arrowsTo G k ≤ 262144 ∧ wr = w0.drewN n) (fun _ _ i _ => G.length - (intOf i).toNat)
    case atStart => exact ⟨0, 0, by omega, rfl, rfl, rfl, by simp [arrowsTo], rfl⟩
    case round =>
      obtain ⟨k, q, hk, rfl, rfl, rfl, hle, rfl⟩ := hrel
      by_cases hlt : k < G.length
      · obtain ⟨mv, iR, cR, hM⟩ := h.out.row k hlt
        have hll := hsz.out k hlt
        have ha1 : arrowsTo G (k + 1) = arrowsTo G k + (G.getD k []).length := rfl
        have ho1 : oddTo G (k + 1) = if oddTo G k < 0 then (if 0 ≤ idxOf (oddT G.length) (G.getD k []) then (k : Int) else oddTo G k) else oddTo G k := rfl
        generalize G.getD k [] = gk at *
        have lenM := hM.len
        replace hM := Lib.hid hM
        by_cases hov : 262144 < arrowsTo G k + gk.length
        · have hp := hpure.out (k + 1) (by omega) (by omega)
          replace hp := Lib.hid hp
          replace ho1 := Lib.hid ho1
          replace ha1 := Lib.hid ha1
          go_wp2_with fail
          refine (graph_wrong r _ _ _ (hg.out.below (below_drewN (Below.refl _ _) q)) (by decide) (by decide)).mono ?_
          rintro e w' ⟨v, rfl, hb, he⟩
          replace he := Lib.hid he
          go_wp2
          go_ret
          exact ⟨_, rfl, Below.step b0 (Below.step (below_drewN (Below.refl _ _) q) hb), by rw [hp.out]; exact he.out⟩
        · by_cases hod : oddTo G k < 0
          · rw [if_pos hod] at ho1
            have hcf := Lib.hid (containsFunc_any mv (.pointer (some ⟨w.heap.size, 0, none⟩)) 130 gk (oddT G.length) (w0.drewN q) (hM.out.drewN q) eg_check1 (fun x _ => check1_any x na G.length nc _ _ c0))
            by_cases hx : 0 ≤ idxOf (oddT G.length) gk
            · rw [if_pos hx] at ho1
              replace ho1 := Lib.hid ho1
              replace ha1 := Lib.hid ha1
              go_wp2_with fail
              refine hcf.out.mono ?_
              rintro e w' ⟨rfl, rfl⟩
              rw [show decide (0 ≤ idxOf (oddT G.length) gk) = true by simpa using hx]
              replace hx := Lib.hid hx
              go_wp2
              go_round
              case measure => simp [intOf]; omega
              case rel => exact ⟨k + 1, _, by omega, by go_num, by rw [ha1.out]; go_num, by rw [ho1.out], by rw [ha1.out]; omega, rfl⟩
            · rw [if_neg hx] at ho1
              replace ho1 := Lib.hid ho1
              replace ha1 := Lib.hid ha1
              go_wp2_with fail
              refine hcf.out.mono ?_
              rintro e w' ⟨rfl, rfl⟩
              rw [show decide (0 ≤ idxOf (oddT G.length) gk) = false by simpa using hx]
              replace hx := Lib.hid hx
              go_wp2
              go_round
              case measure => simp [intOf]; omega
              case rel => exact ⟨k + 1, _, by omega, by go_num, by rw [ha1.out]; go_num, by rw [ho1.out], by rw [ha1.out]; omega, rfl⟩
          · rw [if_neg hod] at ho1
            replace ho1 := Lib.hid ho1
            replace ha1 := Lib.hid ha1
            go_wp2
            go_round
            case measure => simp [intOf]; omega
            case rel => exact ⟨k + 1, _, by omega, by go_num, by rw [ha1.out]; go_num, by rw [ho1.out], by rw [ha1.out]; omega, rfl⟩
      · obtain rfl : k = G.length := by omega
        have hp := hend.out hle
        by_cases hod : 0 ≤ oddTo G G.length
        · rw [if_pos hod] at hp
          replace hp := Lib.hid hp
          go_wp2_with fail
          refine (graph_wrong r _ _ _ (hg.out.below (below_drewN (Below.refl _ _) q)) (by decide) (by decide)).mono ?_
          rintro e w' ⟨v, rfl, hb, he⟩
          replace he := Lib.hid he
          go_wp2
          go_ret
          exact ⟨_, rfl, Below.step b0 (Below.step (below_drewN (Below.refl _ _) q) hb), by rw [hp.out]; exact he.out⟩
        · rw [if_neg hod] at hp
          replace hp := Lib.hid hp
          go_wp2
          go_ret
          exact ⟨_, rfl, Below.step b0 (below_drewN (Below.refl _ _) q), by rw [hp.out]; rfl⟩
end Go.Proofs.YtmhiambkfdkkbaaDoor

namespace Go.Proofs.YtmhiambkfdkkbaaDoor
open Go.RowKit
set_option maxRecDepth 100000

/-- What is told so far: the first k lists, and j of the next. -/
def BackTo (G : List (List Int)) (k j : Nat) (F : Nat → List Int) : Prop :=
  ∀ t, t < G.length → ((F t).length ≤ arrowsTo G k + j ∧ ∀ y : Int, y ∈ F t ↔ ∃ v : Nat, y = v ∧ (v < k ∧ (t : Int) ∈ G.getD v [] ∨ v = k ∧ (t : Int) ∈ (G.getD k []).take j))
theorem BackTo.zero (G : List (List Int)) : BackTo G 0 0 (fun _ => []) := by
  intro t _
  refine ⟨Nat.zero_le _, fun y => ⟨fun h => (by cases h), fun ⟨v, _, h⟩ => ?_⟩⟩
  rcases h with ⟨h, _⟩ | ⟨_, h⟩
  · omega
  · simp at h
theorem BackTo.next {G : List (List Int)} {k : Nat} {F : Nat → List Int} (h : BackTo G k (G.getD k []).length F) : BackTo G (k + 1) 0 F := by
  intro t ht
  obtain ⟨h1, h2⟩ := h t ht
  refine ⟨by simpa [arrowsTo] using h1, fun y => ?_⟩
  rw [h2 y]
  constructor
  · rintro ⟨v, hv, h⟩
    refine ⟨v, hv, .inl ?_⟩
    rcases h with ⟨a, b⟩ | ⟨rfl, b⟩
    · exact ⟨by omega, b⟩
    · rw [List.take_length] at b; exact ⟨by omega, b⟩
  · rintro ⟨v, hv, h⟩
    rcases h with ⟨a, b⟩ | ⟨_, b⟩
    · refine ⟨v, hv, ?_⟩
      by_cases e : v = k
      · subst e; exact .inr ⟨rfl, by rw [List.take_length]; exact b⟩
      · exact .inl ⟨by omega, b⟩
    · simp at b
theorem BackTo.add {G : List (List Int)} {k j u : Nat} {F : Nat → List Int} (h : BackTo G k j F) (hj : (G.getD k [])[j]? = some (u : Int)) : BackTo G k (j + 1) (updN F u (F u ++ [(k : Int)])) := by
  have hjl : j < (G.getD k []).length := by
    by_cases q : j < (G.getD k []).length
    · exact q
    · rw [List.getElem?_eq_none (by omega)] at hj; cases hj
  have htk : (G.getD k []).take (j + 1) = (G.getD k []).take j ++ [(u : Int)] := by
    rw [List.take_add_one, hj]; rfl
  intro t ht
  obtain ⟨h1, h2⟩ := h t ht
  by_cases e : t = u
  · subst e
    rw [updN_same]
    refine ⟨by rw [List.length_append]; simp only [List.length_cons, List.length_nil]; omega, fun y => ?_⟩
    rw [List.mem_append, h2 y, htk]
    simp only [List.mem_singleton, List.mem_append]
    constructor
    · rintro (⟨v, hv, h⟩ | rfl)
      · refine ⟨v, hv, ?_⟩
        rcases h with h | ⟨a, b⟩
        · exact .inl h
        · exact .inr ⟨a, .inl b⟩
      · exact ⟨k, rfl, .inr ⟨rfl, .inr (by simp)⟩⟩
    · rintro ⟨v, hv, h⟩
      rcases h with h | ⟨a, b | b⟩
      · exact .inl ⟨v, hv, .inl h⟩
      · exact .inl ⟨v, hv, .inr ⟨a, b⟩⟩
      · right; rw [hv, a]
  · rw [updN_other _ _ _ e]
    refine ⟨by omega, fun y => ?_⟩
    rw [h2 y, htk]
    simp only [List.mem_append, List.mem_singleton]
    constructor
    · rintro ⟨v, hv, h⟩
      refine ⟨v, hv, ?_⟩
      rcases h with h | ⟨a, b⟩
      · exact .inl h
      · exact .inr ⟨a, .inl b⟩
    · rintro ⟨v, hv, h⟩
      refine ⟨v, hv, ?_⟩
      rcases h with h | ⟨a, b | b⟩
      · exact .inl h
      · exact .inr ⟨a, b⟩
      · exact absurd (by omega) e
/-- The graph turned: arrows the other way. -/
def TurnedOf (G H : List (List Int)) : Prop := H.length = G.length ∧ (∀ t, t < G.length → (H.getD t []).length ≤ arrowsTo G G.length) ∧ ∀ t, t < G.length → ∀ y : Int, y ∈ H.getD t [] ↔ ∃ v : Nat, y = v ∧ v < G.length ∧ (t : Int) ∈ G.getD v []
theorem BackTo.turned {G : List (List Int)} {F : Nat → List Int} (h : BackTo G G.length 0 F) : TurnedOf G (rowsOf G.length F) := by
  refine ⟨rowsOf_len _ _, fun t ht => ?_, fun t ht y => ?_⟩
  · rw [rowsOf_get _ _ _ ht]; simpa using (h t ht).1
  · rw [rowsOf_get _ _ _ ht, (h t ht).2 y]
    constructor
    · rintro ⟨v, hv, h⟩
      rcases h with h | ⟨_, h⟩
      · exact ⟨v, hv, h.1, h.2⟩
      · simp at h
    · rintro ⟨v, hv, h⟩
      exact ⟨v, hv, .inl h⟩

set_option maxHeartbeats 4000000 in
theorem graph_back (na : Option Addr) (nc : Nat) (G : List (List Int)) (w : World) (h : ListsAt w (.slice na G.length nc) G) (hok : GraphOk G) (hn : G.length ≤ 8200) (harr : arrowsTo G G.length ≤ 262144) :
    Calls Tryd.prog 102 #[.slice na G.length nc] w (Ret1 (fun x w' => ∃ H, TurnedOf G H ∧ ListsAt w' x H) w) := by
  obtain ⟨ov, w1, mk, ho, hb1⟩ := run_makeW oneLists (G.length : Int) G.length w rfl (by omega)
  obtain ⟨f1, hr1, h1⟩ := WN.made G.length hb1 (Nat.le_refl _) ho
  obtain ⟨oa, on, oc, rfl⟩ := ho.shape
  have hlen : ∀ k, k < G.length → (G.getD k []).length ≤ 262144 := fun k hk => by
    have := arrowsTo_mono G (show k + 1 ≤ G.length by omega)
    simp only [arrowsTo] at this; omega
  replace h := Lib.hid h
  replace hok := Lib.hid hok
  replace hr1 := Lib.hid hr1
  replace ho := Lib.hid ho
  replace hlen := Lib.hid hlen
  go_enter Tryd.func102, Tryd.ntmps102
  go_wp2_with fail
  clear mk
  go_loopw [13] (fun kv wr => ∃ (k : Nat) (F : Nat → List Int) (f : Names) (vals : List Value), k ≤ G.length ∧ kv = .int .i64 k ∧ Rows w.heap.size wr f ∧ Below w.heap.size w wr ∧ WN f (.slice oa on oc) vals G.length F ∧ BackTo G k 0 F) (fun kv _ => G.length - (intOf kv).toNat)
  case atStart => exact ⟨0, _, f1, _, by omega, rfl, hr1.out, hb1, h1, BackTo.zero G⟩
  case round =>
    clear h1 ho hr1
    obtain ⟨k, F, f2, vals, hk, rfl, hr2, b2, h2, hB⟩ := hrel
    obtain ⟨wo, rfl⟩ : ∃ wo : World, wo = wr := ⟨_, rfl⟩
    by_cases hlt : k < G.length
    · obtain ⟨mv, iR, cR0, hM0⟩ := h.out.row k hlt
      have cR := (b2.cell (World.block_lt_of_cell? _ _ cR0)).trans cR0
      clear cR0
      have hM := hM0.below b2
      have hgl := hlen.out k hlt
      have hgp := hok.out k hlt
      have hBadd := fun (j u : Nat) (F : Nat → List Int) (h : BackTo G k j F) => h.add (u := u)
      have hBnext := fun (F : Nat → List Int) (h : BackTo G k (G.getD k []).length F) => h.next
      have hBlen := fun (j t : Nat) (F : Nat → List Int) (h : BackTo G k j F) (ht : t < G.length) => (h t ht).1
      have harrk := arrowsTo_mono G hk
      generalize G.getD k [] = gk at *
      have lM := hM.len
      generalize valAt (.slice na G.length nc) k = ra at *
      replace hB := Lib.hid hB
      replace hBadd := Lib.hid hBadd
      replace hBnext := Lib.hid hBnext
      replace hBlen := Lib.hid hBlen
      replace hgp := Lib.hid hgp
      replace hr2 := Lib.hid hr2
      replace hM := Lib.hid hM
      replace hM0 := Lib.hid hM0
      go_wp2_with fail
      clear iR cR lM
      go_loopw [20] (fun jv wr => ∃ (j : Nat) (F : Nat → List Int) (f : Names) (vals : List Value), j ≤ gk.length ∧ jv = .int .i64 j ∧ Rows w.heap.size wr f ∧ Below w.heap.size w wr ∧ WN f (.slice oa on oc) vals G.length F ∧ BackTo G k j F) (fun jv _ => gk.length - (intOf jv).toNat)
      case atStart => exact ⟨0, F, f2, vals, by omega, rfl, hr2.out, b2, h2, hB.out⟩
      case round =>
        clear hB hr2 h2 b2 hM
        obtain ⟨j, F, f3, vals, hj, rfl, hr3, b3, h3, hB⟩ := hrel
        obtain ⟨wo, rfl⟩ : ∃ wo : World, wo = wr := ⟨_, rfl⟩
        by_cases hjl : j < gk.length
        · have hMj := hM0.out.below b3
          have hgj := hgp.out gk[j] (List.getElem_mem hjl)
          obtain ⟨u, hu⟩ : ∃ u : Nat, gk[j] = u := Int.eq_ofNat_of_zero_le hgj.1
          have hun : u < G.length := by rw [hu] at hgj; omega
          have hgu : gk[j]? = some (u : Int) := by rw [List.getElem?_eq_getElem hjl, hu]
          have hgd : gk.getD j 0 = (u : Int) := by rw [List.getD_eq_getElem?_getD, hgu]; rfl
          have iJ := fun w' => hMj.idx j hjl w'
          have cJ := hMj.cellD j hjl
          rw [hgd] at cJ
          have hadd := hBadd.out j u F hB hgu
          have hfl := hBlen.out j u F hB hun
          have hOV := (hr3.ownV h3.outer).at
          have iO := fun w' => hOV.idx oneLists u (by rw [h3.len]; exact hun) w'
          have cO := hOV.cellV u (by rw [h3.len]; exact hun)
          have hT := hr3.ownI (h3.rows u hun)
          have happ := fun (w1 : World) (v' : Value) => h3.app hr3 hun (w1 := w1) (v' := v') (k : Int)
          have hput := fun (w1 : World) (v' : Value) (xs : List Int) => h3.put (B := w.heap.size) (w1 := w1) hun (v' := v') (xs := xs)
          have hB3 : w.heap.size ≤ wo.heap.size := b3.size
          generalize valAt mv j = ja at *
          generalize vAt vals u = tv at *
          generalize valAt (.slice oa on oc) u = ua at *
          replace hadd := Lib.hid hadd
          replace happ := Lib.hid happ
          replace hput := Lib.hid hput
          replace hB := Lib.hid hB
          replace hr3 := Lib.hid hr3
          replace hOV := Lib.hid hOV
          replace hgu := Lib.hid hgu
          replace hgd := Lib.hid hgd
          replace hu := Lib.hid hu
          replace hgj := Lib.hid hgj
          go_wp2_with (at_builtin; refine wpl_app1 rfl _ _ rfl w.heap.size tv (F u) k hT rfl rfl (by omega) hB3 ?_)
          intro v' w7 ho7 b7 hal7
          have hR7 := happ.out w7 v' ho7 hal7
          obtain ⟨y1, y2, y3, f8, hr8, h8, _⟩ := hput.out w7 v' _ hR7
          obtain ⟨va, vn, vc, rfl⟩ := ho7.at.shape
          replace hr8 := Lib.hid hr8
          replace ho7 := Lib.hid ho7
          replace hR7 := Lib.hid hR7
          clear hal7 hT iJ cJ cO
          go_wp2
          go_roundw
          case measure => simp [intOf]; omega
          case rel => exact ⟨j + 1, _, f8, _, by omega, by go_num, hr8.out, (b3.trans b7).setCell y3 _, h8, hadd.out⟩
        · obtain rfl : j = gk.length := by omega
          have hnext := hBnext.out F hB
          replace hnext := Lib.hid hnext
          replace hB := Lib.hid hB
          replace hr3 := Lib.hid hr3
          go_wp2
          go_roundw
          case measure => simp [intOf]; omega
          case rel => exact ⟨k + 1, F, f3, vals, by omega, by go_num, hr3.out, b3, h3, hnext.out⟩
    · obtain rfl : k = G.length := by omega
      have hT := hB.turned
      have hL := h2.lists hr2
      replace hB := Lib.hid hB
      replace hT := Lib.hid hT
      replace hL := Lib.hid hL
      replace hr2 := Lib.hid hr2
      go_wp2
      go_ret
      exact ⟨_, rfl, b2, _, hT.out, hL.out⟩
end Go.Proofs.YtmhiambkfdkkbaaDoor

namespace Go.Proofs.YtmhiambkfdkkbaaDoor
open Go.RowKit
set_option maxRecDepth 100000

/-- A node's first arrows: where to, and what is told. -/
def arrL (K N : Nat) (T : List Int) (u n : Nat) : List (Int × Int) := (List.range n).map fun s => ((toN K N u s : Int), labN K T u s)
theorem arrL_len (K N : Nat) (T : List Int) (u n : Nat) : (arrL K N T u n).length = n := by simp [arrL]
theorem arrL_succ (K N : Nat) (T : List Int) (u n : Nat) : arrL K N T u (n + 1) = arrL K N T u n ++ [((toN K N u n : Int), labN K T u n)] := by simp [arrL, List.range_succ]
/-- While they are written: all of the first k nodes, and the next node's first j. -/
def arrTo (K N : Nat) (T : List Int) (k j : Nat) (u : Nat) : List (Int × Int) := if u < k then arrL K N T u K else if u = k then arrL K N T u j else []
theorem arrTo_zero (K N : Nat) (T : List Int) : arrTo K N T 0 0 = fun _ => [] := by
  funext u; unfold arrTo
  rw [if_neg (by omega)]
  split
  · simp [arrL]
  · rfl
theorem arrTo_next (K N : Nat) (T : List Int) (k : Nat) : arrTo K N T k K = arrTo K N T (k + 1) 0 := by
  funext u; unfold arrTo
  by_cases h : u < k
  · rw [if_pos h, if_pos (by omega)]
  · rw [if_neg h]
    by_cases e : u = k
    · rw [if_pos e, if_pos (by omega)]
    · rw [if_neg e, if_neg (by omega)]
      split
      · simp [arrL]
      · rfl
theorem arrTo_at (K N : Nat) (T : List Int) (k j : Nat) : arrTo K N T k j k = arrL K N T k j := by unfold arrTo; rw [if_neg (by omega), if_pos rfl]
theorem arrTo_step (K N : Nat) (T : List Int) (k j : Nat) : updN (arrTo K N T k j) k (arrL K N T k (j + 1)) = arrTo K N T k (j + 1) := by
  funext u
  by_cases e : u = k
  · subst e; rw [updN_same, arrTo_at]
  · rw [updN_other _ _ _ e]; unfold arrTo
    by_cases h : u < k
    · rw [if_pos h, if_pos h]
    · rw [if_neg h, if_neg h, if_neg e, if_neg e]

theorem twoArrow : TwoInts 74 76 := twoInts_mk (by kernel_rfl) (by kernel_rfl)
theorem oneArrows : OneCell 72 74 (.slice none 0 0) 24 := ⟨by kernel_rfl, by kernel_rfl, rfl, by decide, fun _ => by kernel_rfl⟩
/-- What the names name: the outer row, the nodes' arrows. -/
structure AN (f : Names) (ov : Value) (vals : List Value) (n : Nat) (F : Nat → List (Int × Int)) : Prop where
  outer : f (1, 0) = some (rowV 74 ov vals)
  len : vals.length = n
  rows : ∀ u, u < n → f (2, u) = some ⟨76, 2, vAt vals u, (F u).length, flat2 (F u)⟩
section
variable {B : Nat} {w : World} {f : Names} {ov : Value} {vals : List Value} {n : Nat} {F : Nat → List (Int × Int)}
def nils2 (n : Nat) : Names := fun i => if i.1 = 2 ∧ i.2 < n then some ⟨76, 2, .slice none 0 0, 0, []⟩ else none
theorem rows_nils2 (B : Nat) (w : World) (n : Nat) : Rows B w (nils2 n) := by
  refine ⟨fun i r hi => ?_, fun i j r s hi _ _ => ?_⟩
  · unfold nils2 at hi
    split at hi
    · injection hi with hi; subst hi; exact World.ownsRow_nil w B _ 2
    · cases hi
  · left
    unfold nils2 at hi
    split at hi
    · injection hi with hi; subst hi; rfl
    · cases hi
theorem AN.made {w1 : World} (n : Nat) (hb : Below w.heap.size w w1) (hB : B ≤ w.heap.size) (ho : OwnV 74 w.heap.size w1 ov (List.replicate n (.slice none 0 0))) :
    ∃ f, Rows B w1 f ∧ AN f ov (List.replicate n (.slice none 0 0)) n (fun _ => []) := by
  refine ⟨_, (rows_nils2 B w n).add (i := (1, 0)) (r' := rowV 74 ov (List.replicate n (.slice none 0 0))) hb (ho.mono hB) (fun k hk => (ho.lt k hk).1), ⟨upd_same _ _ _, by simp, fun u hu => ?_⟩⟩
  rw [upd_ne _ _ (by simp)]
  show nils2 n (2, u) = _
  unfold nils2
  rw [if_pos ⟨rfl, hu⟩]
  simp [vAt, List.getD, hu, flat2]
/-- out[u] = append(out[u], arrow). -/
theorem AN.app (h : AN f ov vals n F) (hr : Rows B w f) {w1 : World} {u g c : Nat} (hu : u < n) (x y : Int)
    (ho : w1.ownsRow B 76 2 (.slice (some ⟨g, 0, none⟩) ((F u).length + 1) c) ((F u).length + 1) (flat2 (F u) ++ [.int .i64 x, .int .i64 y]))
    (hal : ((vAt vals u).ownBlock = some g ∧ w.grownBy w1 (vAt vals u).ownBlock) ∨ (w.heap.size ≤ g ∧ w.grownBy w1 none)) :
    w1.cell? (valAt ov u) = some (vAt vals u) ∧ w1.frozen? (valAt ov u) = false ∧ B ≤ (valAt ov u).block ∧
    ∃ f' vals', Rows B (w1.setCell (valAt ov u) (.slice (some ⟨g, 0, none⟩) ((F u).length + 1) c)) f' ∧ AN f' ov vals' n (updN F u (F u ++ [(x, y)])) := by
  have hrow := h.rows u hu
  have hg : w.grownBy w1 (vAt vals u).ownBlock := grown_via (hal.imp (·.2) (·.2))
  have hob : (Value.slice (some ⟨g, 0, none⟩) ((F u).length + 1) c).ownBlock = (vAt vals u).ownBlock ∨ ∃ k, (Value.slice (some ⟨g, 0, none⟩) ((F u).length + 1) c).ownBlock = some k ∧ w.heap.size ≤ k := by
    rcases hal with ⟨q, _⟩ | ⟨q, _⟩
    · exact .inl q.symm
    · exact .inr ⟨g, rfl, q⟩
  have h1 := hr.grown (r' := ⟨76, 2, .slice (some ⟨g, 0, none⟩) ((F u).length + 1) c, (F u).length + 1, flat2 (F u) ++ [Value.int .i64 x, Value.int .i64 y]⟩) hrow hg (show Row.own B w1 ⟨_, _, _, _, _⟩ from ho) hob
  have ho' : upd f (2, u) (some ⟨76, 2, .slice (some ⟨g, 0, none⟩) ((F u).length + 1) c, (F u).length + 1, flat2 (F u) ++ [Value.int .i64 x, Value.int .i64 y]⟩) (1, 0) = some (rowV 74 ov vals) := by rw [upd_ne _ _ (by simp)]; exact h.outer
  have hl : u < vals.length := by rw [h.len]; exact hu
  have hO := h1.ownV ho'
  refine ⟨hO.at.cellV u hl, hO.frz u hl, (hO.blkB u hl).2, _, _, h1.setV ho' u hl _, ⟨upd_same _ _ _, by simpa using h.len, fun t ht => ?_⟩⟩
  rw [upd_ne _ _ (by simp)]
  by_cases e : t = u
  · subst e
    rw [upd_same, vAt_set_same hl, updN_same, flat2_snoc]; simp
  · rw [upd_ne _ _ (by simpa using e), vAt_set_ne e, updN_other _ _ _ e]
    exact h.rows t ht
end
/-- v reads each node's arrows. -/
def ArrowsAt (w : World) (v : Value) (K N : Nat) (T : List Int) : Prop :=
  ∃ vs, ValsAt w v vs ∧ vs.length = N ∧ ∀ u, u < N → ∃ g c, vAt vs u = .slice (some ⟨g, 0, none⟩) K c ∧ K ≤ c ∧ ∀ s, s < K → w.cell? ⟨g, s * 2, none⟩ = some (.int .i64 (toN K N u s)) ∧ w.cell? ⟨g, s * 2 + 1, none⟩ = some (.int .i64 (labN K T u s))
theorem ArrowsAt.below {w w' : World} {v : Value} {K N : Nat} {T : List Int} (h : ArrowsAt w v K N T) (hb : Below w.heap.size w w') : ArrowsAt w' v K N T := by
  obtain ⟨vs, h1, h2, h3⟩ := h
  refine ⟨vs, h1.below hb, h2, fun u hu => ?_⟩
  obtain ⟨g, c, e, hc, h4⟩ := h3 u hu
  exact ⟨g, c, e, hc, fun s hs => ⟨cell_keep hb (h4 s hs).1, cell_keep hb (h4 s hs).2⟩⟩
theorem AN.reads {B : Nat} {w : World} {f : Names} {ov : Value} {vals : List Value} {K N : Nat} {T : List Int} (hK : 1 ≤ K) (h : AN f ov vals N (arrTo K N T N 0)) (hr : Rows B w f) : ArrowsAt w ov K N T := by
  refine ⟨vals, (hr.ownV h.outer).at, h.len, fun u hu => ?_⟩
  have hrow := h.rows u hu
  have hF : arrTo K N T N 0 u = arrL K N T u K := by unfold arrTo; rw [if_pos hu]
  rw [hF, arrL_len] at hrow
  obtain ⟨g, c, e, hc⟩ := row_shape (hr.1 _ _ hrow) hK
  refine ⟨g, c, e, hc, fun s hs => ?_⟩
  have c0 := hr.cell hrow (g := g) (cap := c) e (s * 2) (by simp; omega)
  have c1 := hr.cell hrow (g := g) (cap := c) e (s * 2 + 1) (by simp; omega)
  have := flat2_get (arrL K N T u K) s (by rw [arrL_len]; exact hs)
  have ea : (arrL K N T u K)[s]'(by rw [arrL_len]; exact hs) = ((toN K N u s : Int), labN K T u s) := by simp [arrL]
  rw [ea] at this
  exact ⟨c0.trans this.1, c1.trans this.2⟩

set_option maxHeartbeats 2000000 in
theorem arrows_any (r : Nat → Addr) (K R : Nat) (va : Option Addr) (vn vc : Nat) (T : List Int) (w : World) (hg : Glob r w) (h : IntsAt w (.slice va vn vc) T) (hok : RuleOk K R T) (hl : T.length ≤ 256) :
    Calls Tryd.prog 45 #[.agg #[.int .i64 K, .int .i64 R, .slice va vn vc]] w (Ret1 (fun x w' => ArrowsAt w' x K (T.length / K) T) w) := by
  have b0 := belowAlloc w (.cells #[.int .i64 K, .int .i64 R, .slice va vn vc] 24)
  have q : Box3 (w.alloc (.cells #[.int .i64 K, .int .i64 R, .slice va vn vc] 24)) w.heap.size (.int .i64 K) (.int .i64 R) (.slice va vn vc) := by simp [Box3, go_sem]
  have hk1 := hok.k1
  have hk4 := hok.k4
  have hN0 : T.length / K ≤ 256 := Nat.le_trans (Nat.div_le_self _ _) hl
  have hEdge := fun (u s : Nat) (w' : World) (hgl : Glob r w') (hT : IntsAt w' (.slice va vn vc) T) (hu : u < T.length / K) (hs : s < K) => over_Edge r K R va vn vc T u s w' hgl hT hok hl hu hs
  have hNodes := fun (w' : World) (hgl : Glob r w') (hT : IntsAt w' (.slice va vn vc) T) => over_Nodes r K R va vn vc T w' hgl hT hok hl
  generalize T.length / K = N at *
  replace hEdge := Lib.hid hEdge
  replace hNodes := Lib.hid hNodes
  replace hg := Lib.hid (hg.below b0)
  replace h := Lib.hid (h.below b0)
  replace hok := Lib.hid hok
  go_enter Tryd.func45, Tryd.ntmps45
  go_wp2_with fail
  refine (hNodes.out _ hg.out h.out).mono ?_
  rintro e w1 ⟨x, y, rfl, b1, rfl, rfl⟩
  have q1 := q.below b1
  have b01 := Below.step b0 b1
  have hg1 := hg.out.below b1
  have hT1 := h.out.below b1
  clear q
  go_wp2_with fail
  obtain ⟨ov, w2, mk, ho, hb2⟩ := run_makeW oneArrows (N : Int) N w1 rfl (by omega)
  obtain ⟨f1, hr1, h1⟩ := AN.made N hb2 (Nat.le_refl _) ho
  obtain ⟨oa, on, oc, rfl⟩ := ho.shape
  have lo := fun w' => (ho.at).len oneArrows 3 w'
  rw [List.length_replicate] at lo
  rw [mk]
  simp only [Result.andThen]
  rw [← arrTo_zero K N T] at h1
  replace hr1 := Lib.hid hr1
  replace ho := Lib.hid ho
  replace q1 := Lib.hid q1
  replace hg1 := Lib.hid hg1
  replace hT1 := Lib.hid hT1
  clear mk
  go_wp2_with fail
  clear lo
  go_loopw [20] (fun kv wr => ∃ (k : Nat) (f : Names) (vals : List Value), k ≤ N ∧ kv = .int .i64 k ∧ Rows w1.heap.size wr f ∧ Below w1.heap.size w1 wr ∧ AN f (.slice oa on oc) vals N (arrTo K N T k 0)) (fun kv _ => N - (intOf kv).toNat)
  case atStart => exact ⟨0, f1, _, by omega, rfl, hr1.out, hb2, h1⟩
  case round =>
    clear h1 ho hr1 hb2
    obtain ⟨k, f2, vals, hk, rfl, hr2, b2, h2⟩ := hrel
    obtain ⟨wo, rfl⟩ : ∃ wo : World, wo = wr := ⟨_, rfl⟩
    by_cases hlt : k < N
    · have z0 := (q1.out.below b2).1.1
      replace hr2 := Lib.hid hr2
      go_wp2_with fail
      clear z0
      go_loopw [25] (fun jv wr => ∃ (j : Nat) (f : Names) (vals : List Value), j ≤ K ∧ jv = .int .i64 j ∧ Rows w1.heap.size wr f ∧ Below w1.heap.size w1 wr ∧ AN f (.slice oa on oc) vals N (arrTo K N T k j)) (fun jv _ => K - (intOf jv).toNat)
      case atStart => exact ⟨0, f2, vals, by omega, rfl, hr2.out, b2, h2⟩
      case round =>
        clear hr2 h2 b2
        obtain ⟨j, f3, vals, hj, rfl, hr3, b3, h3⟩ := hrel
        obtain ⟨wo, rfl⟩ : ∃ wo : World, wo = wr := ⟨_, rfl⟩
        by_cases hjl : j < K
        · obtain ⟨z0, z1, z2⟩ := (q1.out.below b3).1
          replace hr3 := Lib.hid hr3
          go_wp2_with fail
          refine (hEdge.out k j _ (hg1.out.below b3) (hT1.out.below b3) hlt hjl).mono ?_
          rintro e w4 ⟨x, y, z, rfl, b4, rfl, rfl, rfl⟩
          have hr4 := hr3.out.below b4
          have b34 := Below.trans b3 (b4.mono b3.size)
          clear z0 z1 z2
          have hOV := (hr4.ownV h3.outer).at
          have iO := fun w' => hOV.idx oneArrows k (by rw [h3.len]; exact hlt) w'
          have cO := hOV.cellV k (by rw [h3.len]; exact hlt)
          have hT := hr4.1 _ _ (h3.rows k hlt)
          have hB4 : w1.heap.size ≤ w4.heap.size := b34.size
          have happ := fun (w5 : World) (g c : Nat) => h3.app hr4 (w1 := w5) (g := g) (c := c) hlt (toN K N k j) (labN K T k j)
          rw [arrTo_at, ← arrL_succ, arrTo_step] at happ
          rw [arrTo_at] at hT
          unfold Row.own at hT
          simp only [arrL_len] at hT
          generalize vAt vals k = tv at *
          generalize valAt (.slice oa on oc) k = ua at *
          obtain ⟨X, hX⟩ : ∃ X, toN K N k j = X := ⟨_, rfl⟩
          obtain ⟨Y, hY⟩ : ∃ Y, labN K T k j = Y := ⟨_, rfl⟩
          rw [hX, hY] at happ ⊢
          replace happ := Lib.hid happ
          replace hr4 := Lib.hid hr4
          replace hOV := Lib.hid hOV
          replace hX := Lib.hid hX
          replace hY := Lib.hid hY
          go_wp2_with (at_builtin; go_loud (refine wpl_app2 twoArrow rfl _ _ rfl w1.heap.size tv j (flat2 (arrL K N T k j)) X Y _ hT rfl rfl (by simp) (by omega) hB4 ?_))
          intro g c w7 ho7 hal7
          obtain ⟨y1, y2, y3, f8, vals8, hr8, h8⟩ := happ.out w7 g c (by rw [arrL_len]; exact ho7) hal7
          rw [arrL_len] at hr8
          replace hr8 := Lib.hid hr8
          replace ho7 := Lib.hid ho7
          have b7 : Below w1.heap.size w4 w7 := by
            rcases hal7 with ⟨hv, hgr⟩ | ⟨_, hgr⟩
            · exact (Below.refl _ _).grown hgr hB4 (fun m hm => (World.ownsRow.lt hT m hm).1)
            · exact (Below.refl _ _).grown hgr hB4 (fun m hm => by cases hm)
          clear hal7 hT cO
          go_wp2
          go_roundw
          case measure => simp [intOf]; omega
          case rel => exact ⟨j + 1, f8, vals8, by omega, by go_num, hr8.out, (b34.trans b7).setCell y3 _, h8⟩
        · obtain rfl : j = K := by omega
          rw [arrTo_next] at h3
          replace hr3 := Lib.hid hr3
          go_wp2
          go_roundw
          case measure => simp [intOf]; omega
          case rel => exact ⟨k + 1, f3, vals, by omega, by go_num, hr3.out, b3, h3⟩
    · obtain rfl : k = N := by omega
      have hA := h2.reads hk1 hr2
      replace hA := Lib.hid hA
      replace hr2 := Lib.hid hr2
      have bE := Below.step b01 b2
      go_wp2
      go_ret
      exact ⟨_, rfl, bE, hA.out⟩
end Go.Proofs.YtmhiambkfdkkbaaDoor

namespace Go.Proofs.YtmhiambkfdkkbaaDoor
open Go.RowKit
set_option maxRecDepth 100000

set_option maxHeartbeats 800000 in
theorem step_ok (K R : Nat) (va : Option Addr) (vn vc : Nat) (T : List Int) (u : Value) (ys : List Int) (w : World) (h : IntsAt w (.slice va vn vc) T) (hr : RuleOk K R T) (hu : IntsAt w u ys) (hy : Syms K ys) (hyl : ys.length ≤ 4096) :
    Calls Tryd.prog 16 #[.agg #[.int .i64 K, .int .i64 R, .slice va vn vc], u] w (Ret2 (fun x y w' => OwnI w.heap.size w' x (imgP K R T ys) ∧ y = .nilIface) w) := by
  have hb0 := belowAlloc w (.cells #[.int .i64 K, .int .i64 R, .slice va vn vc] 24)
  have hR := hr.r3
  have hk1 := hr.k1
  have hk4 := hr.k4
  have hlen := hr.len_le
  have hlp := hr.len_pos
  have hlT := Lib.hid hr.len
  have l1 := hu.len
  have lT := h.len
  have hodd := Lib.hid hy.odd
  replace h := Lib.hid (h.below hb0)
  replace hu := Lib.hid (hu.below hb0)
  replace hr := Lib.hid hr
  replace hy := Lib.hid hy
  obtain ⟨ua, un, uc, rfl⟩ := hu.out.shape
  have hL0 : ((T.length : Int) == 0) = false := by rw [beq_eq_false_iff_ne]; omega
  have hL1 : ¬ (T.length : Int) = 0 := by omega
  have hL2 : (0 : Int) < T.length := by omega
  go_enter Tryd.func16, Tryd.ntmps16
  go_wp2_with fail
  refine (check_ok K R _ T _ h.out hr.out).mono ?_
  rintro e w1 ⟨x, rfl, hb, rfl⟩
  obtain ⟨z0, z1, z2, -, -, -⟩ := cells3 hb
  go_wp2_with fail
  refine (rule_odd K _ ys _ (hu.out.below hb)).mono ?_
  rintro e w2 ⟨x, rfl, hb', rfl⟩
  rw [hodd.out]
  have zz := Lib.hid (And.intro z0 (And.intro z1 z2))
  clear z0 z1 z2
  have hb2 := Below.step hb hb'
  obtain ⟨z0, z1, z2⟩ := keep3 hb' zz.out
  have zz2 := Lib.hid (And.intro z0 (And.intro z1 z2))
  clear z0 z1 z2
  have hsz : w.heap.size < w2.heap.size := World.block_lt_of_cell? _ _ zz2.out.1
  have hT2 := Lib.hid (h.out.below hb2)
  have hu2 := Lib.hid (hu.out.below hb2)
  go_wp2
  go_loopw [8, 9, 31] (fun o n i wr => ∃ j : Nat, j ≤ ys.length ∧ i = .int .i64 j ∧ n = .int .i64 (numW K (ys.take j) % T.length : Nat) ∧ OwnI w2.heap.size wr o (imgP K R T (ys.take j)) ∧ Below w2.heap.size w2 wr) (fun _ _ i _ => ys.length - (intOf i).toNat)
  case atStart => exact ⟨0, by omega, rfl, by simp [numW], by simpa [imgP] using OwnI.nil _ _, Below.refl _ _⟩
  case round =>
    obtain ⟨j, hj, rfl, rfl, hO, hbO⟩ := hrel
    obtain ⟨wo, rfl⟩ : ∃ wo : World, wo = wr := ⟨_, rfl⟩
    by_cases hjl : j < ys.length
    · have hyi := hu2.out.below hbO
      have i1 := hyi.idx j hjl
      have c1 := hyi.cell j hjl
      have hx := hy.out ys[j] (by simp)
      obtain ⟨z0, z1, z2⟩ := keep3 hbO zz2.out
      have hst : Hid (numW K (ys.take (j + 1)) % T.length = (numW K (ys.take j) % T.length * K + ys[j].toNat) % T.length) := by
        show _ = _
        rw [take_snoc ys j hjl]; exact numW_step ..
      have hsy : Syms K (ys.take j ++ [ys[j]]) := by
        intro y hy'; exact hy.out y (by rw [← take_snoc ys j hjl] at hy'; exact List.mem_of_mem_take hy')
      have him := imgP_snoc (T := T) (R := R) hlT.out hsy
      rw [← take_snoc ys j hjl, hst.out] at him
      have htl : (ys.take j).length = j := by simp; omega
      rw [htl] at him
      have hol : (imgP K R T (ys.take j)).length ≤ 5000 := by rw [imgP_length]; omega
      have hNl : numW K (ys.take j) % T.length < T.length := Nat.mod_lt _ (by omega)
      generalize ys[j] = x at c1 hx hst him
      replace him := Lib.hid him
      generalize numW K (ys.take j) % T.length = N at hst him hNl
      generalize imgP K R T (ys.take j) = O at hO hol him
      have hm1 : 0 ≤ (N : Int) * (K : Int) := Int.mul_nonneg (by omega) (by omega)
      have hm2 : (N : Int) * (K : Int) ≤ 65536 := by
        have : N * K ≤ 65536 := Nat.mul_le_mul (show N ≤ 16384 by omega) hk4
        have h2 := Int.ofNat_le.2 this
        rw [Int.natCast_mul] at h2
        exact h2
      obtain ⟨X, rfl⟩ := Int.eq_ofNat_of_zero_le hx.1
      rw [Int.toNat_natCast] at him hst
      have hcast : Hid ((((N * K + X) % T.length : Nat) : Int) = ((N : Int) * (K : Int) + (X : Int)) % (T.length : Int)) := by show _ = _; simp
      have hMl : (N * K + X) % T.length < T.length := Nat.mod_lt _ (by omega)
      have hTw := hT2.out.below hbO
      have i2 : ∀ w', (Instr.indexAt 22 (.slice va vn vc) (.int .i64 (((N : Int) * (K : Int) + (X : Int)) % (T.length : Int)))).run Tryd.prog w' = .ok (.pointer (some (valAt (.slice va vn vc) ((N * K + X) % T.length)))) w' := by
        intro w'
        rw [← hcast.out]
        exact hTw.idx _ hMl w'
      have c2 := hTw.cellD _ hMl
      replace hO := Lib.hid hO
      clear hyi hTw
      generalize T.getD ((N * K + X) % T.length) 0 = y at c2 him
      by_cases hge : 2 * R ≤ j
      · replace him := Lib.hid (him.out.trans (if_pos hge))
        go_wp2_with (at_builtin; refine wpl_append1 rfl _ _ rfl w2.heap.size _ O y hO.out rfl rfl (by omega) hbO.size ?_)
        intro nv w4 hO4 hb4 _ _
        have hbT := hbO.trans hb4
        replace hO4 := Lib.hid hO4
        go_wp2
        go_roundw
        case rel => exact ⟨j + 1, by omega, by go_num, by rw [hst.out, hcast.out], by rw [him.out]; exact hO4.out, hbT⟩
        case measure => simp [intOf]; omega
      · replace him := Lib.hid (him.out.trans (if_neg hge))
        go_wp2
        go_roundw
        case rel => exact ⟨j + 1, by omega, by go_num, by rw [hst.out, hcast.out], by rw [him.out]; exact hO.out, hbO⟩
        case measure => simp [intOf]; omega
    · obtain rfl : j = ys.length := by omega
      rw [List.take_length] at hO
      go_wp2
      go_ret2
      exact ⟨_, _, rfl, Below.step hb0 (Below.step hb2 hbO), hO.mono (by omega), rfl⟩
end Go.Proofs.YtmhiambkfdkkbaaDoor

namespace Go.Proofs.YtmhiambkfdkkbaaDoor
open Go.RowKit
set_option maxRecDepth 100000

theorem symbol_any (K R : Nat) (va : Option Addr) (vn vc : Nat) (T : List Int) (u : Value) (ys : List Int) (w : World) (h : IntsAt w (.slice va vn vc) T) (hr : RuleOk K R T) (hu : IntsAt w u ys) (hy : Syms K ys) (hyl : ys.length = 2 * R + 1) :
    Calls Tryd.prog 63 #[.agg #[.int .i64 K, .int .i64 R, .slice va vn vc], u] w (Ret1 (fun x _ => x = .int .i64 (T.getD (numW K ys) 0)) w) := by
  have hb0 := belowAlloc w (.cells #[.int .i64 K, .int .i64 R, .slice va vn vc] 24)
  have hR := hr.r3
  have hk1 := hr.k1
  have hk4 := hr.k4
  have l1 := hu.len
  have hb7 : ys.length ≤ 7 := by omega
  have hnl : numW K ys < T.length := by rw [hr.len, ← hyl]; exact numW_lt ys hy
  generalize hy0 : T.getD (numW K ys) 0 = y0
  replace hy0 := Lib.hid hy0
  replace hnl := Lib.hid hnl
  replace hyl := Lib.hid hyl
  replace h := Lib.hid (h.below hb0)
  replace hu := Lib.hid (hu.below hb0)
  replace hy := Lib.hid hy
  replace hr := Lib.hid hr
  obtain ⟨ua, un, uc, rfl⟩ := hu.out.shape
  go_enter Tryd.func63, Tryd.ntmps63
  go_wp2
  go_loop [5, 10] (fun n i => ∃ j : Nat, j ≤ ys.length ∧ i = .int .i64 j ∧ n = .int .i64 (numW K (ys.take j))) (fun _ i => ys.length - (intOf i).toNat)
  case atStart => exact ⟨0, by omega, rfl, rfl⟩
  case round =>
    obtain ⟨j, hj, rfl, rfl⟩ := hrel
    by_cases hjl : j < ys.length
    · have i1 := hu.out.idx j hjl
      have c1 := hu.out.cell j hjl
      have hx := hy.out ys[j] (by simp)
      have hn : Hid (numW K (ys.take (j + 1)) = numW K (ys.take j) * K + ys[j].toNat) := by
        show _ = _
        rw [take_snoc ys j hjl, numW_snoc]
      have hn2 : numW K (ys.take j) ≤ 16384 := by
        have h1 := numW_lt (ys.take j) (fun x hx => hy.out x (List.mem_of_mem_take hx))
        have h2 := pw_le hk1 hk4 (i := (ys.take j).length) (by simp; omega)
        omega
      generalize ys[j] = x at c1 hx hn
      generalize numW K (ys.take j) = N at hn hn2
      have hm1 : 0 ≤ (N : Int) * (K : Int) := Int.mul_nonneg (by omega) (by omega)
      have hm2 : (N : Int) * (K : Int) ≤ 65536 := by
        have : N * K ≤ 65536 := Nat.mul_le_mul hn2 hk4
        have h2 := Int.ofNat_le.2 this
        rw [Int.natCast_mul] at h2
        exact h2
      go_wp2
      go_round
      case rel => exact ⟨j + 1, by omega, by go_num, by rw [hn.out]; go_num⟩
      case measure => simp [intOf]; omega
    · obtain rfl : j = ys.length := by omega
      rw [List.take_length]
      have i2 := h.out.idx (numW K ys) hnl.out
      have c2 := h.out.cellD (numW K ys) hnl.out
      rw [hy0.out] at c2
      clear hy0 hnl
      generalize numW K ys = N at i2 c2
      go_wp2
      go_ret
      exact ⟨_, rfl, hb0, rfl⟩

theorem behind1_any (K R1 R2 : Nat) (va : Option Addr) (vn vc : Nat) (T1 : List Int) (ua : Option Addr) (un uc : Nat) (T2 : List Int) (p q : Nat) (v : Value) (ys : List Int) (w : World)
    (h1 : IntsAt w (.slice va vn vc) T1) (hr1 : RuleOk K R1 T1) (h2 : IntsAt w (.slice ua un uc) T2) (hr2 : RuleOk K R2 T2) (hv : IntsAt w v ys) (hy : Syms K ys) (hyl : ys.length = 2 * (R1 + R2) + 1)
    (x0 : w.cell? ⟨p, 0, none⟩ = some (.int .i64 K)) (x1 : w.cell? ⟨p, 1, none⟩ = some (.int .i64 R2)) (x2 : w.cell? ⟨p, 2, none⟩ = some (.slice ua un uc))
    (y0 : w.cell? ⟨q, 0, none⟩ = some (.int .i64 K)) (y1 : w.cell? ⟨q, 1, none⟩ = some (.int .i64 R1)) (y2 : w.cell? ⟨q, 2, none⟩ = some (.slice va vn vc)) :
    Calls Tryd.prog 88 #[v, .pointer (some ⟨p, 0, none⟩), .pointer (some ⟨q, 0, none⟩)] w (Ret1 (fun x _ => x = .int .i64 (T1.getD (numW K (imgP K R2 T2 ys)) 0)) w) := by
  have hR1 := hr1.r3
  have hR2 := hr2.r3
  have hk1 := hr1.k1
  have hsy : Syms K (imgP K R2 T2 ys) := imgP_syms hk1 hr2.syms
  have hil : (imgP K R2 T2 ys).length = 2 * R1 + 1 := by rw [imgP_length]; omega
  have hle : ys.length ≤ 4096 := by omega
  replace h1 := Lib.hid h1
  replace h2 := Lib.hid h2
  replace hv := Lib.hid hv
  replace hy := Lib.hid hy
  replace hyl := Lib.hid hyl
  replace hr1 := Lib.hid hr1
  replace hr2 := Lib.hid hr2
  replace hsy := Lib.hid hsy
  replace hil := Lib.hid hil
  generalize hY : T1.getD (numW K (imgP K R2 T2 ys)) 0 = Y
  replace hY := Lib.hid hY
  have yy := Lib.hid (And.intro y0 (And.intro y1 y2))
  clear y0 y1 y2
  go_enter Tryd.func88, Tryd.ntmps88
  go_wp2_with fail
  refine (step_ok K R2 ua un uc T2 v ys _ h2.out hr2.out hv.out hy.out hle).mono ?_
  rintro e w1 ⟨x, y, rfl, hb, ho, rfl⟩
  obtain ⟨y0, y1, y2⟩ := keep3 hb yy.out
  replace ho := Lib.hid ho
  go_wp2_with fail
  refine (symbol_any K R1 va vn vc T1 x _ _ (h1.out.below hb) hr1.out ho.out.at hsy.out hil.out).mono ?_
  rintro e w2 ⟨x, rfl, hb', rfl⟩
  rw [hY.out]
  go_wp2
  go_ret
  exact ⟨_, rfl, Below.step hb hb', rfl⟩
end Go.Proofs.YtmhiambkfdkkbaaDoor
