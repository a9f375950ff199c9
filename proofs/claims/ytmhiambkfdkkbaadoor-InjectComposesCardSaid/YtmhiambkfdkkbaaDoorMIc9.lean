/-
  Plain mathematics: the image and the twins of a mirrored rule.
  Plain mathematics of layer 14: words of any length that differ in the middle and have one image; the theorem of the garden of Eden, one half.
  Plain mathematics of layer 14: a live pair that is apart is there just if words of any length differ in the middle and have one image.
  What a call with four results leaves.
  Walk: inject.One: whether a rule is one to one; if not, the two rows.
  Walk: edenlaw13.awake.
  Walk: edenlaw14.awake.
-/
import Derived.Test.YtmhiambkfdkkbaaDoorMIc8
namespace Go.Proofs.YtmhiambkfdkkbaaDoor

theorem img_mir {K R : Nat} {T : List Int} (h : RuleOk K R T) {x : List Int} (hx : Syms K x) : imgP K R (mirT K (2 * R + 1) T) x = (imgP K R T x.reverse).reverse := by
  refine List.ext_getElem (by simp [imgP_length]) fun i h1 h2 => ?_
  have h1' := h1
  rw [imgP_length] at h1'
  have e1 := imgP_getD K R (mirT K (2 * R + 1) T) x i h1'
  rw [List.getD_eq_getElem?_getD, List.getElem?_eq_getElem h1, Option.getD_some] at e1
  rw [e1, List.getElem_reverse]
  have hj : (imgP K R T x.reverse).length - 1 - i < x.reverse.length - 2 * R := by simp only [imgP_length, List.length_reverse]; omega
  have e2 := imgP_getD K R T x.reverse _ hj
  rw [List.getD_eq_getElem?_getD, List.getElem?_eq_getElem (show (imgP K R T x.reverse).length - 1 - i < (imgP K R T x.reverse).length by rw [imgP_length] at hj ⊢; exact hj), Option.getD_some] at e2
  rw [e2, mirT_at h.k1 h.len _ (syms_take (syms_drop hx _) _) (by simp; omega)]
  congr 2
  rw [imgP_length, List.length_reverse]
  refine List.ext_getElem (by simp; omega) fun j a b => ?_
  simp only [List.length_reverse, List.length_take, List.length_drop] at a b
  simp only [List.getElem_reverse, List.getElem_take, List.getElem_drop, List.length_take, List.length_drop]
  congr 1
  omega
theorem twins_rev {K R : Nat} {T T' : List Int} (hi : ∀ x, Syms K x → imgP K R T' x = (imgP K R T x.reverse).reverse) {a b : List Int} (t : IsTwins K R T' a b) : IsTwins K R T a.reverse b.reverse := by
  have hl := t.len
  have hw := t.low
  refine ⟨syms_rev t.sa, syms_rev t.sb, by simpa using hl, fun e => t.ne (List.reverse_inj.1 e), by simpa using hw, ?_, ?_, ?_⟩
  · rw [List.take_reverse, List.take_reverse, t.back]
  · rw [List.drop_reverse, List.drop_reverse, List.length_reverse, List.length_reverse, show a.length - (a.length - 2 * R) = 2 * R by omega, show b.length - (b.length - 2 * R) = 2 * R by omega, t.front]
  · have := t.img
    rw [hi a t.sa, hi b t.sb] at this
    exact List.reverse_inj.1 this
theorem twins_mir {K R : Nat} {T : List Int} (h : RuleOk K R T) {a b : List Int} : IsTwins K R (mirT K (2 * R + 1) T) a b ↔ IsTwins K R T a.reverse b.reverse := by
  constructor
  · exact twins_rev fun x hx => img_mir h hx
  · intro t
    have := twins_rev (T := mirT K (2 * R + 1) T) (fun x hx => by rw [img_mir h (syms_rev hx), List.reverse_reverse, List.reverse_reverse]) t
    rwa [List.reverse_reverse, List.reverse_reverse] at this
/-- Least lengths agree where twins of one rule give twins of the other, as long. -/
theorem twinLen_of {K R K' R' : Nat} {T T' : List Int} (f : ∀ a b, IsTwins K R T a b → ∃ c d, IsTwins K' R' T' c d ∧ c.length = a.length) (g : ∀ a b, IsTwins K' R' T' a b → ∃ c d, IsTwins K R T c d ∧ c.length = a.length) {n : Nat} (h : TwinLen K R T n) : TwinLen K' R' T' n := by
  obtain ⟨⟨a, b, t, e⟩, hm⟩ := h
  obtain ⟨c, d, t', e'⟩ := f a b t
  refine ⟨⟨c, d, t', by omega⟩, fun a b t => ?_⟩
  obtain ⟨c, d, t', e'⟩ := g a b t
  have := hm c d t'
  omega
theorem mir_twins {K R : Nat} {T : List Int} (h : RuleOk K R T) {a b : List Int} (t : IsTwins K R T a b) : IsTwins K R (mirT K (2 * R + 1) T) a.reverse b.reverse := (twins_mir h).2 (by rwa [List.reverse_reverse, List.reverse_reverse])
theorem twinLen_mir {K R : Nat} {T : List Int} (h : RuleOk K R T) {n : Nat} (t : TwinLen K R T n) : TwinLen K R (mirT K (2 * R + 1) T) n :=
  twinLen_of (fun a b t => ⟨_, _, mir_twins h t, by simp⟩) (fun a b t => ⟨_, _, (twins_mir h).1 t, by simp⟩) t
end Go.Proofs.YtmhiambkfdkkbaaDoor

namespace Go.Proofs.YtmhiambkfdkkbaaDoor

theorem sub_get {x : List Int} {i m j : Nat} (h : j < m) : ((x.drop i).take m).getD j 0 = x.getD (i + j) 0 := by
  simp [List.getD, h, List.getElem?_drop]
theorem ext_getD {a b : List Int} (hl : a.length = b.length) (h : ∀ t, t < a.length → a.getD t 0 = b.getD t 0) : a = b :=
  List.ext_getElem hl fun t h1 h2 => by have := h t h1; simpa [List.getD, h1, h2] using this
theorem ne_at {a b : List Int} (hl : a.length = b.length) (hne : a ≠ b) : ∃ j, j < a.length ∧ a.getD j 0 ≠ b.getD j 0 := by
  apply Classical.byContradiction
  intro h
  exact hne (ext_getD hl fun t ht => Classical.byContradiction fun q => h ⟨t, ht, q⟩)
theorem img_cut {K R : Nat} {T x : List Int} {i m : Nat} (h : i + m ≤ x.length) : imgP K R T ((x.drop i).take m) = ((imgP K R T x).drop i).take (m - 2 * R) := by
  have hl : ((x.drop i).take m).length = m := by simp; omega
  refine ext_getD (by simp only [imgP_length, hl, List.length_take, List.length_drop]; omega) fun t ht => ?_
  rw [imgP_length, hl] at ht
  rw [imgP_getD _ _ _ _ _ (by rw [hl]; exact ht), sub_get ht, imgP_getD _ _ _ _ _ (by omega)]
  congr 2
  rw [List.drop_take, List.take_take, List.drop_drop, Nat.min_eq_left (by omega)]

/-- Two words of 2 n + 1 symbols, unlike in the middle, with one image. -/
def Split (K R : Nat) (T : List Int) (n : Nat) : Prop := ∃ x y, Syms K x ∧ Syms K y ∧ x.length = 2 * n + 1 ∧ y.length = 2 * n + 1 ∧ x.getD n 0 ≠ y.getD n 0 ∧ imgP K R T x = imgP K R T y
def NotOne (K R : Nat) (T : List Int) : Prop := ∀ n, Split K R T n
theorem split_of {K R : Nat} {T x y : List Int} (sx : Syms K x) (sy : Syms K y) (hl : x.length = y.length) {j n : Nat} (h1 : n ≤ j) (h2 : j + n < x.length) (hne : x.getD j 0 ≠ y.getD j 0)
    (hi : imgP K R T ((x.drop (j - n)).take (2 * n + 1)) = imgP K R T ((y.drop (j - n)).take (2 * n + 1))) : Split K R T n :=
  ⟨_, _, syms_take (syms_drop sx _) _, syms_take (syms_drop sy _) _, by simp; omega, by simp; omega, by
    rw [sub_get (by omega), sub_get (by omega), show j - n + n = j by omega]; exact hne, hi⟩
theorem split_img {K R : Nat} {T x y : List Int} (sx : Syms K x) (sy : Syms K y) (hl : x.length = y.length) {j n : Nat} (h1 : n ≤ j) (h2 : j + n < x.length) (hne : x.getD j 0 ≠ y.getD j 0)
    (hi : imgP K R T x = imgP K R T y) : Split K R T n :=
  split_of sx sy hl h1 h2 hne (by rw [img_cut (by omega), img_cut (by omega), hi])
theorem Split.mono {K R : Nat} {T : List Int} {n m : Nat} (h : Split K R T n) (hm : m ≤ n) : Split K R T m := by
  obtain ⟨x, y, sx, sy, lx, ly, hne, hi⟩ := h
  exact split_img sx sy (by omega) (j := n) hm (by omega) hne hi
theorem pad_get {z a v : List Int} {n j : Nat} (hz : z.length = n) (hj : j < a.length) : (z ++ a ++ v).getD (n + j) 0 = a.getD j 0 := by
  subst hz
  rw [List.append_assoc, List.getD_eq_getElem?_getD, List.getElem?_append_right (by omega), Nat.add_sub_cancel_left, List.getElem?_append_left hj, ← List.getD_eq_getElem?_getD]
theorem syms_pad {K : Nat} (hK : 1 ≤ K) {a : List Int} (h : Syms K a) (n m : Nat) : Syms K (List.replicate n 0 ++ a ++ List.replicate m 0) := by
  intro y hy
  rcases List.mem_append.1 hy with hy | hy
  · rcases List.mem_append.1 hy with hy | hy
    · rw [List.eq_of_mem_replicate hy]; omega
    · exact h y hy
  · rw [List.eq_of_mem_replicate hy]; omega
theorem IsTwins.notOne {K R : Nat} {T a b : List Int} (hK : 1 ≤ K) (h : IsTwins K R T a b) : NotOne K R T := fun n => by
  obtain ⟨j, hj, hne⟩ := ne_at h.len h.ne
  have hl := h.len
  refine split_img (j := n + j) (syms_pad hK h.sa n n) (syms_pad hK h.sb n n) (by simp [hl]) (by omega) (by simp; omega) ?_ (h.context _ _)
  rw [pad_get (by simp) hj, pad_get (by simp) (by omega)]
  exact hne

theorem rev_mid {x : List Int} {n : Nat} (h : x.length = 2 * n + 1) : x.reverse.getD n 0 = x.getD n 0 := by
  rw [List.getD_eq_getElem?_getD, List.getElem?_reverse (by omega), show x.length - 1 - n = n by omega, ← List.getD_eq_getElem?_getD]
theorem split_rev {K R : Nat} {T T' : List Int} (hi : ∀ x, Syms K x → imgP K R T' x = (imgP K R T x.reverse).reverse) {n : Nat} (t : Split K R T' n) : Split K R T n := by
  obtain ⟨x, y, sx, sy, lx, ly, hne, e⟩ := t
  rw [hi x sx, hi y sy] at e
  exact ⟨_, _, syms_rev sx, syms_rev sy, by simpa using lx, by simpa using ly, by rwa [rev_mid lx, rev_mid ly], List.reverse_inj.1 e⟩
theorem notOne_mir {K R : Nat} {T : List Int} (h : RuleOk K R T) : NotOne K R (mirT K (2 * R + 1) T) ↔ NotOne K R T :=
  ⟨fun t n => split_rev (fun x hx => img_mir h hx) (t n), fun t n => split_rev (fun x hx => by rw [img_mir h (syms_rev hx), List.reverse_reverse, List.reverse_reverse]) (t n)⟩
theorem notOne_wide {K R d : Nat} {T : List Int} (hK : 1 ≤ K) : NotOne K (R + d) (wideT K R d T) ↔ NotOne K R T := by
  constructor
  · intro h n
    obtain ⟨x, y, sx, sy, lx, ly, hne, e⟩ := h (n + d)
    rw [img_wide hK x sx, img_wide hK y sy] at e
    refine ⟨_, _, syms_take (syms_drop sx d) _, syms_take (syms_drop sy d) _, by simp; omega, by simp; omega, ?_, e⟩
    rw [sub_get (by omega), sub_get (by omega), Nat.add_comm d n]
    exact hne
  · intro h n
    obtain ⟨x, y, sx, sy, lx, ly, hne, e⟩ := h n
    have mid : ∀ u : List Int, ((List.replicate d (0 : Int) ++ u ++ List.replicate d 0).drop d).take ((List.replicate d (0 : Int) ++ u ++ List.replicate d 0).length - 2 * d) = u := fun u => by
      rw [List.append_assoc, List.drop_left' (by simp), List.take_left' (by simp; omega)]
    refine Split.mono (n := n + d) ⟨_, _, syms_pad hK sx d d, syms_pad hK sy d d, by simp; omega, by simp; omega, ?_, ?_⟩ (by omega)
    · rw [Nat.add_comm n d, pad_get (by simp) (by omega), pad_get (by simp) (by omega)]
      exact hne
    · rw [img_wide hK _ (syms_pad hK sx d d), img_wide hK _ (syms_pad hK sy d d), mid, mid, e]

/-- Every word has a preimage. -/
def Onto (K R : Nat) (T : List Int) : Prop := ∀ y, Syms K y → ∃ x, Syms K x ∧ x.length = y.length + 2 * R ∧ imgP K R T x = y
def wordsL (K m : Nat) : List (List Int) := (List.range (pw K m)).map (digs K m)
theorem wordsL_len (K m : Nat) : (wordsL K m).length = pw K m := by simp [wordsL]
theorem mem_wordsL {K m : Nat} (hK : 1 ≤ K) {x : List Int} : x ∈ wordsL K m ↔ Syms K x ∧ x.length = m := by
  unfold wordsL
  rw [List.mem_map]
  constructor
  · rintro ⟨i, _, rfl⟩
    exact ⟨digs_syms hK _ _, digs_length ..⟩
  · rintro ⟨hx, rfl⟩
    exact ⟨numW K x, List.mem_range.2 (numW_lt x hx), digs_numW hK x hx⟩
theorem wordsL_nodup {K m : Nat} (hK : 1 ≤ K) : (wordsL K m).Nodup := by
  unfold wordsL
  refine List.pairwise_map.2 (List.Pairwise.imp_of_mem ?_ List.nodup_range)
  intro a b ha hb hne e
  have h := congrArg (numW K) e
  rw [numW_digs hK _ _ (List.mem_range.1 ha), numW_digs hK _ _ (List.mem_range.1 hb)] at h
  exact hne h
theorem pw_mul (K m k : Nat) : pw K (k * m) = pw K m ^ k := by
  induction k with
  | zero => simp [pw_zero]
  | succ k ih => rw [Nat.succ_mul, pw_add, ih, Nat.pow_succ]
theorem bernoulli (Q k : Nat) : Q ^ (k + 1) + (k + 1) * Q ^ k ≤ (Q + 1) ^ (k + 1) := by
  induction k with
  | zero => simp
  | succ k ih =>
    have h1 := Nat.mul_le_mul_right (Q + 1) ih
    rw [← Nat.pow_succ] at h1
    refine Nat.le_trans ?_ h1
    have e1 : Q ^ (k + 1 + 1) = Q ^ (k + 1) * Q := Nat.pow_succ ..
    have e2 : Q ^ (k + 1) = Q ^ k * Q := Nat.pow_succ ..
    have e3 : (Q ^ (k + 1) + (k + 1) * Q ^ k) * (Q + 1) = Q ^ (k + 1) * Q + Q ^ (k + 1) + ((k + 1) * (Q ^ k * Q) + (k + 1) * Q ^ k) := by
      rw [Nat.add_mul, Nat.mul_add, Nat.mul_one, Nat.mul_add, Nat.mul_one, Nat.mul_assoc]
    rw [e3, e1, ← e2, Nat.add_mul (k + 1) 1, Nat.one_mul]
    omega
theorem few (P C : Nat) (hP : 1 ≤ P) : ∃ k, (P - 1) ^ k * C < P ^ k := by
  obtain ⟨Q, rfl⟩ : ∃ Q, P = Q + 1 := ⟨P - 1, by omega⟩
  rw [Nat.add_sub_cancel]
  refine ⟨C * Q + 1, Nat.lt_of_lt_of_le ?_ (bernoulli Q (C * Q))⟩
  rcases Nat.eq_zero_or_pos Q with rfl | hQ
  · simp
  · have hp : 0 < Q ^ (C * Q) := Nat.pow_pos hQ
    have e : Q ^ (C * Q + 1) * C = Q ^ (C * Q) * (C * Q) := by rw [Nat.pow_succ, Nat.mul_assoc, Nat.mul_comm Q C]
    have e2 : (C * Q + 1) * Q ^ (C * Q) = Q ^ (C * Q) * (C * Q) + Q ^ (C * Q) := by rw [Nat.add_mul, Nat.one_mul, Nat.mul_comm]
    rw [e, e2]
    omega
/-- The words of k blocks and a rest, none of whose blocks is o. -/
def avoid (K m c : Nat) (o : List Int) : Nat → List (List Int)
  | 0 => wordsL K c
  | k + 1 => ((wordsL K m).erase o).flatMap fun b => (avoid K m c o k).map (b ++ ·)
theorem flatMap_len {α β : Type} (f : α → List β) (n : Nat) : ∀ (l : List α), (∀ a ∈ l, (f a).length = n) → (l.flatMap f).length = l.length * n
  | [], _ => by simp
  | a :: l, h => by
    rw [List.flatMap_cons, List.length_append, h a (by simp), flatMap_len f n l fun b hb => h b (by simp [hb]), List.length_cons, Nat.succ_mul, Nat.add_comm]
theorem avoid_len {K m c : Nat} {o : List Int} (ho : o ∈ wordsL K m) : ∀ k, (avoid K m c o k).length = (pw K m - 1) ^ k * pw K c
  | 0 => by simp [avoid, wordsL_len]
  | k + 1 => by
    rw [avoid, flatMap_len _ ((pw K m - 1) ^ k * pw K c) _ fun b _ => by rw [List.length_map, avoid_len ho k], List.length_erase_of_mem ho, wordsL_len, ← Nat.mul_assoc, Nat.mul_comm (pw K m - 1), ← Nat.pow_succ]
theorem mem_avoid {K m c : Nat} (hK : 1 ≤ K) {o : List Int} : ∀ (k : Nat) (y : List Int), Syms K y → y.length = k * m + c → (∀ i, i < k → (y.drop (i * m)).take m ≠ o) → y ∈ avoid K m c o k
  | 0, y, hy, hl, _ => (mem_wordsL hK).2 ⟨hy, by omega⟩
  | k + 1, y, hy, hl, h => by
    rw [avoid, List.mem_flatMap]
    rw [Nat.succ_mul] at hl
    refine ⟨y.take m, (List.mem_erase_of_ne (by simpa using h 0 (by omega))).2 ((mem_wordsL hK).2 ⟨syms_take hy _, by simp; omega⟩), List.mem_map.2 ⟨y.drop m, mem_avoid hK k _ (syms_drop hy _) (by simp; omega) fun i hi => ?_, List.take_append_drop ..⟩⟩
    have := h (i + 1) (by omega)
    rwa [Nat.succ_mul, Nat.add_comm, ← List.drop_drop] at this
/-- A rule that has no twins is onto. -/
theorem onto_of_no_twins {K R : Nat} {T : List Int} (h : RuleOk K R T) (hno : ∀ a b, ¬ IsTwins K R T a b) : Onto K R T := by
  intro o so
  apply Classical.byContradiction
  intro hor
  have hK := h.k1
  obtain ⟨k, hk⟩ := few (pw K o.length) (pw K (2 * R)) (pw_pos _ hK)
  have hom : o ∈ wordsL K o.length := (mem_wordsL hK).2 ⟨so, rfl⟩
  have hsub : (wordsL K (k * o.length)).map (fun u => imgP K R T (List.replicate (2 * R) 0 ++ u ++ List.replicate (2 * R) 0)) ⊆ avoid K o.length (2 * R) o k := by
    intro y hy
    obtain ⟨u, hu, rfl⟩ := List.mem_map.1 hy
    obtain ⟨su, lu⟩ := (mem_wordsL hK).1 hu
    have hpl : (List.replicate (2 * R) (0 : Int) ++ u ++ List.replicate (2 * R) 0).length = k * o.length + 4 * R := by simp only [List.length_append, List.length_replicate, lu]; omega
    refine mem_avoid hK k _ (imgP_syms hK h.syms) (by rw [imgP_length, hpl]; omega) fun i hi e => hor ?_
    have him : i * o.length + o.length ≤ k * o.length := by rw [← Nat.succ_mul]; exact Nat.mul_le_mul_right _ hi
    have hc := img_cut (K := K) (R := R) (T := T) (x := List.replicate (2 * R) (0 : Int) ++ u ++ List.replicate (2 * R) 0) (i := i * o.length) (m := o.length + 2 * R) (by rw [hpl]; omega)
    rw [Nat.add_sub_cancel, e] at hc
    exact ⟨_, syms_take (syms_drop (syms_pad hK su _ _) _) _, by rw [List.length_take, List.length_drop, hpl]; omega, hc⟩
  have hnd : ((wordsL K (k * o.length)).map (fun u => imgP K R T (List.replicate (2 * R) 0 ++ u ++ List.replicate (2 * R) 0))).Nodup := by
    refine List.pairwise_map.2 (List.Pairwise.imp_of_mem ?_ (wordsL_nodup hK))
    intro u v hu hv hne e
    obtain ⟨su, lu⟩ := (mem_wordsL hK).1 hu
    obtain ⟨sv, lv⟩ := (mem_wordsL hK).1 hv
    refine hno _ _ ⟨syms_pad hK su _ _, syms_pad hK sv _ _, by simp [lu, lv], fun e => hne ?_, by simp only [List.length_append, List.length_replicate]; omega, ?_, ?_, e⟩
    · rw [List.append_assoc, List.append_assoc] at e
      exact List.append_cancel_right (List.append_cancel_left e)
    · rw [List.append_assoc, List.append_assoc, List.take_left' (by simp), List.take_left' (by simp)]
    · rw [List.drop_left' (by simp only [List.length_append, List.length_replicate]; omega), List.drop_left' (by simp only [List.length_append, List.length_replicate]; omega)]
  have := nodup_sub hnd hsub
  rw [List.length_map, wordsL_len, avoid_len hom, pw_mul] at this
  omega
theorem onto_of_one {K R : Nat} {T : List Int} (h : RuleOk K R T) (hno : ¬ NotOne K R T) : Onto K R T :=
  onto_of_no_twins h fun _ _ t => hno (t.notOne h.k1)

theorem img_behind {K R1 R2 : Nat} {T1 T2 : List Int} (hK : 1 ≤ K) {x : List Int} (hx : Syms K x) : imgP K (R1 + R2) (behindT K R1 T1 R2 T2) x = imgP K R1 T1 (imgP K R2 T2 x) := by
  refine ext_getD (by simp only [imgP_length]; omega) fun t ht => ?_
  rw [imgP_length] at ht
  rw [imgP_getD _ _ _ _ _ ht, behindT_at hK _ (syms_take (syms_drop hx _) _) (by simp; omega), img_cut (by omega), imgP_getD _ _ _ _ _ (by rw [imgP_length]; omega), show 2 * (R1 + R2) + 1 - 2 * R2 = 2 * R1 + 1 by omega]
theorem notOne_behind {K R1 R2 : Nat} {T1 T2 : List Int} (h1 : RuleOk K R1 T1) (h2 : RuleOk K R2 T2) : NotOne K (R1 + R2) (behindT K R1 T1 R2 T2) ↔ NotOne K R1 T1 ∨ NotOne K R2 T2 := by
  have hK := h1.k1
  constructor
  · intro h
    by_cases ha : NotOne K R1 T1
    · exact .inl ha
    right
    obtain ⟨n0, hn0⟩ := Classical.not_forall.1 ha
    intro n
    obtain ⟨x, y, sx, sy, lx, ly, hne, e⟩ := h (n + n0)
    rw [img_behind hK sx, img_behind hK sy] at e
    have su := imgP_syms (K := K) hK h2.syms (R := R2) (w := x)
    have sv := imgP_syms (K := K) hK h2.syms (R := R2) (w := y)
    have lu := imgP_length K R2 T2 x
    have lv := imgP_length K R2 T2 y
    have hag : ∀ i, n0 ≤ i → i + n0 < (imgP K R2 T2 x).length → (imgP K R2 T2 x).getD i 0 = (imgP K R2 T2 y).getD i 0 := fun i hi hj =>
      Classical.byContradiction fun q => hn0 (split_img su sv (by omega) hi hj q e)
    refine split_of sx sy (by omega) (j := n + n0) (by omega) (by omega) hne ?_
    rw [img_cut (by omega), img_cut (by omega), show n + n0 - n = n0 by omega]
    refine ext_getD (by simp only [List.length_take, List.length_drop, lu, lv, lx, ly]) fun t ht => ?_
    have ht2 : t < 2 * n + 1 - 2 * R2 := by simp only [List.length_take] at ht; omega
    rw [sub_get ht2, sub_get ht2]
    exact hag _ (by omega) (by omega)
  · rintro (ha | hb)
    · by_cases hb : NotOne K R2 T2
      · intro n
        obtain ⟨x, y, sx, sy, lx, ly, hne, e⟩ := hb n
        exact ⟨x, y, sx, sy, lx, ly, hne, by rw [img_behind hK sx, img_behind hK sy, e]⟩
      · intro n
        obtain ⟨u, v, su, sv, lu, lv, hne, e⟩ := ha (n + 2 * R2)
        obtain ⟨x, sx, lx, ex⟩ := onto_of_one h2 hb u su
        obtain ⟨y, sy, ly, ey⟩ := onto_of_one h2 hb v sv
        have hex : ∃ j, n + 2 * R2 ≤ j ∧ j ≤ n + 4 * R2 ∧ x.getD j 0 ≠ y.getD j 0 := by
          apply Classical.byContradiction
          intro q
          apply hne
          rw [← ex, ← ey, imgP_getD _ _ _ _ _ (by omega), imgP_getD _ _ _ _ _ (by omega)]
          congr 2
          refine ext_getD (by simp; omega) fun t ht => ?_
          have ht2 : t < 2 * R2 + 1 := by simp only [List.length_take] at ht; omega
          rw [sub_get ht2, sub_get ht2]
          exact Classical.byContradiction fun q2 => q ⟨_, by omega, by omega, q2⟩
        obtain ⟨j, j1, j2, j3⟩ := hex
        exact split_img sx sy (by omega) (j := j) (by omega) (by omega) j3 (by rw [img_behind hK sx, img_behind hK sy, ex, ey, e])
    · intro n
      obtain ⟨x, y, sx, sy, lx, ly, hne, e⟩ := hb n
      exact ⟨x, y, sx, sy, lx, ly, hne, by rw [img_behind hK sx, img_behind hK sy, e]⟩
end Go.Proofs.YtmhiambkfdkkbaaDoor

namespace Go.Proofs.YtmhiambkfdkkbaaDoor

/-- Between two loops. -/
def LiveP (n : Nat) (adj : Nat → List Nat) (v : Nat) : Prop := (∃ u, u < n ∧ (∃ t ∈ adj u, Goes adj t u) ∧ Goes adj u v) ∧ ∃ u, u < n ∧ (∃ t ∈ adj u, Goes adj t u) ∧ Goes adj v u
/-- One step follows the other. -/
def Steps (adj : Nat → List Nat) (l : List Nat) : Prop := ∀ i, i + 1 < l.length → l.getD (i + 1) 0 ∈ adj (l.getD i 0)
theorem getD_left {l : List Nat} {y i : Nat} (h : i < l.length) : (l ++ [y]).getD i 0 = l.getD i 0 := by
  rw [List.getD_eq_getElem?_getD, List.getElem?_append_left h, ← List.getD_eq_getElem?_getD]
theorem getD_last {l : List Nat} {y i : Nat} (h : i = l.length) : (l ++ [y]).getD i 0 = y := by
  subst h; simp [List.getD]
theorem Steps.snoc {adj : Nat → List Nat} {l : List Nat} {x y : Nat} (h : Steps adj l) (hx : l.getD (l.length - 1) 0 = x) (hy : y ∈ adj x) : Steps adj (l ++ [y]) := by
  intro i hi
  simp only [List.length_append, List.length_singleton] at hi
  by_cases e : i + 1 = l.length
  · rw [getD_last e, getD_left (by omega), show i = l.length - 1 by omega, hx]; exact hy
  · rw [getD_left (by omega), getD_left (by omega)]; exact h i (by omega)
theorem Goes.head {adj : Nat → List Nat} {x z : Nat} (h : Goes adj x z) : x = z ∨ ∃ y ∈ adj x, Goes adj y z := by
  induction h with
  | refl => exact .inl rfl
  | step h hz ih =>
    rcases ih with rfl | ⟨t, ht, hg⟩
    · exact .inr ⟨_, hz, .refl _⟩
    · exact .inr ⟨t, ht, .step hg hz⟩
/-- Ways of any length into a vertex that a loop reaches. -/
theorem ways_into {M : Nat} {adj : Nat → List Nat} (hc : ∀ x, x < M → ∀ t ∈ adj x, t < M) (a : Nat) : ∀ v, (∃ u, u < M ∧ (∃ t ∈ adj u, Goes adj t u) ∧ Goes adj u v) →
    ∃ l, l.length = a + 1 ∧ l.getD a 0 = v ∧ Steps adj l ∧ ∀ x ∈ l, x < M := by
  have low : ∀ {u v}, u < M → Goes adj u v → v < M := fun hu h => Goes.closed (P := (· < M)) hc h hu
  induction a with
  | zero =>
    rintro v ⟨u, hu, _, hg⟩
    exact ⟨[v], rfl, rfl, fun i hi => by simp at hi, fun x hx => by rw [List.mem_singleton] at hx; subst hx; exact low hu hg⟩
  | succ a ih =>
    rintro v ⟨u, hu, hl, hg⟩
    have hv := low hu hg
    have key : ∃ y, v ∈ adj y ∧ ∃ u, u < M ∧ (∃ t ∈ adj u, Goes adj t u) ∧ Goes adj u y := by
      cases hg with
      | refl =>
        obtain ⟨t, ht, hgt⟩ := hl
        cases hgt with
        | refl => exact ⟨_, ht, _, hu, ⟨_, ht, .refl _⟩, .refl _⟩
        | step h2 hz => exact ⟨_, hz, _, hu, ⟨t, ht, .step h2 hz⟩, (Goes.one ht).trans h2⟩
      | step h2 hz => exact ⟨_, hz, _, hu, hl, h2⟩
    obtain ⟨y, hy, hu2⟩ := key
    obtain ⟨l, l1, l2, l3, l4⟩ := ih y hu2
    refine ⟨l ++ [v], by simp [l1], getD_last l1.symm, l3.snoc (by rw [l1, Nat.add_sub_cancel]; exact l2) hy, fun x hx => ?_⟩
    rcases List.mem_append.1 hx with hx | hx
    · exact l4 x hx
    · rw [List.mem_singleton] at hx; subst hx; exact hv
/-- .. and on from it. -/
theorem ways_through {M : Nat} {adj : Nat → List Nat} (hc : ∀ x, x < M → ∀ t ∈ adj x, t < M) {v : Nat} (h : LiveP M adj v) (a m : Nat) :
    ∃ l, l.length = a + 1 + m ∧ l.getD a 0 = v ∧ Steps adj l ∧ (∀ x ∈ l, x < M) ∧ ∃ u, u < M ∧ (∃ t ∈ adj u, Goes adj t u) ∧ Goes adj (l.getD (a + m) 0) u := by
  induction m with
  | zero =>
    obtain ⟨l, l1, l2, l3, l4⟩ := ways_into hc a v h.1
    exact ⟨l, l1, l2, l3, l4, by rw [Nat.add_zero, l2]; exact h.2⟩
  | succ m ih =>
    obtain ⟨l, l1, l2, l3, l4, u, hu, ht, hg⟩ := ih
    obtain ⟨x, hx⟩ : ∃ x, l.getD (a + m) 0 = x := ⟨_, rfl⟩
    have hxM : x < M := l4 x (by rw [← hx, List.getD_eq_getElem?_getD, List.getElem?_eq_getElem (by omega), Option.getD_some]; exact List.getElem_mem _)
    rw [hx] at hg
    have key : ∃ y ∈ adj x, ∃ u, u < M ∧ (∃ t ∈ adj u, Goes adj t u) ∧ Goes adj y u := by
      rcases hg.head with rfl | ⟨y, hy, hg2⟩
      · obtain ⟨t, ht1, ht2⟩ := ht
        exact ⟨t, ht1, x, hu, ⟨t, ht1, ht2⟩, ht2⟩
      · exact ⟨y, hy, u, hu, ht, hg2⟩
    obtain ⟨y, hy, hu2⟩ := key
    refine ⟨l ++ [y], by simp [l1]; omega, by rw [getD_left (by omega)]; exact l2, l3.snoc (by rw [l1, show a + 1 + m - 1 = a + m by omega]; exact hx) hy, fun z hz => ?_, ?_⟩
    · rcases List.mem_append.1 hz with hz | hz
      · exact l4 z hz
      · rw [List.mem_singleton] at hz; subst hz; exact hc x hxM z hy
    · rw [getD_last (by omega)]; exact hu2
theorem node_ne {K m : Nat} {x y : List Int} {i : Nat} (hx : i + m ≤ x.length) (hy : i + m ≤ y.length) (h : nodeAt K m x i ≠ nodeAt K m y i) : ∃ j, j < m ∧ x.getD (i + j) 0 ≠ y.getD (i + j) 0 := by
  apply Classical.byContradiction
  intro q
  apply h
  unfold nodeAt
  congr 1
  refine ext_getD (by simp; omega) fun t ht => ?_
  have ht2 : t < m := by simp only [List.length_take] at ht; omega
  rw [sub_get ht2, sub_get ht2]
  exact Classical.byContradiction fun q2 => q ⟨t, ht2, q2⟩
theorem pairL_closed {K N : Nat} (hN : 0 < N) {T : List Int} : ∀ x, x < N * N → ∀ t ∈ pairL K N T x, t < N * N := fun _ _ _ ht => ((mem_pairL hN).1 ht).lt hN
theorem notOne_of_live {K R : Nat} {T : List Int} (h : RuleOk K R T) (hR : 1 ≤ R) {p : Nat} (hp : LiveP (pw K (2 * R) * pw K (2 * R)) (pairL K (pw K (2 * R)) T) p) (hd : ¬ Diag (pw K (2 * R)) p) : NotOne K R T := by
  intro n
  have hK := h.k1
  have hN := pw_pos (K := K) (2 * R) hK
  obtain ⟨l, l1, l2, l3, l4, -⟩ := ways_through (pairL_closed (by omega)) hp n n
  have low : ∀ i, i < l.length → l.getD i 0 < pw K (2 * R) * pw K (2 * R) := fun i hi => l4 _ (by
    rw [List.getD_eq_getElem?_getD, List.getElem?_eq_getElem hi, Option.getD_some]; exact List.getElem_mem _)
  obtain ⟨hn, hi⟩ := ways_words hK hR (by omega) low l3
  have la := alongW_len K (2 * R) (· / pw K (2 * R)) l
  have lb := alongW_len K (2 * R) (· % pw K (2 * R)) l
  obtain ⟨e1, e2⟩ := hn n (by omega)
  rw [l2] at e1 e2
  obtain ⟨j, hj, hne⟩ := node_ne (K := K) (m := 2 * R) (x := alongW K (2 * R) (· / pw K (2 * R)) l) (y := alongW K (2 * R) (· % pw K (2 * R)) l) (i := n) (by omega) (by omega) (by rw [e1, e2]; exact hd)
  exact split_img (alongW_syms hK _ _) (alongW_syms hK _ _) (by omega) (j := n + j) (by omega) (by omega) hne hi
theorem pigeon {M : Nat} {f : Nat → Nat} (h : ∀ i, i ≤ M → f i < M) : ∃ i j, i < j ∧ j ≤ M ∧ f i = f j := by
  apply Classical.byContradiction
  intro q
  have hn : ((List.range (M + 1)).map f).Nodup := by
    refine List.pairwise_map.2 (List.Pairwise.imp_of_mem ?_ List.pairwise_lt_range)
    intro a b ha hb hab e
    exact q ⟨a, b, hab, by have := List.mem_range.1 hb; omega, e⟩
  have hs : (List.range (M + 1)).map f ⊆ List.range M := fun y hy => by
    obtain ⟨i, hi, rfl⟩ := List.mem_map.1 hy
    exact List.mem_range.2 (h i (by have := List.mem_range.1 hi; omega))
  have := nodup_sub hn hs
  simp at this
  omega
theorem goes_along {adj : Nat → List Nat} {f : Nat → Nat} {a : Nat} : ∀ d, (∀ k, a ≤ k → k < a + d → f (k + 1) ∈ adj (f k)) → Goes adj (f a) (f (a + d))
  | 0, _ => .refl _
  | d + 1, h => .step (goes_along d fun k h1 h2 => h k h1 (by omega)) (h (a + d) (by omega) (by omega))
theorem live_of_notOne {K R : Nat} {T : List Int} (h : RuleOk K R T) (hR : 1 ≤ R) (ho : NotOne K R T) : ∃ p, p < pw K (2 * R) * pw K (2 * R) ∧ LiveP (pw K (2 * R) * pw K (2 * R)) (pairL K (pw K (2 * R)) T) p ∧ ¬ Diag (pw K (2 * R)) p := by
  have hK := h.k1
  have hN := pw_pos (K := K) (2 * R) hK
  obtain ⟨M, hM⟩ : ∃ M, pw K (2 * R) * pw K (2 * R) = M := ⟨_, rfl⟩
  obtain ⟨n, hn⟩ : ∃ n, M + 2 * R = n := ⟨_, rfl⟩
  obtain ⟨x, y, sx, sy, lx, ly, hne, e⟩ := ho n
  obtain ⟨f, hf⟩ : ∃ f : Nat → Nat, f = fun i => nodeAt K (2 * R) x i * pw K (2 * R) + nodeAt K (2 * R) y i := ⟨_, rfl⟩
  have nx : ∀ i, i + 2 * R ≤ 2 * n + 1 → nodeAt K (2 * R) x i < pw K (2 * R) := fun i hi => node_lt sx (by omega)
  have ny : ∀ i, i + 2 * R ≤ 2 * n + 1 → nodeAt K (2 * R) y i < pw K (2 * R) := fun i hi => node_lt sy (by omega)
  have low : ∀ i, i + 2 * R ≤ 2 * n + 1 → f i < M := fun i hi => by rw [hf, ← hM]; exact pair_lt (nx i hi) (ny i hi)
  have step : ∀ i, i + 1 + 2 * R ≤ 2 * n + 1 → f (i + 1) ∈ pairL K (pw K (2 * R)) T (f i) := fun i hi => by
    rw [mem_pairL (by omega), hf]
    show Arr K _ T ((nodeAt K (2 * R) x i * pw K (2 * R) + nodeAt K (2 * R) y i) / pw K (2 * R)) ((nodeAt K (2 * R) x i * pw K (2 * R) + nodeAt K (2 * R) y i) % pw K (2 * R)) _
    rw [pair_div (ny i (by omega)), pair_mod (ny i (by omega))]
    exact wayW_arr sx sy (by omega) e (by omega)
  have goes : ∀ a b, a ≤ b → b + 2 * R ≤ 2 * n + 1 → Goes (pairL K (pw K (2 * R)) T) (f a) (f b) := fun a b hab hb => by
    obtain ⟨d, rfl⟩ : ∃ d, b = a + d := ⟨b - a, by omega⟩
    exact goes_along d fun k _ _ => step k (by omega)
  refine ⟨f n, by rw [hM]; exact low n (by omega), ⟨?_, ?_⟩, ?_⟩
  · obtain ⟨i, j, hij, hj, eij⟩ := pigeon (M := M) (f := f) fun i hi => low i (by omega)
    exact ⟨f i, by rw [hM]; exact low i (by omega), ⟨f (i + 1), step i (by omega), by rw [eij]; exact goes _ _ (by omega) (by omega)⟩, goes _ _ (by omega) (by omega)⟩
  · obtain ⟨i, j, hij, hj, eij⟩ := pigeon (M := M) (f := fun i => f (n + i)) fun i hi => low (n + i) (by omega)
    exact ⟨f (n + i), by rw [hM]; exact low _ (by omega), ⟨f (n + i + 1), step _ (by omega), by show Goes _ _ (f (n + i)); rw [show f (n + i) = f (n + j) from eij]; exact goes _ _ (by omega) (by omega)⟩, goes _ _ (by omega) (by omega)⟩
  · intro hd
    unfold Diag at hd
    rw [hf] at hd
    dsimp only at hd
    rw [pair_div (ny n (by omega)), pair_mod (ny n (by omega))] at hd
    have e1 := digs_numW hK _ (syms_take (syms_drop sx n) (2 * R))
    have e2 := digs_numW hK _ (syms_take (syms_drop sy n) (2 * R))
    rw [show ((x.drop n).take (2 * R)).length = 2 * R by simp; omega] at e1
    rw [show ((y.drop n).take (2 * R)).length = 2 * R by simp; omega] at e2
    have e3 : (x.drop n).take (2 * R) = (y.drop n).take (2 * R) := by rw [← e1, ← e2]; exact congrArg (digs K (2 * R)) hd
    have e4 : ((x.drop n).take (2 * R)).getD 0 0 = ((y.drop n).take (2 * R)).getD 0 0 := by rw [e3]
    rw [sub_get (by omega), sub_get (by omega), Nat.add_zero] at e4
    exact hne e4
end Go.Proofs.YtmhiambkfdkkbaaDoor

namespace Go.Proofs.YtmhiambkfdkkbaaDoor
open Go.RowKit

def sTwins : ByteArray := ⟨#[116, 119, 105, 110, 115]⟩
def Ret4 (Φ : Value → Value → Value → Value → World → Prop) (w : World) (e : Ending) (w' : World) : Prop := ∃ x y z u, e = .returned (.tuple #[x, y, z, u]) ∧ Below w.heap.size w w' ∧ Φ x y z u w'
theorem results_tmp4 {fn : Func} {t u v x : Tmp} (h : fn.results = #[.tmp t, .tmp u, .tmp v, .tmp x]) (tmps : Array Value) (P : Program) (w : World) :
    (results fn tmps).run P w = .ok (.tuple #[tmps.getD t undef, tmps.getD u undef, tmps.getD v undef, tmps.getD x undef]) w := by
  simp [results, h]
end Go.Proofs.YtmhiambkfdkkbaaDoor

namespace Go.Proofs.YtmhiambkfdkkbaaDoor
open Go.RowKit
set_option maxRecDepth 100000

def sInject : ByteArray := ⟨#[105, 110, 106, 101, 99, 116]⟩
/-- The row that holds nothing. -/
abbrev zRow : Value := .agg #[.int .i64 0, .slice none 0 0, .slice none 0 0, .slice none 0 0]
section
variable {K N : Nat} {T : List Int}
theorem goes_pairG {x y : Nat} (hN : 0 < N) (h : Goes (adjOf (pairG K N T)) x y) (hx : x < N * N) : Goes (pairL K N T) x y ∧ y < N * N := by
  induction h with
  | refl => exact ⟨.refl _, hx⟩
  | step h hz ih =>
    rw [pairG_adj ih.2] at hz
    exact ⟨.step ih.1 hz, ((mem_pairL hN).1 hz).lt hN⟩
theorem live_pairG (hN : 0 < N) {v : Nat} (hv : v < N * N) : IsLive (N * N) (adjOf (pairG K N T)) v ↔ LiveP (N * N) (pairL K N T) v := by
  constructor
  · rintro ⟨⟨u, hu, ⟨t, ht, h1⟩, h2⟩, ⟨u', hu', ⟨t', ht', h1'⟩, h2'⟩⟩
    rw [pairG_adj hu] at ht
    rw [pairG_adj hu'] at ht'
    exact ⟨⟨u, hu, ⟨t, ht, (goes_pairG hN h1 (((mem_pairL hN).1 ht).lt hN)).1⟩, (goes_pairG hN h2 hu).1⟩, ⟨u', hu', ⟨t', ht', (goes_pairG hN h1' (((mem_pairL hN).1 ht').lt hN)).1⟩, (goes_pairG hN h2' hv).1⟩⟩
  · rintro ⟨⟨u, hu, ⟨t, ht, h1⟩, h2⟩, ⟨u', hu', ⟨t', ht', h1'⟩, h2'⟩⟩
    exact ⟨⟨u, hu, ⟨t, by rw [pairG_adj hu]; exact ht, (pairG_goes hN h1 (((mem_pairL hN).1 ht).lt hN)).1⟩, (pairG_goes hN h2 hu).1⟩, ⟨u', hu', ⟨t', by rw [pairG_adj hu']; exact ht', (pairG_goes hN h1' (((mem_pairL hN).1 ht').lt hN)).1⟩, (pairG_goes hN h2' hv).1⟩⟩
end
theorem wk_notOne {K R : Nat} {T : List Int} (hK : 1 ≤ K) : NotOne K (wkR R) (wkT K R T) ↔ NotOne K R T := by
  unfold wkR wkT
  by_cases e : R = 0
  · subst e; rw [if_pos rfl, if_pos rfl]; exact notOne_wide (R := 0) (d := 1) hK
  · rw [if_neg e, if_neg e]
/-- The live pairs that are apart. -/
def oddL (K R : Nat) (L : List Nat) : List Nat := L.filter fun p => !decide (Diag (pw K (2 * wkR R)) p)
/-- Whether they tell that the rule is one to one. -/
theorem odd_none {K R : Nat} {T : List Int} {L : List Nat} (hr : RuleOk K R T) (h : LiveList (pw K (2 * wkR R) * pw K (2 * wkR R)) (adjOf (pairG K (pw K (2 * wkR R)) (wkT K R T))) L) : oddL K R L = [] ↔ ¬ NotOne K R T := by
  have hN := pw_pos (K := K) (2 * wkR R) hr.k1
  rw [← wk_notOne hr.k1]
  constructor
  · intro he hno
    obtain ⟨q, h1, h2, h3⟩ := live_of_notOne (wk_ok hr) (wk_pos R) hno
    have : q ∈ oddL K R L := List.mem_filter.2 ⟨(h.mem q).2 ⟨h1, (live_pairG (by omega) h1).2 h2⟩, by simp [h3]⟩
    rw [he] at this; cases this
  · intro hno
    apply Classical.byContradiction
    intro he
    obtain ⟨q, hq⟩ := List.exists_mem_of_ne_nil _ he
    obtain ⟨h1, h2⟩ := List.mem_filter.1 hq
    obtain ⟨h3, h4⟩ := (h.mem q).1 h1
    exact hno (notOne_of_live (wk_ok hr) (wk_pos R) ((live_pairG (by omega) h3).1 h4) (by simpa using h2))
/-- The witness: the first of them. -/
def OneIs (K R : Nat) (T : List Int) (L C Q : List Nat) : Prop :=
  ∃ l v m, LiveList (pw K (2 * wkR R) * pw K (2 * wkR R)) (adjOf (pairG K (pw K (2 * wkR R)) (wkT K R T))) l ∧ oddL K R l = v :: m ∧ WitIs (pairG K (pw K (2 * wkR R)) (wkT K R T)) v L C Q
theorem OneIs.unique {K R : Nat} {T : List Int} {L C Q L' C' Q' : List Nat} (h : OneIs K R T L C Q) (k : OneIs K R T L' C' Q') : L = L' ∧ C = C' ∧ Q = Q' := by
  obtain ⟨l, v, m, h1, h2, h3⟩ := h
  obtain ⟨l', v', m', k1, k2, k3⟩ := k
  obtain rfl := h1.unique k1
  rw [h2] at k2
  injection k2 with e _
  subst e
  exact h3.unique k3
/-- What One leaves at a small rule. -/
def OnePost (w : World) (K R : Nat) (T : List Int) (yes x y e : Value) (w' : World) : Prop :=
  e = .nilIface ∧ ((yes = .bool true ∧ x = zRow ∧ y = zRow ∧ ¬ NotOne K R T) ∨ (yes = .bool false ∧ NotOne K R T ∧ ∃ L C Q aL aC aQ bL bC bQ, OneIs K R T L C Q ∧ x = .agg #[.int .i64 0, aL, aC, aQ] ∧ y = .agg #[.int .i64 0, bL, bC, bQ] ∧ ∃ f, Rows w.heap.size w' f ∧
    f (1, 0) = some (rowI aL (sideA K (pw K (2 * wkR R)) L)) ∧ f (1, 1) = some (rowI bL (sideB K (pw K (2 * wkR R)) L)) ∧ f (2, 0) = some (rowI aC (sideA K (pw K (2 * wkR R)) C)) ∧ f (2, 1) = some (rowI bC (sideB K (pw K (2 * wkR R)) C)) ∧ f (3, 0) = some (rowI aQ (sideA K (pw K (2 * wkR R)) Q)) ∧ f (3, 1) = some (rowI bQ (sideB K (pw K (2 * wkR R)) Q))))


set_option maxHeartbeats 1000000 in
theorem one_bad (r : Nat → Addr) (k R : Int) (va : Option Addr) (vn vc : Nat) (T : List Int) (t : Int × List (ByteArray × Int)) (w : World) (hg : Glob r w) (h : IntsAt w (.slice va vn vc) T) (hc : smallP k R T = some t) :
    Calls Tryd.prog 23 #[.agg #[.int .i64 k, .int .i64 R, .slice va vn vc]] w (Ret4 (fun x y z u w' => x = .bool false ∧ y = zRow ∧ z = zRow ∧ ErrIs r w' (under sInject 0 (under sPairs 0 (some t))) u) w) := by
  have bb := belowAlloc w (.cells #[.int .i64 k, .int .i64 R, .slice va vn vc] 24)
  have q : Box3 (w.alloc (.cells #[.int .i64 k, .int .i64 R, .slice va vn vc] 24)) w.heap.size (.int .i64 k) (.int .i64 R) (.slice va vn vc) := by simp [Box3, go_sem]
  obtain ⟨f0, R0, n02, o02⟩ := ((Rows.void w.heap.size w).below bb).box4 (0, 2) (by simp) 26 (.int .i64 0) (.slice none 0 0) (.slice none 0 0) (.slice none 0 0)
  obtain ⟨f1, R1, n03, o03⟩ := R0.box4 (0, 3) (by simp; omega) 26 (.int .i64 0) (.slice none 0 0) (.slice none 0 0) (.slice none 0 0)
  replace n02 := (o03 (0, 2) (by decide)).trans n02
  simp only [World.size_alloc] at n02 n03
  have b0 : Below w.heap.size w (((w.alloc (.cells #[.int .i64 k, .int .i64 R, .slice va vn vc] 24)).alloc (.cells #[.int .i64 0, .slice none 0 0, .slice none 0 0, .slice none 0 0] 26)).alloc (.cells #[.int .i64 0, .slice none 0 0, .slice none 0 0, .slice none 0 0] 26)) := Below.step bb (Below.step (belowAlloc _ _) (belowAlloc _ _))
  replace q := q.below (Below.step (belowAlloc _ (.cells #[.int .i64 0, .slice none 0 0, .slice none 0 0, .slice none 0 0] 26)) (belowAlloc _ (.cells #[.int .i64 0, .slice none 0 0, .slice none 0 0, .slice none 0 0] 26)))
  clear o02 o03 R0 bb
  replace hg := Lib.hid (hg.below b0)
  replace h := Lib.hid (h.below b0)
  replace hc := Lib.hid hc
  obtain ⟨⟨z0, z1, z2⟩, -, -, -⟩ := q
  replace R1 := Lib.hid R1
  replace n02 := Lib.hid n02
  replace n03 := Lib.hid n03
  go_enter Tryd.func23, Tryd.ntmps23
  go_wp2_with fail
  refine (pgraph_bad r k R va vn vc T t _ hg.out h.out hc.out).mono ?_
  rintro e w1 ⟨x, y, rfl, b1, rfl, hy⟩
  obtain ⟨T2, a2, rfl⟩ : ∃ T a, y = .iface T (.pointer (some a)) := by
    unfold under at hy
    exact ErrIs.some_shape hy
  replace hy := Lib.hid hy
  clear z0 z1 z2
  go_wp2_with fail
  refine (under_any r sInject 0 _ _ w1 hy.out).mono ?_
  rintro e w2 ⟨u, rfl, b2, hu⟩
  have hu' := hu
  obtain ⟨T3, a3, rfl⟩ : ∃ T a, u = .iface T (.pointer (some a)) := by
    unfold under at hu'
    exact ErrIs.some_shape hu'
  clear hu'
  have R2 := (R1.out.below b1).below b2
  replace n02 := n02.out
  replace n03 := n03.out
  have bw := Below.step b0 (Below.step b1 b2)
  obtain ⟨g0, g1, g2, g3⟩ := R2.cells4 n02
  obtain ⟨h0, h1, h2, h3⟩ := R2.cells4 n03
  have fg0 := R2.frz4 n02 0
  have fh0 := R2.frz4 n03 0
  have fg1 := R2.frz4 n02 1
  have fh1 := R2.frz4 n03 1
  have fg2 := R2.frz4 n02 2
  have fh2 := R2.frz4 n03 2
  have fg3 := R2.frz4 n02 3
  have fh3 := R2.frz4 n03 3
  have c2 := R2.cells4 n02
  have c3 := R2.cells4 n03
  have lg0 := (R2.low4 n02).1
  have lh0 := (R2.low4 n03).1
  obtain ⟨f3, R3, m02, o3⟩ := R2.all4 n02 (.int .i64 0) (.slice none 0 0) (.slice none 0 0) (.slice none 0 0)
  have n03' := (o3 (0, 3) (by decide)).trans n03
  have hu2 := hu.all4 c2 (.slice none 0 0) (.slice none 0 0) (.slice none 0 0)
  have hu3 := hu2.all4 (R3.cells4 n03') (.slice none 0 0) (.slice none 0 0) (.slice none 0 0)
  have b15 := Below.all4 (g := w.heap.size + 1) bw lg0 (.int .i64 0) (.slice none 0 0) (.slice none 0 0) (.slice none 0 0)
  have b16 := Below.all4 (g := w.heap.size + 2) b15 lh0 (.int .i64 0) (.slice none 0 0) (.slice none 0 0) (.slice none 0 0)
  replace hu := Lib.hid hu
  replace hu2 := Lib.hid hu2
  replace hu3 := Lib.hid hu3
  replace R2 := Lib.hid R2
  replace R3 := Lib.hid R3
  replace n02 := Lib.hid n02
  replace n03 := Lib.hid n03
  replace n03' := Lib.hid n03'
  replace m02 := Lib.hid m02
  clear o3 c2 c3
  go_wp2
  (try simp only [Exit.inBlock, Exit.then])
  refine bodyPost_ret (v := .tuple #[.bool false, zRow, zRow, .iface T3 (.pointer (some a3))]) (by simp [results, Tryd.results23, go_sem, g0, g1, g2, g3, h0, h1, h2, h3]) rfl ?_
  exact ⟨_, _, _, _, rfl, b16, rfl, rfl, rfl, hu3.out⟩

set_option maxHeartbeats 4000000 in
theorem one_ok (r : Nat → Addr) (K R : Nat) (va : Option Addr) (vn vc : Nat) (T : List Int) (w : World) (hg : Glob r w) (h : IntsAt w (.slice va vn vc) T) (hr : RuleOk K R T) (hl : T.length ≤ 256) :
    Calls Tryd.prog 23 #[.agg #[.int .i64 K, .int .i64 R, .slice va vn vc]] w (Ret4 (OnePost w K R T) w) := by
  have bb := belowAlloc w (.cells #[.int .i64 K, .int .i64 R, .slice va vn vc] 24)
  have q : Box3 (w.alloc (.cells #[.int .i64 K, .int .i64 R, .slice va vn vc] 24)) w.heap.size (.int .i64 K) (.int .i64 R) (.slice va vn vc) := by simp [Box3, go_sem]
  obtain ⟨f0, R0, n02, o02⟩ := ((Rows.void w.heap.size w).below bb).box4 (0, 2) (by simp) 26 (.int .i64 0) (.slice none 0 0) (.slice none 0 0) (.slice none 0 0)
  obtain ⟨f1, R1, n03, o03⟩ := R0.box4 (0, 3) (by simp; omega) 26 (.int .i64 0) (.slice none 0 0) (.slice none 0 0) (.slice none 0 0)
  replace n02 := (o03 (0, 2) (by decide)).trans n02
  simp only [World.size_alloc] at n02 n03
  have b0 : Below w.heap.size w (((w.alloc (.cells #[.int .i64 K, .int .i64 R, .slice va vn vc] 24)).alloc (.cells #[.int .i64 0, .slice none 0 0, .slice none 0 0, .slice none 0 0] 26)).alloc (.cells #[.int .i64 0, .slice none 0 0, .slice none 0 0, .slice none 0 0] 26)) := Below.step bb (Below.step (belowAlloc _ _) (belowAlloc _ _))
  replace q := q.below (Below.step (belowAlloc _ (.cells #[.int .i64 0, .slice none 0 0, .slice none 0 0, .slice none 0 0] 26)) (belowAlloc _ (.cells #[.int .i64 0, .slice none 0 0, .slice none 0 0, .slice none 0 0] 26)))
  clear o02 o03 R0 bb
  have hk1 := hr.k1
  have hokW := wk_ok hr
  have hlW := wk_small hr hl
  have hRW := wk_pos R
  have hN81 := nodes_le hokW hRW hlW
  have hN1 := pw_pos (K := K) (2 * wkR R) hk1
  obtain ⟨hdiv, hlen⟩ := hokW.half
  have hNK : pw K (2 * wkR R) * K ≤ 256 := by rw [← hlen]; exact hlW
  have hck := pairG_check (K := K) (N := pw K (2 * wkR R)) (T := wkT K R T) (by omega) hN81 hNK
  have hokG : GraphOk (pairG K (pw K (2 * wkR R)) (wkT K R T)) := pairG_ok (by omega)
  have hsz : ∀ k, k < (pairG K (pw K (2 * wkR R)) (wkT K R T)).length → ((pairG K (pw K (2 * wkR R)) (wkT K R T)).getD k []).length ≤ 17592186044416 := fun k hk => by
    rw [pairG_len] at hk
    rw [pairG_row hk, castI_len]
    have := pairL_len K (pw K (2 * wkR R)) (wkT K R T) k
    have h4 := hr.k4
    have := Nat.mul_le_mul h4 h4
    omega
  have hgraph := fun (w' : World) (hgl : Glob r w') (hT : IntsAt w' (.slice va vn vc) T) => pgraph_ok r K R va vn vc T w' hgl hT hr hl
  have hapart := fun (w' : World) (hgl : Glob r w') (hT : IntsAt w' (.slice va vn vc) T) => papart_ok r K R va vn vc T w' hgl hT hr hl
  have hlenG := pairG_len (K := K) (N := pw K (2 * wkR R)) (T := wkT K R T)
  have hodd := fun (L : List Nat) (hL : LiveList (pw K (2 * wkR R) * pw K (2 * wkR R)) (adjOf (pairG K (pw K (2 * wkR R)) (wkT K R T))) L) => odd_none hr hL
  have hone : ∀ (l : List Nat) (v : Nat) (m L C Q : List Nat), LiveList (pw K (2 * wkR R) * pw K (2 * wkR R)) (adjOf (pairG K (pw K (2 * wkR R)) (wkT K R T))) l → oddL K R l = v :: m → WitIs (pairG K (pw K (2 * wkR R)) (wkT K R T)) v L C Q → OneIs K R T L C Q := fun l v m L C Q h1 h2 h3 => ⟨l, v, m, h1, h2, h3⟩
  have hsub : ∀ (L : List Nat) (v : Nat) (m : List Nat), oddL K R L = v :: m → v ∈ L := fun L v m e => (List.mem_filter.1 (show v ∈ oddL K R L by rw [e]; exact List.mem_cons_self)).1
  have hwit := fun (ga : Option Addr) (gc v : Nat) (w' : World) (hgl : Glob r w') (hT : ListsAt w' (.slice ga (pairG K (pw K (2 * wkR R)) (wkT K R T)).length gc) (pairG K (pw K (2 * wkR R)) (wkT K R T))) (hv : v < (pairG K (pw K (2 * wkR R)) (wkT K R T)).length) (hli : IsLive (pairG K (pw K (2 * wkR R)) (wkT K R T)).length (adjOf (pairG K (pw K (2 * wkR R)) (wkT K R T))) v) => witness_ok r K (pw K (2 * wkR R)) ga gc _ v w' hgl hT hsz hck hokG hlenG hN1 hN81 hk1 hv hli
  replace hgraph := Lib.hid hgraph
  replace hapart := Lib.hid hapart
  replace hodd := Lib.hid hodd
  replace hone := Lib.hid hone
  replace hsub := Lib.hid hsub
  replace hwit := Lib.hid hwit
  replace hlenG := Lib.hid hlenG
  clear hdiv hlen hNK hck hokG hsz hokW hlW hRW hN81 hl
  replace hg := Lib.hid (hg.below b0)
  replace h := Lib.hid (h.below b0)
  replace hr := Lib.hid hr
  obtain ⟨⟨z0, z1, z2⟩, -, -, -⟩ := q
  have q0 := z0
  replace R1 := Lib.hid R1
  replace n02 := Lib.hid n02
  replace n03 := Lib.hid n03
  replace b0 := Lib.hid b0
  go_enter Tryd.func23, Tryd.ntmps23
  go_wp2_with fail
  refine (hgraph.out _ hg.out h.out).mono ?_
  rintro e w1 ⟨gv, y, rfl, b1, rfl, fg, vals, hrows, hwn⟩
  have hL : ListsAt w1 gv (pairG K (pw K (2 * wkR R)) (wkT K R T)) := hwn.lists hrows
  obtain ⟨ga, gc, rfl⟩ := hL.shape
  have c0 : w1.cell? ⟨w.heap.size, 0, none⟩ = some (.int .i64 K) := by rw [b1.cell (World.block_lt_of_cell? _ _ z0)]; exact z0
  have c1 : w1.cell? ⟨w.heap.size, 1, none⟩ = some (.int .i64 R) := by rw [b1.cell (World.block_lt_of_cell? _ _ z1)]; exact z1
  have c2 : w1.cell? ⟨w.heap.size, 2, none⟩ = some (.slice va vn vc) := by rw [b1.cell (World.block_lt_of_cell? _ _ z2)]; exact z2
  have b01 := Below.step b0.out b1
  replace hL := Lib.hid hL
  clear hrows hwn z0 z1 z2
  rw [hlenG.out]
  generalize hM : pw K (2 * wkR R) * pw K (2 * wkR R) = M at *
  replace hM := Lib.hid hM
  go_wp2_with fail
  refine (hapart.out w1 (hg.out.below b1) (h.out.below b1)).mono ?_
  rintro e w2 ⟨av, y, rfl, b2, rfl, L, hLL, how⟩
  have how2 : OwnI w1.heap.size w2 av (castI (oddL K R L)) := how
  clear how
  have hnone := hodd.out L hLL
  have b12 := Below.step b1 b2
  have b02 := Below.step b01 b2
  have R2 := R1.out.below b12
  have k0 : w2.cell? ⟨w.heap.size, 0, none⟩ = some (.int .i64 K) := by rw [b2.cell (World.block_lt_of_cell? _ _ c0)]; exact c0
  have lA := how2.at.len
  rw [castI_len] at lA
  have hsubL := hsub.out L
  have honeL := fun v m L' C' Q' e k => hone.out L v m L' C' Q' hLL e k
  have hmemL := hLL.mem
  replace hLL := Lib.hid hLL
  replace hsubL := Lib.hid hsubL
  replace honeL := Lib.hid honeL
  replace hmemL := Lib.hid hmemL
  clear c0 c1 c2
  cases hod : oddL K R L with
  | nil =>
    rw [hod] at hnone how2 lA
    have hno := hnone.1 rfl
    obtain ⟨aa, an, ac, rfl⟩ := how2.at.shape
    replace n02 := n02.out
    replace n03 := n03.out
    obtain ⟨g0, g1, g2, g3⟩ := R2.cells4 n02
    obtain ⟨h0, h1, h2, h3⟩ := R2.cells4 n03
    have fg0 := R2.frz4 n02 0
    have fh0 := R2.frz4 n03 0
    have fg1 := R2.frz4 n02 1
    have fh1 := R2.frz4 n03 1
    have fg2 := R2.frz4 n02 2
    have fh2 := R2.frz4 n03 2
    have fg3 := R2.frz4 n02 3
    have fh3 := R2.frz4 n03 3
    have c2 := R2.cells4 n02
    have c3 := R2.cells4 n03
    have lg0 := (R2.low4 n02).1
    have lh0 := (R2.low4 n03).1
    obtain ⟨f3, R3, m02, o3⟩ := R2.all4 n02 (.int .i64 0) (.slice none 0 0) (.slice none 0 0) (.slice none 0 0)
    have b15 := Below.all4 (g := w.heap.size + 1) b02 lg0 (.int .i64 0) (.slice none 0 0) (.slice none 0 0) (.slice none 0 0)
    have b16 := Below.all4 (g := w.heap.size + 2) b15 lh0 (.int .i64 0) (.slice none 0 0) (.slice none 0 0) (.slice none 0 0)
    replace hno := Lib.hid hno
    replace hod := Lib.hid hod
    replace how2 := Lib.hid how2
    replace R2 := Lib.hid R2
    replace R3 := Lib.hid R3
    replace n02 := Lib.hid n02
    replace n03 := Lib.hid n03
    replace m02 := Lib.hid m02
    clear o3 c2 c3 hnone
    go_wp2
    (try simp only [Exit.inBlock, Exit.then])
    refine bodyPost_ret (v := .tuple #[.bool true, zRow, zRow, .nilIface]) (by simp [results, Tryd.results23, go_sem, g0, g1, g2, g3, h0, h1, h2, h3]) rfl ?_
    exact ⟨_, _, _, _, rfl, b16, rfl, .inl ⟨rfl, rfl, rfl, hno.out⟩⟩
  | cons v m =>
    rw [hod] at hnone how2 lA
    have hno : NotOne K R T := Classical.byContradiction fun q => by have := hnone.2 q; cases this
    obtain ⟨aa, an, ac, rfl⟩ := how2.at.shape
    have hvL := hsubL.out v m hod
    obtain ⟨hvM, hvl⟩ := (hmemL.out v).1 hvL
    have iA : ∀ w', (Instr.indexAt 22 (.slice aa an ac) (.int .i64 0)).run Tryd.prog w' = .ok (.pointer (some (valAt (.slice aa an ac) 0))) w' := fun w' => how2.at.idx 0 (by simp [castI]) w'
    have cA := how2.at.cellD 0 (by simp [castI])
    rw [show (castI (v :: m)).getD 0 0 = (v : Int) from rfl] at cA
    have e0 : (((v :: m).length : Nat) : Int) = (m.length : Int) + 1 := by simp
    rw [e0] at lA
    have e1 : ((m.length : Int) + 1 == 0) = false := by rw [beq_eq_false_iff_ne]; omega
    have hwv := fun (w' : World) (hgl : Glob r w') (hT : ListsAt w' (.slice ga M gc) (pairG K (pw K (2 * wkR R)) (wkT K R T))) => hwit.out ga gc v w' hgl (by rw [hlenG.out]; exact hT) (by rw [hlenG.out]; exact hvM) (by rw [hlenG.out]; exact hvl)
    rw [hlenG.out] at hwv
    have hG2 := hg.out.below b12
    have hL2 : ListsAt w2 (.slice ga M gc) (pairG K (pw K (2 * wkR R)) (wkT K R T)) := by
      have := hL.out.below b2
      rwa [hlenG.out] at this
    replace hwv := Lib.hid hwv
    replace hG2 := Lib.hid hG2
    replace hL2 := Lib.hid hL2
    replace hno := Lib.hid hno
    replace hvL := Lib.hid hvL
    replace hvl := Lib.hid hvl
    replace how2 := Lib.hid how2
    replace R2 := Lib.hid R2
    clear hnone e0
    generalize valAt (.slice aa an ac) 0 = ra at *
    replace hod := Lib.hid hod
    go_upto_region 7 with fail
    go_cut [7, 9, 10] from 39 (fun s7 s9 s10 wx => s7 = .nilIface ∧ ∃ (g9 g10 : Nat) (L C Q : List Nat) (aL aC aQ bL bC bQ : Value) (f : Names), s9 = .pointer (some ⟨g9, 0, none⟩) ∧ s10 = .pointer (some ⟨g10, 0, none⟩) ∧ Below w.heap.size w wx ∧ WitIs (pairG K (pw K (2 * wkR R)) (wkT K R T)) v L C Q ∧ Rows w.heap.size wx f ∧ f (0, 2) = some (box4 26 (w.heap.size + 1) [.int .i64 0, .slice none 0 0, .slice none 0 0, .slice none 0 0]) ∧ f (0, 3) = some (box4 26 (w.heap.size + 2) [.int .i64 0, .slice none 0 0, .slice none 0 0, .slice none 0 0]) ∧ f (9, 0) = some (box4 26 g9 [.int .i64 0, aL, aC, aQ]) ∧ f (9, 1) = some (box4 26 g10 [.int .i64 0, bL, bC, bQ]) ∧ f (1, 0) = some (rowI aL (sideA K (pw K (2 * wkR R)) L)) ∧ f (1, 1) = some (rowI bL (sideB K (pw K (2 * wkR R)) L)) ∧ f (2, 0) = some (rowI aC (sideA K (pw K (2 * wkR R)) C)) ∧ f (2, 1) = some (rowI bC (sideB K (pw K (2 * wkR R)) C)) ∧ f (3, 0) = some (rowI aQ (sideA K (pw K (2 * wkR R)) Q)) ∧ f (3, 1) = some (rowI bQ (sideB K (pw K (2 * wkR R)) Q)))
    case first =>
      obtain ⟨W0, hW0⟩ : ∃ W0 : World, W0 = w2.drew := ⟨_, rfl⟩
      have b20 : Below w2.heap.size w2 W0 := by rw [hW0]; exact (Below.refl _ _).drew
      have bW0 : Below w.heap.size w W0 := by rw [hW0]; exact b02.drew
      have RW0 : Rows w.heap.size W0 f1 := by rw [hW0]; exact R2.out.drew
      have hB0 := bW0.size
      have hS0 : W0.cell? ⟨w.heap.size, 0, none⟩ = some (.int .i64 K) ∧ W0.cell? ra = some (.int .i64 v) := by rw [hW0]; exact ⟨k0, cA⟩
      have hlow : w.heap.size < w2.heap.size ∧ ra.block < w2.heap.size := ⟨World.block_lt_of_cell? _ _ k0, World.block_lt_of_cell? _ _ cA⟩
      replace n02 := n02.out
      replace n03 := n03.out
      refine wp_region_noPanic ?_
      refine wp_region_any (by kernel_rfl) ?_
      change wpAny _ _ _ _ _ _ _ (World.drew _)
      rw [← hW0]
      clear hW0 k0 cA b02 R2
      refine wpAny_of_held (S := fun w' => w'.cell? ⟨w.heap.size, 0, none⟩ = some (.int .i64 K) ∧ w'.cell? ra = some (.int .i64 v)) _ _ _ _ ?_
      refine takeD (i := 0) (v := ?_) (some 40) rfl rfl (by kernel_rfl) (by kernel_rfl) (by kernel_rfl) (fun _ _ _ h => h) (Or.inl ⟨by rfl, ?_⟩) hS0 ?_
      rotate_left
      · rintro W' ⟨s0, s1⟩; go_simp; try with_reducible rfl
      simp only [Act.put, List.setIfInBounds_toArray, List.set_cons_zero, List.set_cons_succ]
      refine takeD (i := 1) (v := ?_) (some 41) rfl rfl (by kernel_rfl) (by kernel_rfl) (by kernel_rfl) (fun _ _ _ h => h) (Or.inl ⟨by rfl, ?_⟩) hS0 ?_
      rotate_left
      · rintro W' ⟨s0, s1⟩; go_simp; try with_reducible rfl
      simp only [Act.put, List.setIfInBounds_toArray, List.set_cons_zero, List.set_cons_succ]
      refine takeD (i := 2) (v := ?_) (some 42) rfl rfl (by kernel_rfl) (by kernel_rfl) (by kernel_rfl) (fun _ _ _ h => h) (Or.inl ⟨by rfl, ?_⟩) hS0 ?_
      rotate_left
      · rintro W' ⟨s0, s1⟩; go_simp; try with_reducible rfl
      simp only [Act.put, List.setIfInBounds_toArray, List.set_cons_zero, List.set_cons_succ]
      refine takeD (i := 3) (v := ?_) (some 43) rfl rfl (by kernel_rfl) (by kernel_rfl) (by kernel_rfl) (fun _ _ _ h => h) (Or.inl ⟨by rfl, ?_⟩) hS0 ?_
      rotate_left
      · rintro W' ⟨s0, s1⟩; go_simp; try with_reducible rfl
      simp only [Act.put, List.setIfInBounds_toArray, List.set_cons_zero, List.set_cons_succ]
      refine takeD (i := 4) (v := ?_) (some 44) rfl rfl (by kernel_rfl) (by kernel_rfl) (by kernel_rfl) (fun _ _ _ h => h) (Or.inl ⟨by rfl, ?_⟩) hS0 ?_
      rotate_left
      · rintro W' ⟨s0, s1⟩; go_simp; try with_reducible rfl
      simp only [Act.put, List.setIfInBounds_toArray, List.set_cons_zero, List.set_cons_succ]
      refine takeD (i := 5) (v := ?_) (some 45) rfl rfl (by kernel_rfl) (by kernel_rfl) (by kernel_rfl) (fun _ _ _ h => h) (Or.inl ⟨by rfl, ?_⟩) hS0 ?_
      rotate_left
      · rintro W' ⟨s0, s1⟩; go_simp; try with_reducible rfl
      simp only [Act.put, List.setIfInBounds_toArray, List.set_cons_zero, List.set_cons_succ]
      refine wpAnyH_ready (rs := [6, 11, 12]) (by kernel_rfl) (by simp) (AllReadyH.cons rfl (fun KK hK => ?_) (AllReadyH.cons rfl (fun KK hK => ?_) (AllReadyH.cons rfl (fun KK hK => ?_) (AllReadyH.nil))))
      · go_simp
        refine (hwv.out W0 (hG2.out.below b20) (hL2.out.below b20)).mono ?_
        rintro e W1 ⟨x, y, z, rfl, bb, hz, L', C', Q', aL, aC, aQ, bL, bC, bQ, hwi, rfl, rfl, fw, Rw, k10, k11, k20, k21, k30, k31⟩
        subst hz
        obtain ⟨aLa, aLn, aLc, haL⟩ := (Rw.ownI k10).at.shape
        subst haL
        obtain ⟨bLa, bLn, bLc, hbL⟩ := (Rw.ownI k11).at.shape
        subst hbL
        obtain ⟨aCa, aCn, aCc, haC⟩ := (Rw.ownI k20).at.shape
        subst haC
        obtain ⟨bCa, bCn, bCc, hbC⟩ := (Rw.ownI k21).at.shape
        subst hbC
        obtain ⟨aQa, aQn, aQc, haQ⟩ := (Rw.ownI k30).at.shape
        subst haQ
        obtain ⟨bQa, bQn, bQc, hbQ⟩ := (Rw.ownI k31).at.shape
        subst hbQ
        obtain ⟨f1, RW1, sel, oth⟩ := RW0.merge (fun i => decide (i.1 = 1 ∨ i.1 = 2 ∨ i.1 = 3)) bb Rw hB0
        replace n02 := (oth (0, 2) (by decide)).trans n02
        replace n03 := (oth (0, 3) (by decide)).trans n03
        have n10 := (sel (1, 0) (by decide)).trans k10
        have n11 := (sel (1, 1) (by decide)).trans k11
        have n20 := (sel (2, 0) (by decide)).trans k20
        have n21 := (sel (2, 1) (by decide)).trans k21
        have n30 := (sel (3, 0) (by decide)).trans k30
        have n31 := (sel (3, 1) (by decide)).trans k31
        replace hwi := Lib.hid hwi
        clear sel oth k10 k11 k20 k21 k30 k31 Rw
        have bW1 := bW0.trans (bb.mono hB0)
        have b21 := Below.step b20 bb
        have hB1 := bW1.size
        have hS1 : W1.cell? ⟨w.heap.size, 0, none⟩ = some (.int .i64 K) ∧ W1.cell? ra = some (.int .i64 v) := ⟨by rw [b21.cell hlow.1, ← b20.cell hlow.1]; exact hS0.1, by rw [b21.cell hlow.2, ← b20.cell hlow.2]; exact hS0.2⟩
        refine hK.out _ _ hS1 fun _ => ?_
        clear hK KK bb RW0
        refine takeD (i := 7) (v := ?_) (some 39) rfl rfl (by kernel_rfl) (by kernel_rfl) (by kernel_rfl) (fun _ _ _ h => h) (Or.inl ⟨by rfl, ?_⟩) hS1 ?_
        rotate_left
        · rintro W' ⟨s0, s1⟩; go_simp; try with_reducible rfl
        simp only [Act.put, List.setIfInBounds_toArray, List.set_cons_zero, List.set_cons_succ]
        refine takeD (i := 8) (v := ?_) (some 47) rfl rfl (by kernel_rfl) (by kernel_rfl) (by kernel_rfl) (fun _ _ _ h => h) (Or.inl ⟨by rfl, ?_⟩) hS1 ?_
        rotate_left
        · rintro W' ⟨s0, s1⟩; go_simp; try with_reducible rfl
        simp only [Act.put, List.setIfInBounds_toArray, List.set_cons_zero, List.set_cons_succ]
        refine takeD (i := 9) (v := ?_) (some 48) rfl rfl (by kernel_rfl) (by kernel_rfl) (by kernel_rfl) (fun _ _ _ h => h) (Or.inl ⟨by rfl, ?_⟩) hS1 ?_
        rotate_left
        · rintro W' ⟨s0, s1⟩; go_simp; try with_reducible rfl
        simp only [Act.put, List.setIfInBounds_toArray, List.set_cons_zero, List.set_cons_succ]
        refine takeD (i := 10) (v := ?_) (some 49) rfl rfl (by kernel_rfl) (by kernel_rfl) (by kernel_rfl) (fun _ _ _ h => h) (Or.inl ⟨by rfl, ?_⟩) hS1 ?_
        rotate_left
        · rintro W' ⟨s0, s1⟩; go_simp; try with_reducible rfl
        simp only [Act.put, List.setIfInBounds_toArray, List.set_cons_zero, List.set_cons_succ]
        refine wpAnyH_ready (rs := [11, 12]) (by kernel_rfl) (by simp) (AllReadyH.cons rfl (fun KK hK => ?_) (AllReadyH.cons rfl (fun KK hK => ?_) (AllReadyH.nil)))
        · go_simp
          obtain ⟨f2, RW2, n90, oo⟩ := RW1.box4 (9, 0) hB1 26 (.int .i64 0) (.slice none 0 0) (.slice none 0 0) (.slice none 0 0)
          replace n02 := (oo (0, 2) (by decide)).trans n02
          replace n03 := (oo (0, 3) (by decide)).trans n03
          replace n10 := (oo (1, 0) (by decide)).trans n10
          replace n11 := (oo (1, 1) (by decide)).trans n11
          replace n20 := (oo (2, 0) (by decide)).trans n20
          replace n21 := (oo (2, 1) (by decide)).trans n21
          replace n30 := (oo (3, 0) (by decide)).trans n30
          replace n31 := (oo (3, 1) (by decide)).trans n31
          have bb := belowAlloc W1 (.cells #[.int .i64 0, .slice none 0 0, .slice none 0 0, .slice none 0 0] 26)
          obtain ⟨gb9, hgb9⟩ : ∃ g, W1.heap.size = g := ⟨_, rfl⟩
          obtain ⟨W2, hW2⟩ : ∃ W' : World, W1.alloc (.cells #[.int .i64 0, .slice none 0 0, .slice none 0 0, .slice none 0 0] 26) = W' := ⟨_, rfl⟩
          have lgb9 : w2.heap.size ≤ gb9 := by rw [← hgb9]; exact b21.size
          have bW2 := bW1.trans (bb.mono hB1)
          have b22 := Below.step b21 bb
          rw [hW2] at RW2 bW2 b22 bb
          have hB2 := bW2.size
          have hS2 : W2.cell? ⟨w.heap.size, 0, none⟩ = some (.int .i64 K) ∧ W2.cell? ra = some (.int .i64 v) := ⟨by rw [b22.cell hlow.1, ← b21.cell hlow.1]; exact hS1.1, by rw [b22.cell hlow.2, ← b21.cell hlow.2]; exact hS1.2⟩
          rw [hW2, hgb9]
          rw [hgb9] at n90
          replace hW2 := Lib.hid hW2
          replace hgb9 := Lib.hid hgb9
          refine hK.out _ _ hS2 fun _ => ?_
          clear hK KK bb RW1 oo
          refine wpAnyH_ready (rs := [12]) (by kernel_rfl) (by simp) (AllReadyH.cons rfl (fun KK hK => ?_) (AllReadyH.nil))
          · go_simp
            obtain ⟨f3, RW3, n91, oo⟩ := RW2.box4 (9, 1) hB2 26 (.int .i64 0) (.slice none 0 0) (.slice none 0 0) (.slice none 0 0)
            replace n02 := (oo (0, 2) (by decide)).trans n02
            replace n03 := (oo (0, 3) (by decide)).trans n03
            replace n10 := (oo (1, 0) (by decide)).trans n10
            replace n11 := (oo (1, 1) (by decide)).trans n11
            replace n20 := (oo (2, 0) (by decide)).trans n20
            replace n21 := (oo (2, 1) (by decide)).trans n21
            replace n30 := (oo (3, 0) (by decide)).trans n30
            replace n31 := (oo (3, 1) (by decide)).trans n31
            replace n90 := (oo (9, 0) (by decide)).trans n90
            have bb := belowAlloc W2 (.cells #[.int .i64 0, .slice none 0 0, .slice none 0 0, .slice none 0 0] 26)
            obtain ⟨gb10, hgb10⟩ : ∃ g, W2.heap.size = g := ⟨_, rfl⟩
            obtain ⟨W3, hW3⟩ : ∃ W' : World, W2.alloc (.cells #[.int .i64 0, .slice none 0 0, .slice none 0 0, .slice none 0 0] 26) = W' := ⟨_, rfl⟩
            have lgb10 : w2.heap.size ≤ gb10 := by rw [← hgb10]; exact b22.size
            have bW3 := bW2.trans (bb.mono hB2)
            have b23 := Below.step b22 bb
            rw [hW3] at RW3 bW3 b23 bb
            have hB3 := bW3.size
            have hS3 : W3.cell? ⟨w.heap.size, 0, none⟩ = some (.int .i64 K) ∧ W3.cell? ra = some (.int .i64 v) := ⟨by rw [b23.cell hlow.1, ← b22.cell hlow.1]; exact hS2.1, by rw [b23.cell hlow.2, ← b22.cell hlow.2]; exact hS2.2⟩
            rw [hW3, hgb10]
            rw [hgb10] at n91
            replace hW3 := Lib.hid hW3
            replace hgb10 := Lib.hid hgb10
            refine hK.out _ _ hS3 fun _ => ?_
            clear hK KK bb RW2 oo
            obtain ⟨t0, t1, t2, t3⟩ := RW3.cells4 n90
            have ft0 := RW3.frz4 n90 0
            have ft1 := RW3.frz4 n90 1
            have ft2 := RW3.frz4 n90 2
            have ft3 := RW3.frz4 n90 3
            have lt := (RW3.low4 n90)
            obtain ⟨f4, RW4, mm, oo⟩ := RW3.all4 n90 (.int .i64 0) (.slice aLa aLn aLc) (.slice aCa aCn aCc) (.slice aQa aQn aQc)
            replace n02 := (oo (0, 2) (by decide)).trans n02
            replace n03 := (oo (0, 3) (by decide)).trans n03
            replace n10 := (oo (1, 0) (by decide)).trans n10
            replace n11 := (oo (1, 1) (by decide)).trans n11
            replace n20 := (oo (2, 0) (by decide)).trans n20
            replace n21 := (oo (2, 1) (by decide)).trans n21
            replace n30 := (oo (3, 0) (by decide)).trans n30
            replace n31 := (oo (3, 1) (by decide)).trans n31
            replace n91 := (oo (9, 1) (by decide)).trans n91
            clear n90
            have n90 := mm
            have bW4 := Below.all4 (g := gb9) bW3 lt.1 (.int .i64 0) (.slice aLa aLn aLc) (.slice aCa aCn aCc) (.slice aQa aQn aQc)
            have b24 := Below.all4 (g := gb9) b23 lgb9 (.int .i64 0) (.slice aLa aLn aLc) (.slice aCa aCn aCc) (.slice aQa aQn aQc)
            obtain ⟨W4, hW4⟩ : ∃ W' : World, (((W3.setCell ⟨gb9, 0, none⟩ (.int .i64 0)).setCell ⟨gb9, 1, none⟩ (.slice aLa aLn aLc)).setCell ⟨gb9, 2, none⟩ (.slice aCa aCn aCc)).setCell ⟨gb9, 3, none⟩ (.slice aQa aQn aQc) = W' := ⟨_, rfl⟩
            rw [hW4] at RW4 bW4 b24
            have hS4 : W4.cell? ⟨w.heap.size, 0, none⟩ = some (.int .i64 K) ∧ W4.cell? ra = some (.int .i64 v) := ⟨by rw [b24.cell hlow.1, ← b23.cell hlow.1]; exact hS3.1, by rw [b24.cell hlow.2, ← b23.cell hlow.2]; exact hS3.2⟩
            replace hW4 := Lib.hid hW4
            refine wpAnyH_ready (rs := [13]) (by kernel_rfl) (by simp) (AllReadyH.cons rfl (fun KK hK => ?_) AllReadyH.nil)
            go_simp
            rw [hW4.out]
            refine hK.out _ _ hS4 fun _ => ?_
            clear hK KK t0 t1 t2 t3 ft0 ft1 ft2 ft3 mm oo lt RW3 hW4
            obtain ⟨t0, t1, t2, t3⟩ := RW4.cells4 n91
            have ft0 := RW4.frz4 n91 0
            have ft1 := RW4.frz4 n91 1
            have ft2 := RW4.frz4 n91 2
            have ft3 := RW4.frz4 n91 3
            have lt := (RW4.low4 n91)
            obtain ⟨f5, RW5, mm, oo⟩ := RW4.all4 n91 (.int .i64 0) (.slice bLa bLn bLc) (.slice bCa bCn bCc) (.slice bQa bQn bQc)
            replace n02 := (oo (0, 2) (by decide)).trans n02
            replace n03 := (oo (0, 3) (by decide)).trans n03
            replace n10 := (oo (1, 0) (by decide)).trans n10
            replace n11 := (oo (1, 1) (by decide)).trans n11
            replace n20 := (oo (2, 0) (by decide)).trans n20
            replace n21 := (oo (2, 1) (by decide)).trans n21
            replace n30 := (oo (3, 0) (by decide)).trans n30
            replace n31 := (oo (3, 1) (by decide)).trans n31
            replace n90 := (oo (9, 0) (by decide)).trans n90
            clear n91
            have n91 := mm
            have bW5 := Below.all4 (g := gb10) bW4 lt.1 (.int .i64 0) (.slice bLa bLn bLc) (.slice bCa bCn bCc) (.slice bQa bQn bQc)
            have b25 := Below.all4 (g := gb10) b24 lgb10 (.int .i64 0) (.slice bLa bLn bLc) (.slice bCa bCn bCc) (.slice bQa bQn bQc)
            obtain ⟨W5, hW5⟩ : ∃ W' : World, (((W4.setCell ⟨gb10, 0, none⟩ (.int .i64 0)).setCell ⟨gb10, 1, none⟩ (.slice bLa bLn bLc)).setCell ⟨gb10, 2, none⟩ (.slice bCa bCn bCc)).setCell ⟨gb10, 3, none⟩ (.slice bQa bQn bQc) = W' := ⟨_, rfl⟩
            rw [hW5] at RW5 bW5 b25
            have hS5 : W5.cell? ⟨w.heap.size, 0, none⟩ = some (.int .i64 K) ∧ W5.cell? ra = some (.int .i64 v) := ⟨by rw [b25.cell hlow.1, ← b24.cell hlow.1]; exact hS4.1, by rw [b25.cell hlow.2, ← b24.cell hlow.2]; exact hS4.2⟩
            replace hW5 := Lib.hid hW5
            refine wpAnyH_ready (rs := [14]) (by kernel_rfl) (by simp) (AllReadyH.cons rfl (fun KK hK => ?_) AllReadyH.nil)
            go_simp
            rw [hW5.out]
            refine hK.out _ _ hS5 fun _ => ?_
            clear hK KK t0 t1 t2 t3 ft0 ft1 ft2 ft3 mm oo lt RW4 hW5
            refine takeD (i := 15) (v := ?_) (some 7) rfl rfl (by kernel_rfl) (by kernel_rfl) (by kernel_rfl) (fun _ _ _ h => h) (Or.inl ⟨by rfl, ?_⟩) hS5 ?_
            rotate_left
            · rintro W' ⟨s0, s1⟩; go_simp; try with_reducible rfl
            simp only [Act.put, List.setIfInBounds_toArray, List.set_cons_zero, List.set_cons_succ]
            refine wpAnyH_done (by kernel_rfl) ?_ _
            refine NoPanic.normal ?_
            replace n02 := Lib.hid n02
            replace n03 := Lib.hid n03
            replace n90 := Lib.hid n90
            replace n91 := Lib.hid n91
            replace n10 := Lib.hid n10
            replace n11 := Lib.hid n11
            replace n20 := Lib.hid n20
            replace n21 := Lib.hid n21
            replace n30 := Lib.hid n30
            replace n31 := Lib.hid n31
            replace RW5 := Lib.hid RW5
            go_wp2
            go_meet
            case rel => exact ⟨rfl, gb9, gb10, L', C', Q', _, _, _, _, _, _, f5, rfl, rfl, bW5, hwi.out, RW5.out, n02.out, n03.out, n90.out, n91.out, n10.out, n11.out, n20.out, n21.out, n30.out, n31.out⟩
        · go_simp
          obtain ⟨f6, RW6, n91, oo⟩ := RW1.box4 (9, 1) hB1 26 (.int .i64 0) (.slice none 0 0) (.slice none 0 0) (.slice none 0 0)
          replace n02 := (oo (0, 2) (by decide)).trans n02
          replace n03 := (oo (0, 3) (by decide)).trans n03
          replace n10 := (oo (1, 0) (by decide)).trans n10
          replace n11 := (oo (1, 1) (by decide)).trans n11
          replace n20 := (oo (2, 0) (by decide)).trans n20
          replace n21 := (oo (2, 1) (by decide)).trans n21
          replace n30 := (oo (3, 0) (by decide)).trans n30
          replace n31 := (oo (3, 1) (by decide)).trans n31
          have bb := belowAlloc W1 (.cells #[.int .i64 0, .slice none 0 0, .slice none 0 0, .slice none 0 0] 26)
          obtain ⟨gb10, hgb10⟩ : ∃ g, W1.heap.size = g := ⟨_, rfl⟩
          obtain ⟨W6, hW6⟩ : ∃ W' : World, W1.alloc (.cells #[.int .i64 0, .slice none 0 0, .slice none 0 0, .slice none 0 0] 26) = W' := ⟨_, rfl⟩
          have lgb10 : w2.heap.size ≤ gb10 := by rw [← hgb10]; exact b21.size
          have bW6 := bW1.trans (bb.mono hB1)
          have b26 := Below.step b21 bb
          rw [hW6] at RW6 bW6 b26 bb
          have hB6 := bW6.size
          have hS6 : W6.cell? ⟨w.heap.size, 0, none⟩ = some (.int .i64 K) ∧ W6.cell? ra = some (.int .i64 v) := ⟨by rw [b26.cell hlow.1, ← b21.cell hlow.1]; exact hS1.1, by rw [b26.cell hlow.2, ← b21.cell hlow.2]; exact hS1.2⟩
          rw [hW6, hgb10]
          rw [hgb10] at n91
          replace hW6 := Lib.hid hW6
          replace hgb10 := Lib.hid hgb10
          refine hK.out _ _ hS6 fun _ => ?_
          clear hK KK bb RW1 oo
          refine wpAnyH_ready (rs := [11]) (by kernel_rfl) (by simp) (AllReadyH.cons rfl (fun KK hK => ?_) (AllReadyH.nil))
          · go_simp
            obtain ⟨f7, RW7, n90, oo⟩ := RW6.box4 (9, 0) hB6 26 (.int .i64 0) (.slice none 0 0) (.slice none 0 0) (.slice none 0 0)
            replace n02 := (oo (0, 2) (by decide)).trans n02
            replace n03 := (oo (0, 3) (by decide)).trans n03
            replace n10 := (oo (1, 0) (by decide)).trans n10
            replace n11 := (oo (1, 1) (by decide)).trans n11
            replace n20 := (oo (2, 0) (by decide)).trans n20
            replace n21 := (oo (2, 1) (by decide)).trans n21
            replace n30 := (oo (3, 0) (by decide)).trans n30
            replace n31 := (oo (3, 1) (by decide)).trans n31
            replace n91 := (oo (9, 1) (by decide)).trans n91
            have bb := belowAlloc W6 (.cells #[.int .i64 0, .slice none 0 0, .slice none 0 0, .slice none 0 0] 26)
            obtain ⟨gb9, hgb9⟩ : ∃ g, W6.heap.size = g := ⟨_, rfl⟩
            obtain ⟨W7, hW7⟩ : ∃ W' : World, W6.alloc (.cells #[.int .i64 0, .slice none 0 0, .slice none 0 0, .slice none 0 0] 26) = W' := ⟨_, rfl⟩
            have lgb9 : w2.heap.size ≤ gb9 := by rw [← hgb9]; exact b26.size
            have bW7 := bW6.trans (bb.mono hB6)
            have b27 := Below.step b26 bb
            rw [hW7] at RW7 bW7 b27 bb
            have hB7 := bW7.size
            have hS7 : W7.cell? ⟨w.heap.size, 0, none⟩ = some (.int .i64 K) ∧ W7.cell? ra = some (.int .i64 v) := ⟨by rw [b27.cell hlow.1, ← b26.cell hlow.1]; exact hS6.1, by rw [b27.cell hlow.2, ← b26.cell hlow.2]; exact hS6.2⟩
            rw [hW7, hgb9]
            rw [hgb9] at n90
            replace hW7 := Lib.hid hW7
            replace hgb9 := Lib.hid hgb9
            refine hK.out _ _ hS7 fun _ => ?_
            clear hK KK bb RW6 oo
            obtain ⟨t0, t1, t2, t3⟩ := RW7.cells4 n90
            have ft0 := RW7.frz4 n90 0
            have ft1 := RW7.frz4 n90 1
            have ft2 := RW7.frz4 n90 2
            have ft3 := RW7.frz4 n90 3
            have lt := (RW7.low4 n90)
            obtain ⟨f8, RW8, mm, oo⟩ := RW7.all4 n90 (.int .i64 0) (.slice aLa aLn aLc) (.slice aCa aCn aCc) (.slice aQa aQn aQc)
            replace n02 := (oo (0, 2) (by decide)).trans n02
            replace n03 := (oo (0, 3) (by decide)).trans n03
            replace n10 := (oo (1, 0) (by decide)).trans n10
            replace n11 := (oo (1, 1) (by decide)).trans n11
            replace n20 := (oo (2, 0) (by decide)).trans n20
            replace n21 := (oo (2, 1) (by decide)).trans n21
            replace n30 := (oo (3, 0) (by decide)).trans n30
            replace n31 := (oo (3, 1) (by decide)).trans n31
            replace n91 := (oo (9, 1) (by decide)).trans n91
            clear n90
            have n90 := mm
            have bW8 := Below.all4 (g := gb9) bW7 lt.1 (.int .i64 0) (.slice aLa aLn aLc) (.slice aCa aCn aCc) (.slice aQa aQn aQc)
            have b28 := Below.all4 (g := gb9) b27 lgb9 (.int .i64 0) (.slice aLa aLn aLc) (.slice aCa aCn aCc) (.slice aQa aQn aQc)
            obtain ⟨W8, hW8⟩ : ∃ W' : World, (((W7.setCell ⟨gb9, 0, none⟩ (.int .i64 0)).setCell ⟨gb9, 1, none⟩ (.slice aLa aLn aLc)).setCell ⟨gb9, 2, none⟩ (.slice aCa aCn aCc)).setCell ⟨gb9, 3, none⟩ (.slice aQa aQn aQc) = W' := ⟨_, rfl⟩
            rw [hW8] at RW8 bW8 b28
            have hS8 : W8.cell? ⟨w.heap.size, 0, none⟩ = some (.int .i64 K) ∧ W8.cell? ra = some (.int .i64 v) := ⟨by rw [b28.cell hlow.1, ← b27.cell hlow.1]; exact hS7.1, by rw [b28.cell hlow.2, ← b27.cell hlow.2]; exact hS7.2⟩
            replace hW8 := Lib.hid hW8
            refine wpAnyH_ready (rs := [13]) (by kernel_rfl) (by simp) (AllReadyH.cons rfl (fun KK hK => ?_) AllReadyH.nil)
            go_simp
            rw [hW8.out]
            refine hK.out _ _ hS8 fun _ => ?_
            clear hK KK t0 t1 t2 t3 ft0 ft1 ft2 ft3 mm oo lt RW7 hW8
            obtain ⟨t0, t1, t2, t3⟩ := RW8.cells4 n91
            have ft0 := RW8.frz4 n91 0
            have ft1 := RW8.frz4 n91 1
            have ft2 := RW8.frz4 n91 2
            have ft3 := RW8.frz4 n91 3
            have lt := (RW8.low4 n91)
            obtain ⟨f9, RW9, mm, oo⟩ := RW8.all4 n91 (.int .i64 0) (.slice bLa bLn bLc) (.slice bCa bCn bCc) (.slice bQa bQn bQc)
            replace n02 := (oo (0, 2) (by decide)).trans n02
            replace n03 := (oo (0, 3) (by decide)).trans n03
            replace n10 := (oo (1, 0) (by decide)).trans n10
            replace n11 := (oo (1, 1) (by decide)).trans n11
            replace n20 := (oo (2, 0) (by decide)).trans n20
            replace n21 := (oo (2, 1) (by decide)).trans n21
            replace n30 := (oo (3, 0) (by decide)).trans n30
            replace n31 := (oo (3, 1) (by decide)).trans n31
            replace n90 := (oo (9, 0) (by decide)).trans n90
            clear n91
            have n91 := mm
            have bW9 := Below.all4 (g := gb10) bW8 lt.1 (.int .i64 0) (.slice bLa bLn bLc) (.slice bCa bCn bCc) (.slice bQa bQn bQc)
            have b29 := Below.all4 (g := gb10) b28 lgb10 (.int .i64 0) (.slice bLa bLn bLc) (.slice bCa bCn bCc) (.slice bQa bQn bQc)
            obtain ⟨W9, hW9⟩ : ∃ W' : World, (((W8.setCell ⟨gb10, 0, none⟩ (.int .i64 0)).setCell ⟨gb10, 1, none⟩ (.slice bLa bLn bLc)).setCell ⟨gb10, 2, none⟩ (.slice bCa bCn bCc)).setCell ⟨gb10, 3, none⟩ (.slice bQa bQn bQc) = W' := ⟨_, rfl⟩
            rw [hW9] at RW9 bW9 b29
            have hS9 : W9.cell? ⟨w.heap.size, 0, none⟩ = some (.int .i64 K) ∧ W9.cell? ra = some (.int .i64 v) := ⟨by rw [b29.cell hlow.1, ← b28.cell hlow.1]; exact hS8.1, by rw [b29.cell hlow.2, ← b28.cell hlow.2]; exact hS8.2⟩
            replace hW9 := Lib.hid hW9
            refine wpAnyH_ready (rs := [14]) (by kernel_rfl) (by simp) (AllReadyH.cons rfl (fun KK hK => ?_) AllReadyH.nil)
            go_simp
            rw [hW9.out]
            refine hK.out _ _ hS9 fun _ => ?_
            clear hK KK t0 t1 t2 t3 ft0 ft1 ft2 ft3 mm oo lt RW8 hW9
            refine takeD (i := 15) (v := ?_) (some 7) rfl rfl (by kernel_rfl) (by kernel_rfl) (by kernel_rfl) (fun _ _ _ h => h) (Or.inl ⟨by rfl, ?_⟩) hS9 ?_
            rotate_left
            · rintro W' ⟨s0, s1⟩; go_simp; try with_reducible rfl
            simp only [Act.put, List.setIfInBounds_toArray, List.set_cons_zero, List.set_cons_succ]
            refine wpAnyH_done (by kernel_rfl) ?_ _
            refine NoPanic.normal ?_
            replace n02 := Lib.hid n02
            replace n03 := Lib.hid n03
            replace n90 := Lib.hid n90
            replace n91 := Lib.hid n91
            replace n10 := Lib.hid n10
            replace n11 := Lib.hid n11
            replace n20 := Lib.hid n20
            replace n21 := Lib.hid n21
            replace n30 := Lib.hid n30
            replace n31 := Lib.hid n31
            replace RW9 := Lib.hid RW9
            go_wp2
            go_meet
            case rel => exact ⟨rfl, gb9, gb10, L', C', Q', _, _, _, _, _, _, f9, rfl, rfl, bW9, hwi.out, RW9.out, n02.out, n03.out, n90.out, n91.out, n10.out, n11.out, n20.out, n21.out, n30.out, n31.out⟩
      · go_simp
        obtain ⟨f10, RW10, n90, oo⟩ := RW0.box4 (9, 0) hB0 26 (.int .i64 0) (.slice none 0 0) (.slice none 0 0) (.slice none 0 0)
        replace n02 := (oo (0, 2) (by decide)).trans n02
        replace n03 := (oo (0, 3) (by decide)).trans n03
        have bb := belowAlloc W0 (.cells #[.int .i64 0, .slice none 0 0, .slice none 0 0, .slice none 0 0] 26)
        obtain ⟨gb9, hgb9⟩ : ∃ g, W0.heap.size = g := ⟨_, rfl⟩
        obtain ⟨W10, hW10⟩ : ∃ W' : World, W0.alloc (.cells #[.int .i64 0, .slice none 0 0, .slice none 0 0, .slice none 0 0] 26) = W' := ⟨_, rfl⟩
        have lgb9 : w2.heap.size ≤ gb9 := by rw [← hgb9]; exact b20.size
        have bW10 := bW0.trans (bb.mono hB0)
        have b210 := Below.step b20 bb
        rw [hW10] at RW10 bW10 b210 bb
        have hB10 := bW10.size
        have hS10 : W10.cell? ⟨w.heap.size, 0, none⟩ = some (.int .i64 K) ∧ W10.cell? ra = some (.int .i64 v) := ⟨by rw [b210.cell hlow.1, ← b20.cell hlow.1]; exact hS0.1, by rw [b210.cell hlow.2, ← b20.cell hlow.2]; exact hS0.2⟩
        rw [hW10, hgb9]
        rw [hgb9] at n90
        replace hW10 := Lib.hid hW10
        replace hgb9 := Lib.hid hgb9
        refine hK.out _ _ hS10 fun _ => ?_
        clear hK KK bb RW0 oo
        refine wpAnyH_ready (rs := [6, 12]) (by kernel_rfl) (by simp) (AllReadyH.cons rfl (fun KK hK => ?_) (AllReadyH.cons rfl (fun KK hK => ?_) (AllReadyH.nil)))
        · go_simp
          refine (hwv.out W10 (hG2.out.below b210) (hL2.out.below b210)).mono ?_
          rintro e W11 ⟨x, y, z, rfl, bb, hz, L', C', Q', aL, aC, aQ, bL, bC, bQ, hwi, rfl, rfl, fw, Rw, k10, k11, k20, k21, k30, k31⟩
          subst hz
          obtain ⟨aLa, aLn, aLc, haL⟩ := (Rw.ownI k10).at.shape
          subst haL
          obtain ⟨bLa, bLn, bLc, hbL⟩ := (Rw.ownI k11).at.shape
          subst hbL
          obtain ⟨aCa, aCn, aCc, haC⟩ := (Rw.ownI k20).at.shape
          subst haC
          obtain ⟨bCa, bCn, bCc, hbC⟩ := (Rw.ownI k21).at.shape
          subst hbC
          obtain ⟨aQa, aQn, aQc, haQ⟩ := (Rw.ownI k30).at.shape
          subst haQ
          obtain ⟨bQa, bQn, bQc, hbQ⟩ := (Rw.ownI k31).at.shape
          subst hbQ
          obtain ⟨f11, RW11, sel, oth⟩ := RW10.merge (fun i => decide (i.1 = 1 ∨ i.1 = 2 ∨ i.1 = 3)) bb Rw hB10
          replace n02 := (oth (0, 2) (by decide)).trans n02
          replace n03 := (oth (0, 3) (by decide)).trans n03
          replace n90 := (oth (9, 0) (by decide)).trans n90
          have n10 := (sel (1, 0) (by decide)).trans k10
          have n11 := (sel (1, 1) (by decide)).trans k11
          have n20 := (sel (2, 0) (by decide)).trans k20
          have n21 := (sel (2, 1) (by decide)).trans k21
          have n30 := (sel (3, 0) (by decide)).trans k30
          have n31 := (sel (3, 1) (by decide)).trans k31
          replace hwi := Lib.hid hwi
          clear sel oth k10 k11 k20 k21 k30 k31 Rw
          have bW11 := bW10.trans (bb.mono hB10)
          have b211 := Below.step b210 bb
          have hB11 := bW11.size
          have hS11 : W11.cell? ⟨w.heap.size, 0, none⟩ = some (.int .i64 K) ∧ W11.cell? ra = some (.int .i64 v) := ⟨by rw [b211.cell hlow.1, ← b210.cell hlow.1]; exact hS10.1, by rw [b211.cell hlow.2, ← b210.cell hlow.2]; exact hS10.2⟩
          refine hK.out _ _ hS11 fun _ => ?_
          clear hK KK bb RW10
          refine takeD (i := 7) (v := ?_) (some 39) rfl rfl (by kernel_rfl) (by kernel_rfl) (by kernel_rfl) (fun _ _ _ h => h) (Or.inl ⟨by rfl, ?_⟩) hS11 ?_
          rotate_left
          · rintro W' ⟨s0, s1⟩; go_simp; try with_reducible rfl
          simp only [Act.put, List.setIfInBounds_toArray, List.set_cons_zero, List.set_cons_succ]
          refine takeD (i := 8) (v := ?_) (some 47) rfl rfl (by kernel_rfl) (by kernel_rfl) (by kernel_rfl) (fun _ _ _ h => h) (Or.inl ⟨by rfl, ?_⟩) hS11 ?_
          rotate_left
          · rintro W' ⟨s0, s1⟩; go_simp; try with_reducible rfl
          simp only [Act.put, List.setIfInBounds_toArray, List.set_cons_zero, List.set_cons_succ]
          refine takeD (i := 9) (v := ?_) (some 48) rfl rfl (by kernel_rfl) (by kernel_rfl) (by kernel_rfl) (fun _ _ _ h => h) (Or.inl ⟨by rfl, ?_⟩) hS11 ?_
          rotate_left
          · rintro W' ⟨s0, s1⟩; go_simp; try with_reducible rfl
          simp only [Act.put, List.setIfInBounds_toArray, List.set_cons_zero, List.set_cons_succ]
          refine takeD (i := 10) (v := ?_) (some 49) rfl rfl (by kernel_rfl) (by kernel_rfl) (by kernel_rfl) (fun _ _ _ h => h) (Or.inl ⟨by rfl, ?_⟩) hS11 ?_
          rotate_left
          · rintro W' ⟨s0, s1⟩; go_simp; try with_reducible rfl
          simp only [Act.put, List.setIfInBounds_toArray, List.set_cons_zero, List.set_cons_succ]
          refine wpAnyH_ready (rs := [12]) (by kernel_rfl) (by simp) (AllReadyH.cons rfl (fun KK hK => ?_) (AllReadyH.nil))
          · go_simp
            obtain ⟨f12, RW12, n91, oo⟩ := RW11.box4 (9, 1) hB11 26 (.int .i64 0) (.slice none 0 0) (.slice none 0 0) (.slice none 0 0)
            replace n02 := (oo (0, 2) (by decide)).trans n02
            replace n03 := (oo (0, 3) (by decide)).trans n03
            replace n90 := (oo (9, 0) (by decide)).trans n90
            replace n10 := (oo (1, 0) (by decide)).trans n10
            replace n11 := (oo (1, 1) (by decide)).trans n11
            replace n20 := (oo (2, 0) (by decide)).trans n20
            replace n21 := (oo (2, 1) (by decide)).trans n21
            replace n30 := (oo (3, 0) (by decide)).trans n30
            replace n31 := (oo (3, 1) (by decide)).trans n31
            have bb := belowAlloc W11 (.cells #[.int .i64 0, .slice none 0 0, .slice none 0 0, .slice none 0 0] 26)
            obtain ⟨gb10, hgb10⟩ : ∃ g, W11.heap.size = g := ⟨_, rfl⟩
            obtain ⟨W12, hW12⟩ : ∃ W' : World, W11.alloc (.cells #[.int .i64 0, .slice none 0 0, .slice none 0 0, .slice none 0 0] 26) = W' := ⟨_, rfl⟩
            have lgb10 : w2.heap.size ≤ gb10 := by rw [← hgb10]; exact b211.size
            have bW12 := bW11.trans (bb.mono hB11)
            have b212 := Below.step b211 bb
            rw [hW12] at RW12 bW12 b212 bb
            have hB12 := bW12.size
            have hS12 : W12.cell? ⟨w.heap.size, 0, none⟩ = some (.int .i64 K) ∧ W12.cell? ra = some (.int .i64 v) := ⟨by rw [b212.cell hlow.1, ← b211.cell hlow.1]; exact hS11.1, by rw [b212.cell hlow.2, ← b211.cell hlow.2]; exact hS11.2⟩
            rw [hW12, hgb10]
            rw [hgb10] at n91
            replace hW12 := Lib.hid hW12
            replace hgb10 := Lib.hid hgb10
            refine hK.out _ _ hS12 fun _ => ?_
            clear hK KK bb RW11 oo
            obtain ⟨t0, t1, t2, t3⟩ := RW12.cells4 n90
            have ft0 := RW12.frz4 n90 0
            have ft1 := RW12.frz4 n90 1
            have ft2 := RW12.frz4 n90 2
            have ft3 := RW12.frz4 n90 3
            have lt := (RW12.low4 n90)
            obtain ⟨f13, RW13, mm, oo⟩ := RW12.all4 n90 (.int .i64 0) (.slice aLa aLn aLc) (.slice aCa aCn aCc) (.slice aQa aQn aQc)
            replace n02 := (oo (0, 2) (by decide)).trans n02
            replace n03 := (oo (0, 3) (by decide)).trans n03
            replace n10 := (oo (1, 0) (by decide)).trans n10
            replace n11 := (oo (1, 1) (by decide)).trans n11
            replace n20 := (oo (2, 0) (by decide)).trans n20
            replace n21 := (oo (2, 1) (by decide)).trans n21
            replace n30 := (oo (3, 0) (by decide)).trans n30
            replace n31 := (oo (3, 1) (by decide)).trans n31
            replace n91 := (oo (9, 1) (by decide)).trans n91
            clear n90
            have n90 := mm
            have bW13 := Below.all4 (g := gb9) bW12 lt.1 (.int .i64 0) (.slice aLa aLn aLc) (.slice aCa aCn aCc) (.slice aQa aQn aQc)
            have b213 := Below.all4 (g := gb9) b212 lgb9 (.int .i64 0) (.slice aLa aLn aLc) (.slice aCa aCn aCc) (.slice aQa aQn aQc)
            obtain ⟨W13, hW13⟩ : ∃ W' : World, (((W12.setCell ⟨gb9, 0, none⟩ (.int .i64 0)).setCell ⟨gb9, 1, none⟩ (.slice aLa aLn aLc)).setCell ⟨gb9, 2, none⟩ (.slice aCa aCn aCc)).setCell ⟨gb9, 3, none⟩ (.slice aQa aQn aQc) = W' := ⟨_, rfl⟩
            rw [hW13] at RW13 bW13 b213
            have hS13 : W13.cell? ⟨w.heap.size, 0, none⟩ = some (.int .i64 K) ∧ W13.cell? ra = some (.int .i64 v) := ⟨by rw [b213.cell hlow.1, ← b212.cell hlow.1]; exact hS12.1, by rw [b213.cell hlow.2, ← b212.cell hlow.2]; exact hS12.2⟩
            replace hW13 := Lib.hid hW13
            refine wpAnyH_ready (rs := [13]) (by kernel_rfl) (by simp) (AllReadyH.cons rfl (fun KK hK => ?_) AllReadyH.nil)
            go_simp
            rw [hW13.out]
            refine hK.out _ _ hS13 fun _ => ?_
            clear hK KK t0 t1 t2 t3 ft0 ft1 ft2 ft3 mm oo lt RW12 hW13
            obtain ⟨t0, t1, t2, t3⟩ := RW13.cells4 n91
            have ft0 := RW13.frz4 n91 0
            have ft1 := RW13.frz4 n91 1
            have ft2 := RW13.frz4 n91 2
            have ft3 := RW13.frz4 n91 3
            have lt := (RW13.low4 n91)
            obtain ⟨f14, RW14, mm, oo⟩ := RW13.all4 n91 (.int .i64 0) (.slice bLa bLn bLc) (.slice bCa bCn bCc) (.slice bQa bQn bQc)
            replace n02 := (oo (0, 2) (by decide)).trans n02
            replace n03 := (oo (0, 3) (by decide)).trans n03
            replace n90 := (oo (9, 0) (by decide)).trans n90
            replace n10 := (oo (1, 0) (by decide)).trans n10
            replace n11 := (oo (1, 1) (by decide)).trans n11
            replace n20 := (oo (2, 0) (by decide)).trans n20
            replace n21 := (oo (2, 1) (by decide)).trans n21
            replace n30 := (oo (3, 0) (by decide)).trans n30
            replace n31 := (oo (3, 1) (by decide)).trans n31
            clear n91
            have n91 := mm
            have bW14 := Below.all4 (g := gb10) bW13 lt.1 (.int .i64 0) (.slice bLa bLn bLc) (.slice bCa bCn bCc) (.slice bQa bQn bQc)
            have b214 := Below.all4 (g := gb10) b213 lgb10 (.int .i64 0) (.slice bLa bLn bLc) (.slice bCa bCn bCc) (.slice bQa bQn bQc)
            obtain ⟨W14, hW14⟩ : ∃ W' : World, (((W13.setCell ⟨gb10, 0, none⟩ (.int .i64 0)).setCell ⟨gb10, 1, none⟩ (.slice bLa bLn bLc)).setCell ⟨gb10, 2, none⟩ (.slice bCa bCn bCc)).setCell ⟨gb10, 3, none⟩ (.slice bQa bQn bQc) = W' := ⟨_, rfl⟩
            rw [hW14] at RW14 bW14 b214
            have hS14 : W14.cell? ⟨w.heap.size, 0, none⟩ = some (.int .i64 K) ∧ W14.cell? ra = some (.int .i64 v) := ⟨by rw [b214.cell hlow.1, ← b213.cell hlow.1]; exact hS13.1, by rw [b214.cell hlow.2, ← b213.cell hlow.2]; exact hS13.2⟩
            replace hW14 := Lib.hid hW14
            refine wpAnyH_ready (rs := [14]) (by kernel_rfl) (by simp) (AllReadyH.cons rfl (fun KK hK => ?_) AllReadyH.nil)
            go_simp
            rw [hW14.out]
            refine hK.out _ _ hS14 fun _ => ?_
            clear hK KK t0 t1 t2 t3 ft0 ft1 ft2 ft3 mm oo lt RW13 hW14
            refine takeD (i := 15) (v := ?_) (some 7) rfl rfl (by kernel_rfl) (by kernel_rfl) (by kernel_rfl) (fun _ _ _ h => h) (Or.inl ⟨by rfl, ?_⟩) hS14 ?_
            rotate_left
            · rintro W' ⟨s0, s1⟩; go_simp; try with_reducible rfl
            simp only [Act.put, List.setIfInBounds_toArray, List.set_cons_zero, List.set_cons_succ]
            refine wpAnyH_done (by kernel_rfl) ?_ _
            refine NoPanic.normal ?_
            replace n02 := Lib.hid n02
            replace n03 := Lib.hid n03
            replace n90 := Lib.hid n90
            replace n91 := Lib.hid n91
            replace n10 := Lib.hid n10
            replace n11 := Lib.hid n11
            replace n20 := Lib.hid n20
            replace n21 := Lib.hid n21
            replace n30 := Lib.hid n30
            replace n31 := Lib.hid n31
            replace RW14 := Lib.hid RW14
            go_wp2
            go_meet
            case rel => exact ⟨rfl, gb9, gb10, L', C', Q', _, _, _, _, _, _, f14, rfl, rfl, bW14, hwi.out, RW14.out, n02.out, n03.out, n90.out, n91.out, n10.out, n11.out, n20.out, n21.out, n30.out, n31.out⟩
        · go_simp
          obtain ⟨f15, RW15, n91, oo⟩ := RW10.box4 (9, 1) hB10 26 (.int .i64 0) (.slice none 0 0) (.slice none 0 0) (.slice none 0 0)
          replace n02 := (oo (0, 2) (by decide)).trans n02
          replace n03 := (oo (0, 3) (by decide)).trans n03
          replace n90 := (oo (9, 0) (by decide)).trans n90
          have bb := belowAlloc W10 (.cells #[.int .i64 0, .slice none 0 0, .slice none 0 0, .slice none 0 0] 26)
          obtain ⟨gb10, hgb10⟩ : ∃ g, W10.heap.size = g := ⟨_, rfl⟩
          obtain ⟨W15, hW15⟩ : ∃ W' : World, W10.alloc (.cells #[.int .i64 0, .slice none 0 0, .slice none 0 0, .slice none 0 0] 26) = W' := ⟨_, rfl⟩
          have lgb10 : w2.heap.size ≤ gb10 := by rw [← hgb10]; exact b210.size
          have bW15 := bW10.trans (bb.mono hB10)
          have b215 := Below.step b210 bb
          rw [hW15] at RW15 bW15 b215 bb
          have hB15 := bW15.size
          have hS15 : W15.cell? ⟨w.heap.size, 0, none⟩ = some (.int .i64 K) ∧ W15.cell? ra = some (.int .i64 v) := ⟨by rw [b215.cell hlow.1, ← b210.cell hlow.1]; exact hS10.1, by rw [b215.cell hlow.2, ← b210.cell hlow.2]; exact hS10.2⟩
          rw [hW15, hgb10]
          rw [hgb10] at n91
          replace hW15 := Lib.hid hW15
          replace hgb10 := Lib.hid hgb10
          refine hK.out _ _ hS15 fun _ => ?_
          clear hK KK bb RW10 oo
          refine wpAnyH_ready (rs := [6]) (by kernel_rfl) (by simp) (AllReadyH.cons rfl (fun KK hK => ?_) (AllReadyH.nil))
          · go_simp
            refine (hwv.out W15 (hG2.out.below b215) (hL2.out.below b215)).mono ?_
            rintro e W16 ⟨x, y, z, rfl, bb, hz, L', C', Q', aL, aC, aQ, bL, bC, bQ, hwi, rfl, rfl, fw, Rw, k10, k11, k20, k21, k30, k31⟩
            subst hz
            obtain ⟨aLa, aLn, aLc, haL⟩ := (Rw.ownI k10).at.shape
            subst haL
            obtain ⟨bLa, bLn, bLc, hbL⟩ := (Rw.ownI k11).at.shape
            subst hbL
            obtain ⟨aCa, aCn, aCc, haC⟩ := (Rw.ownI k20).at.shape
            subst haC
            obtain ⟨bCa, bCn, bCc, hbC⟩ := (Rw.ownI k21).at.shape
            subst hbC
            obtain ⟨aQa, aQn, aQc, haQ⟩ := (Rw.ownI k30).at.shape
            subst haQ
            obtain ⟨bQa, bQn, bQc, hbQ⟩ := (Rw.ownI k31).at.shape
            subst hbQ
            obtain ⟨f16, RW16, sel, oth⟩ := RW15.merge (fun i => decide (i.1 = 1 ∨ i.1 = 2 ∨ i.1 = 3)) bb Rw hB15
            replace n02 := (oth (0, 2) (by decide)).trans n02
            replace n03 := (oth (0, 3) (by decide)).trans n03
            replace n90 := (oth (9, 0) (by decide)).trans n90
            replace n91 := (oth (9, 1) (by decide)).trans n91
            have n10 := (sel (1, 0) (by decide)).trans k10
            have n11 := (sel (1, 1) (by decide)).trans k11
            have n20 := (sel (2, 0) (by decide)).trans k20
            have n21 := (sel (2, 1) (by decide)).trans k21
            have n30 := (sel (3, 0) (by decide)).trans k30
            have n31 := (sel (3, 1) (by decide)).trans k31
            replace hwi := Lib.hid hwi
            clear sel oth k10 k11 k20 k21 k30 k31 Rw
            have bW16 := bW15.trans (bb.mono hB15)
            have b216 := Below.step b215 bb
            have hB16 := bW16.size
            have hS16 : W16.cell? ⟨w.heap.size, 0, none⟩ = some (.int .i64 K) ∧ W16.cell? ra = some (.int .i64 v) := ⟨by rw [b216.cell hlow.1, ← b215.cell hlow.1]; exact hS15.1, by rw [b216.cell hlow.2, ← b215.cell hlow.2]; exact hS15.2⟩
            refine hK.out _ _ hS16 fun _ => ?_
            clear hK KK bb RW15
            refine takeD (i := 7) (v := ?_) (some 39) rfl rfl (by kernel_rfl) (by kernel_rfl) (by kernel_rfl) (fun _ _ _ h => h) (Or.inl ⟨by rfl, ?_⟩) hS16 ?_
            rotate_left
            · rintro W' ⟨s0, s1⟩; go_simp; try with_reducible rfl
            simp only [Act.put, List.setIfInBounds_toArray, List.set_cons_zero, List.set_cons_succ]
            refine takeD (i := 8) (v := ?_) (some 47) rfl rfl (by kernel_rfl) (by kernel_rfl) (by kernel_rfl) (fun _ _ _ h => h) (Or.inl ⟨by rfl, ?_⟩) hS16 ?_
            rotate_left
            · rintro W' ⟨s0, s1⟩; go_simp; try with_reducible rfl
            simp only [Act.put, List.setIfInBounds_toArray, List.set_cons_zero, List.set_cons_succ]
            refine takeD (i := 9) (v := ?_) (some 48) rfl rfl (by kernel_rfl) (by kernel_rfl) (by kernel_rfl) (fun _ _ _ h => h) (Or.inl ⟨by rfl, ?_⟩) hS16 ?_
            rotate_left
            · rintro W' ⟨s0, s1⟩; go_simp; try with_reducible rfl
            simp only [Act.put, List.setIfInBounds_toArray, List.set_cons_zero, List.set_cons_succ]
            refine takeD (i := 10) (v := ?_) (some 49) rfl rfl (by kernel_rfl) (by kernel_rfl) (by kernel_rfl) (fun _ _ _ h => h) (Or.inl ⟨by rfl, ?_⟩) hS16 ?_
            rotate_left
            · rintro W' ⟨s0, s1⟩; go_simp; try with_reducible rfl
            simp only [Act.put, List.setIfInBounds_toArray, List.set_cons_zero, List.set_cons_succ]
            obtain ⟨t0, t1, t2, t3⟩ := RW16.cells4 n90
            have ft0 := RW16.frz4 n90 0
            have ft1 := RW16.frz4 n90 1
            have ft2 := RW16.frz4 n90 2
            have ft3 := RW16.frz4 n90 3
            have lt := (RW16.low4 n90)
            obtain ⟨f17, RW17, mm, oo⟩ := RW16.all4 n90 (.int .i64 0) (.slice aLa aLn aLc) (.slice aCa aCn aCc) (.slice aQa aQn aQc)
            replace n02 := (oo (0, 2) (by decide)).trans n02
            replace n03 := (oo (0, 3) (by decide)).trans n03
            replace n91 := (oo (9, 1) (by decide)).trans n91
            replace n10 := (oo (1, 0) (by decide)).trans n10
            replace n11 := (oo (1, 1) (by decide)).trans n11
            replace n20 := (oo (2, 0) (by decide)).trans n20
            replace n21 := (oo (2, 1) (by decide)).trans n21
            replace n30 := (oo (3, 0) (by decide)).trans n30
            replace n31 := (oo (3, 1) (by decide)).trans n31
            clear n90
            have n90 := mm
            have bW17 := Below.all4 (g := gb9) bW16 lt.1 (.int .i64 0) (.slice aLa aLn aLc) (.slice aCa aCn aCc) (.slice aQa aQn aQc)
            have b217 := Below.all4 (g := gb9) b216 lgb9 (.int .i64 0) (.slice aLa aLn aLc) (.slice aCa aCn aCc) (.slice aQa aQn aQc)
            obtain ⟨W17, hW17⟩ : ∃ W' : World, (((W16.setCell ⟨gb9, 0, none⟩ (.int .i64 0)).setCell ⟨gb9, 1, none⟩ (.slice aLa aLn aLc)).setCell ⟨gb9, 2, none⟩ (.slice aCa aCn aCc)).setCell ⟨gb9, 3, none⟩ (.slice aQa aQn aQc) = W' := ⟨_, rfl⟩
            rw [hW17] at RW17 bW17 b217
            have hS17 : W17.cell? ⟨w.heap.size, 0, none⟩ = some (.int .i64 K) ∧ W17.cell? ra = some (.int .i64 v) := ⟨by rw [b217.cell hlow.1, ← b216.cell hlow.1]; exact hS16.1, by rw [b217.cell hlow.2, ← b216.cell hlow.2]; exact hS16.2⟩
            replace hW17 := Lib.hid hW17
            refine wpAnyH_ready (rs := [13]) (by kernel_rfl) (by simp) (AllReadyH.cons rfl (fun KK hK => ?_) AllReadyH.nil)
            go_simp
            rw [hW17.out]
            refine hK.out _ _ hS17 fun _ => ?_
            clear hK KK t0 t1 t2 t3 ft0 ft1 ft2 ft3 mm oo lt RW16 hW17
            obtain ⟨t0, t1, t2, t3⟩ := RW17.cells4 n91
            have ft0 := RW17.frz4 n91 0
            have ft1 := RW17.frz4 n91 1
            have ft2 := RW17.frz4 n91 2
            have ft3 := RW17.frz4 n91 3
            have lt := (RW17.low4 n91)
            obtain ⟨f18, RW18, mm, oo⟩ := RW17.all4 n91 (.int .i64 0) (.slice bLa bLn bLc) (.slice bCa bCn bCc) (.slice bQa bQn bQc)
            replace n02 := (oo (0, 2) (by decide)).trans n02
            replace n03 := (oo (0, 3) (by decide)).trans n03
            replace n90 := (oo (9, 0) (by decide)).trans n90
            replace n10 := (oo (1, 0) (by decide)).trans n10
            replace n11 := (oo (1, 1) (by decide)).trans n11
            replace n20 := (oo (2, 0) (by decide)).trans n20
            replace n21 := (oo (2, 1) (by decide)).trans n21
            replace n30 := (oo (3, 0) (by decide)).trans n30
            replace n31 := (oo (3, 1) (by decide)).trans n31
            clear n91
            have n91 := mm
            have bW18 := Below.all4 (g := gb10) bW17 lt.1 (.int .i64 0) (.slice bLa bLn bLc) (.slice bCa bCn bCc) (.slice bQa bQn bQc)
            have b218 := Below.all4 (g := gb10) b217 lgb10 (.int .i64 0) (.slice bLa bLn bLc) (.slice bCa bCn bCc) (.slice bQa bQn bQc)
            obtain ⟨W18, hW18⟩ : ∃ W' : World, (((W17.setCell ⟨gb10, 0, none⟩ (.int .i64 0)).setCell ⟨gb10, 1, none⟩ (.slice bLa bLn bLc)).setCell ⟨gb10, 2, none⟩ (.slice bCa bCn bCc)).setCell ⟨gb10, 3, none⟩ (.slice bQa bQn bQc) = W' := ⟨_, rfl⟩
            rw [hW18] at RW18 bW18 b218
            have hS18 : W18.cell? ⟨w.heap.size, 0, none⟩ = some (.int .i64 K) ∧ W18.cell? ra = some (.int .i64 v) := ⟨by rw [b218.cell hlow.1, ← b217.cell hlow.1]; exact hS17.1, by rw [b218.cell hlow.2, ← b217.cell hlow.2]; exact hS17.2⟩
            replace hW18 := Lib.hid hW18
            refine wpAnyH_ready (rs := [14]) (by kernel_rfl) (by simp) (AllReadyH.cons rfl (fun KK hK => ?_) AllReadyH.nil)
            go_simp
            rw [hW18.out]
            refine hK.out _ _ hS18 fun _ => ?_
            clear hK KK t0 t1 t2 t3 ft0 ft1 ft2 ft3 mm oo lt RW17 hW18
            refine takeD (i := 15) (v := ?_) (some 7) rfl rfl (by kernel_rfl) (by kernel_rfl) (by kernel_rfl) (fun _ _ _ h => h) (Or.inl ⟨by rfl, ?_⟩) hS18 ?_
            rotate_left
            · rintro W' ⟨s0, s1⟩; go_simp; try with_reducible rfl
            simp only [Act.put, List.setIfInBounds_toArray, List.set_cons_zero, List.set_cons_succ]
            refine wpAnyH_done (by kernel_rfl) ?_ _
            refine NoPanic.normal ?_
            replace n02 := Lib.hid n02
            replace n03 := Lib.hid n03
            replace n90 := Lib.hid n90
            replace n91 := Lib.hid n91
            replace n10 := Lib.hid n10
            replace n11 := Lib.hid n11
            replace n20 := Lib.hid n20
            replace n21 := Lib.hid n21
            replace n30 := Lib.hid n30
            replace n31 := Lib.hid n31
            replace RW18 := Lib.hid RW18
            go_wp2
            go_meet
            case rel => exact ⟨rfl, gb9, gb10, L', C', Q', _, _, _, _, _, _, f18, rfl, rfl, bW18, hwi.out, RW18.out, n02.out, n03.out, n90.out, n91.out, n10.out, n11.out, n20.out, n21.out, n30.out, n31.out⟩
      · go_simp
        obtain ⟨f19, RW19, n91, oo⟩ := RW0.box4 (9, 1) hB0 26 (.int .i64 0) (.slice none 0 0) (.slice none 0 0) (.slice none 0 0)
        replace n02 := (oo (0, 2) (by decide)).trans n02
        replace n03 := (oo (0, 3) (by decide)).trans n03
        have bb := belowAlloc W0 (.cells #[.int .i64 0, .slice none 0 0, .slice none 0 0, .slice none 0 0] 26)
        obtain ⟨gb10, hgb10⟩ : ∃ g, W0.heap.size = g := ⟨_, rfl⟩
        obtain ⟨W19, hW19⟩ : ∃ W' : World, W0.alloc (.cells #[.int .i64 0, .slice none 0 0, .slice none 0 0, .slice none 0 0] 26) = W' := ⟨_, rfl⟩
        have lgb10 : w2.heap.size ≤ gb10 := by rw [← hgb10]; exact b20.size
        have bW19 := bW0.trans (bb.mono hB0)
        have b219 := Below.step b20 bb
        rw [hW19] at RW19 bW19 b219 bb
        have hB19 := bW19.size
        have hS19 : W19.cell? ⟨w.heap.size, 0, none⟩ = some (.int .i64 K) ∧ W19.cell? ra = some (.int .i64 v) := ⟨by rw [b219.cell hlow.1, ← b20.cell hlow.1]; exact hS0.1, by rw [b219.cell hlow.2, ← b20.cell hlow.2]; exact hS0.2⟩
        rw [hW19, hgb10]
        rw [hgb10] at n91
        replace hW19 := Lib.hid hW19
        replace hgb10 := Lib.hid hgb10
        refine hK.out _ _ hS19 fun _ => ?_
        clear hK KK bb RW0 oo
        refine wpAnyH_ready (rs := [6, 11]) (by kernel_rfl) (by simp) (AllReadyH.cons rfl (fun KK hK => ?_) (AllReadyH.cons rfl (fun KK hK => ?_) (AllReadyH.nil)))
        · go_simp
          refine (hwv.out W19 (hG2.out.below b219) (hL2.out.below b219)).mono ?_
          rintro e W20 ⟨x, y, z, rfl, bb, hz, L', C', Q', aL, aC, aQ, bL, bC, bQ, hwi, rfl, rfl, fw, Rw, k10, k11, k20, k21, k30, k31⟩
          subst hz
          obtain ⟨aLa, aLn, aLc, haL⟩ := (Rw.ownI k10).at.shape
          subst haL
          obtain ⟨bLa, bLn, bLc, hbL⟩ := (Rw.ownI k11).at.shape
          subst hbL
          obtain ⟨aCa, aCn, aCc, haC⟩ := (Rw.ownI k20).at.shape
          subst haC
          obtain ⟨bCa, bCn, bCc, hbC⟩ := (Rw.ownI k21).at.shape
          subst hbC
          obtain ⟨aQa, aQn, aQc, haQ⟩ := (Rw.ownI k30).at.shape
          subst haQ
          obtain ⟨bQa, bQn, bQc, hbQ⟩ := (Rw.ownI k31).at.shape
          subst hbQ
          obtain ⟨f20, RW20, sel, oth⟩ := RW19.merge (fun i => decide (i.1 = 1 ∨ i.1 = 2 ∨ i.1 = 3)) bb Rw hB19
          replace n02 := (oth (0, 2) (by decide)).trans n02
          replace n03 := (oth (0, 3) (by decide)).trans n03
          replace n91 := (oth (9, 1) (by decide)).trans n91
          have n10 := (sel (1, 0) (by decide)).trans k10
          have n11 := (sel (1, 1) (by decide)).trans k11
          have n20 := (sel (2, 0) (by decide)).trans k20
          have n21 := (sel (2, 1) (by decide)).trans k21
          have n30 := (sel (3, 0) (by decide)).trans k30
          have n31 := (sel (3, 1) (by decide)).trans k31
          replace hwi := Lib.hid hwi
          clear sel oth k10 k11 k20 k21 k30 k31 Rw
          have bW20 := bW19.trans (bb.mono hB19)
          have b220 := Below.step b219 bb
          have hB20 := bW20.size
          have hS20 : W20.cell? ⟨w.heap.size, 0, none⟩ = some (.int .i64 K) ∧ W20.cell? ra = some (.int .i64 v) := ⟨by rw [b220.cell hlow.1, ← b219.cell hlow.1]; exact hS19.1, by rw [b220.cell hlow.2, ← b219.cell hlow.2]; exact hS19.2⟩
          refine hK.out _ _ hS20 fun _ => ?_
          clear hK KK bb RW19
          refine takeD (i := 7) (v := ?_) (some 39) rfl rfl (by kernel_rfl) (by kernel_rfl) (by kernel_rfl) (fun _ _ _ h => h) (Or.inl ⟨by rfl, ?_⟩) hS20 ?_
          rotate_left
          · rintro W' ⟨s0, s1⟩; go_simp; try with_reducible rfl
          simp only [Act.put, List.setIfInBounds_toArray, List.set_cons_zero, List.set_cons_succ]
          refine takeD (i := 8) (v := ?_) (some 47) rfl rfl (by kernel_rfl) (by kernel_rfl) (by kernel_rfl) (fun _ _ _ h => h) (Or.inl ⟨by rfl, ?_⟩) hS20 ?_
          rotate_left
          · rintro W' ⟨s0, s1⟩; go_simp; try with_reducible rfl
          simp only [Act.put, List.setIfInBounds_toArray, List.set_cons_zero, List.set_cons_succ]
          refine takeD (i := 9) (v := ?_) (some 48) rfl rfl (by kernel_rfl) (by kernel_rfl) (by kernel_rfl) (fun _ _ _ h => h) (Or.inl ⟨by rfl, ?_⟩) hS20 ?_
          rotate_left
          · rintro W' ⟨s0, s1⟩; go_simp; try with_reducible rfl
          simp only [Act.put, List.setIfInBounds_toArray, List.set_cons_zero, List.set_cons_succ]
          refine takeD (i := 10) (v := ?_) (some 49) rfl rfl (by kernel_rfl) (by kernel_rfl) (by kernel_rfl) (fun _ _ _ h => h) (Or.inl ⟨by rfl, ?_⟩) hS20 ?_
          rotate_left
          · rintro W' ⟨s0, s1⟩; go_simp; try with_reducible rfl
          simp only [Act.put, List.setIfInBounds_toArray, List.set_cons_zero, List.set_cons_succ]
          refine wpAnyH_ready (rs := [11]) (by kernel_rfl) (by simp) (AllReadyH.cons rfl (fun KK hK => ?_) (AllReadyH.nil))
          · go_simp
            obtain ⟨f21, RW21, n90, oo⟩ := RW20.box4 (9, 0) hB20 26 (.int .i64 0) (.slice none 0 0) (.slice none 0 0) (.slice none 0 0)
            replace n02 := (oo (0, 2) (by decide)).trans n02
            replace n03 := (oo (0, 3) (by decide)).trans n03
            replace n91 := (oo (9, 1) (by decide)).trans n91
            replace n10 := (oo (1, 0) (by decide)).trans n10
            replace n11 := (oo (1, 1) (by decide)).trans n11
            replace n20 := (oo (2, 0) (by decide)).trans n20
            replace n21 := (oo (2, 1) (by decide)).trans n21
            replace n30 := (oo (3, 0) (by decide)).trans n30
            replace n31 := (oo (3, 1) (by decide)).trans n31
            have bb := belowAlloc W20 (.cells #[.int .i64 0, .slice none 0 0, .slice none 0 0, .slice none 0 0] 26)
            obtain ⟨gb9, hgb9⟩ : ∃ g, W20.heap.size = g := ⟨_, rfl⟩
            obtain ⟨W21, hW21⟩ : ∃ W' : World, W20.alloc (.cells #[.int .i64 0, .slice none 0 0, .slice none 0 0, .slice none 0 0] 26) = W' := ⟨_, rfl⟩
            have lgb9 : w2.heap.size ≤ gb9 := by rw [← hgb9]; exact b220.size
            have bW21 := bW20.trans (bb.mono hB20)
            have b221 := Below.step b220 bb
            rw [hW21] at RW21 bW21 b221 bb
            have hB21 := bW21.size
            have hS21 : W21.cell? ⟨w.heap.size, 0, none⟩ = some (.int .i64 K) ∧ W21.cell? ra = some (.int .i64 v) := ⟨by rw [b221.cell hlow.1, ← b220.cell hlow.1]; exact hS20.1, by rw [b221.cell hlow.2, ← b220.cell hlow.2]; exact hS20.2⟩
            rw [hW21, hgb9]
            rw [hgb9] at n90
            replace hW21 := Lib.hid hW21
            replace hgb9 := Lib.hid hgb9
            refine hK.out _ _ hS21 fun _ => ?_
            clear hK KK bb RW20 oo
            obtain ⟨t0, t1, t2, t3⟩ := RW21.cells4 n90
            have ft0 := RW21.frz4 n90 0
            have ft1 := RW21.frz4 n90 1
            have ft2 := RW21.frz4 n90 2
            have ft3 := RW21.frz4 n90 3
            have lt := (RW21.low4 n90)
            obtain ⟨f22, RW22, mm, oo⟩ := RW21.all4 n90 (.int .i64 0) (.slice aLa aLn aLc) (.slice aCa aCn aCc) (.slice aQa aQn aQc)
            replace n02 := (oo (0, 2) (by decide)).trans n02
            replace n03 := (oo (0, 3) (by decide)).trans n03
            replace n91 := (oo (9, 1) (by decide)).trans n91
            replace n10 := (oo (1, 0) (by decide)).trans n10
            replace n11 := (oo (1, 1) (by decide)).trans n11
            replace n20 := (oo (2, 0) (by decide)).trans n20
            replace n21 := (oo (2, 1) (by decide)).trans n21
            replace n30 := (oo (3, 0) (by decide)).trans n30
            replace n31 := (oo (3, 1) (by decide)).trans n31
            clear n90
            have n90 := mm
            have bW22 := Below.all4 (g := gb9) bW21 lt.1 (.int .i64 0) (.slice aLa aLn aLc) (.slice aCa aCn aCc) (.slice aQa aQn aQc)
            have b222 := Below.all4 (g := gb9) b221 lgb9 (.int .i64 0) (.slice aLa aLn aLc) (.slice aCa aCn aCc) (.slice aQa aQn aQc)
            obtain ⟨W22, hW22⟩ : ∃ W' : World, (((W21.setCell ⟨gb9, 0, none⟩ (.int .i64 0)).setCell ⟨gb9, 1, none⟩ (.slice aLa aLn aLc)).setCell ⟨gb9, 2, none⟩ (.slice aCa aCn aCc)).setCell ⟨gb9, 3, none⟩ (.slice aQa aQn aQc) = W' := ⟨_, rfl⟩
            rw [hW22] at RW22 bW22 b222
            have hS22 : W22.cell? ⟨w.heap.size, 0, none⟩ = some (.int .i64 K) ∧ W22.cell? ra = some (.int .i64 v) := ⟨by rw [b222.cell hlow.1, ← b221.cell hlow.1]; exact hS21.1, by rw [b222.cell hlow.2, ← b221.cell hlow.2]; exact hS21.2⟩
            replace hW22 := Lib.hid hW22
            refine wpAnyH_ready (rs := [13]) (by kernel_rfl) (by simp) (AllReadyH.cons rfl (fun KK hK => ?_) AllReadyH.nil)
            go_simp
            rw [hW22.out]
            refine hK.out _ _ hS22 fun _ => ?_
            clear hK KK t0 t1 t2 t3 ft0 ft1 ft2 ft3 mm oo lt RW21 hW22
            obtain ⟨t0, t1, t2, t3⟩ := RW22.cells4 n91
            have ft0 := RW22.frz4 n91 0
            have ft1 := RW22.frz4 n91 1
            have ft2 := RW22.frz4 n91 2
            have ft3 := RW22.frz4 n91 3
            have lt := (RW22.low4 n91)
            obtain ⟨f23, RW23, mm, oo⟩ := RW22.all4 n91 (.int .i64 0) (.slice bLa bLn bLc) (.slice bCa bCn bCc) (.slice bQa bQn bQc)
            replace n02 := (oo (0, 2) (by decide)).trans n02
            replace n03 := (oo (0, 3) (by decide)).trans n03
            replace n10 := (oo (1, 0) (by decide)).trans n10
            replace n11 := (oo (1, 1) (by decide)).trans n11
            replace n20 := (oo (2, 0) (by decide)).trans n20
            replace n21 := (oo (2, 1) (by decide)).trans n21
            replace n30 := (oo (3, 0) (by decide)).trans n30
            replace n31 := (oo (3, 1) (by decide)).trans n31
            replace n90 := (oo (9, 0) (by decide)).trans n90
            clear n91
            have n91 := mm
            have bW23 := Below.all4 (g := gb10) bW22 lt.1 (.int .i64 0) (.slice bLa bLn bLc) (.slice bCa bCn bCc) (.slice bQa bQn bQc)
            have b223 := Below.all4 (g := gb10) b222 lgb10 (.int .i64 0) (.slice bLa bLn bLc) (.slice bCa bCn bCc) (.slice bQa bQn bQc)
            obtain ⟨W23, hW23⟩ : ∃ W' : World, (((W22.setCell ⟨gb10, 0, none⟩ (.int .i64 0)).setCell ⟨gb10, 1, none⟩ (.slice bLa bLn bLc)).setCell ⟨gb10, 2, none⟩ (.slice bCa bCn bCc)).setCell ⟨gb10, 3, none⟩ (.slice bQa bQn bQc) = W' := ⟨_, rfl⟩
            rw [hW23] at RW23 bW23 b223
            have hS23 : W23.cell? ⟨w.heap.size, 0, none⟩ = some (.int .i64 K) ∧ W23.cell? ra = some (.int .i64 v) := ⟨by rw [b223.cell hlow.1, ← b222.cell hlow.1]; exact hS22.1, by rw [b223.cell hlow.2, ← b222.cell hlow.2]; exact hS22.2⟩
            replace hW23 := Lib.hid hW23
            refine wpAnyH_ready (rs := [14]) (by kernel_rfl) (by simp) (AllReadyH.cons rfl (fun KK hK => ?_) AllReadyH.nil)
            go_simp
            rw [hW23.out]
            refine hK.out _ _ hS23 fun _ => ?_
            clear hK KK t0 t1 t2 t3 ft0 ft1 ft2 ft3 mm oo lt RW22 hW23
            refine takeD (i := 15) (v := ?_) (some 7) rfl rfl (by kernel_rfl) (by kernel_rfl) (by kernel_rfl) (fun _ _ _ h => h) (Or.inl ⟨by rfl, ?_⟩) hS23 ?_
            rotate_left
            · rintro W' ⟨s0, s1⟩; go_simp; try with_reducible rfl
            simp only [Act.put, List.setIfInBounds_toArray, List.set_cons_zero, List.set_cons_succ]
            refine wpAnyH_done (by kernel_rfl) ?_ _
            refine NoPanic.normal ?_
            replace n02 := Lib.hid n02
            replace n03 := Lib.hid n03
            replace n90 := Lib.hid n90
            replace n91 := Lib.hid n91
            replace n10 := Lib.hid n10
            replace n11 := Lib.hid n11
            replace n20 := Lib.hid n20
            replace n21 := Lib.hid n21
            replace n30 := Lib.hid n30
            replace n31 := Lib.hid n31
            replace RW23 := Lib.hid RW23
            go_wp2
            go_meet
            case rel => exact ⟨rfl, gb9, gb10, L', C', Q', _, _, _, _, _, _, f23, rfl, rfl, bW23, hwi.out, RW23.out, n02.out, n03.out, n90.out, n91.out, n10.out, n11.out, n20.out, n21.out, n30.out, n31.out⟩
        · go_simp
          obtain ⟨f24, RW24, n90, oo⟩ := RW19.box4 (9, 0) hB19 26 (.int .i64 0) (.slice none 0 0) (.slice none 0 0) (.slice none 0 0)
          replace n02 := (oo (0, 2) (by decide)).trans n02
          replace n03 := (oo (0, 3) (by decide)).trans n03
          replace n91 := (oo (9, 1) (by decide)).trans n91
          have bb := belowAlloc W19 (.cells #[.int .i64 0, .slice none 0 0, .slice none 0 0, .slice none 0 0] 26)
          obtain ⟨gb9, hgb9⟩ : ∃ g, W19.heap.size = g := ⟨_, rfl⟩
          obtain ⟨W24, hW24⟩ : ∃ W' : World, W19.alloc (.cells #[.int .i64 0, .slice none 0 0, .slice none 0 0, .slice none 0 0] 26) = W' := ⟨_, rfl⟩
          have lgb9 : w2.heap.size ≤ gb9 := by rw [← hgb9]; exact b219.size
          have bW24 := bW19.trans (bb.mono hB19)
          have b224 := Below.step b219 bb
          rw [hW24] at RW24 bW24 b224 bb
          have hB24 := bW24.size
          have hS24 : W24.cell? ⟨w.heap.size, 0, none⟩ = some (.int .i64 K) ∧ W24.cell? ra = some (.int .i64 v) := ⟨by rw [b224.cell hlow.1, ← b219.cell hlow.1]; exact hS19.1, by rw [b224.cell hlow.2, ← b219.cell hlow.2]; exact hS19.2⟩
          rw [hW24, hgb9]
          rw [hgb9] at n90
          replace hW24 := Lib.hid hW24
          replace hgb9 := Lib.hid hgb9
          refine hK.out _ _ hS24 fun _ => ?_
          clear hK KK bb RW19 oo
          refine wpAnyH_ready (rs := [6]) (by kernel_rfl) (by simp) (AllReadyH.cons rfl (fun KK hK => ?_) (AllReadyH.nil))
          · go_simp
            refine (hwv.out W24 (hG2.out.below b224) (hL2.out.below b224)).mono ?_
            rintro e W25 ⟨x, y, z, rfl, bb, hz, L', C', Q', aL, aC, aQ, bL, bC, bQ, hwi, rfl, rfl, fw, Rw, k10, k11, k20, k21, k30, k31⟩
            subst hz
            obtain ⟨aLa, aLn, aLc, haL⟩ := (Rw.ownI k10).at.shape
            subst haL
            obtain ⟨bLa, bLn, bLc, hbL⟩ := (Rw.ownI k11).at.shape
            subst hbL
            obtain ⟨aCa, aCn, aCc, haC⟩ := (Rw.ownI k20).at.shape
            subst haC
            obtain ⟨bCa, bCn, bCc, hbC⟩ := (Rw.ownI k21).at.shape
            subst hbC
            obtain ⟨aQa, aQn, aQc, haQ⟩ := (Rw.ownI k30).at.shape
            subst haQ
            obtain ⟨bQa, bQn, bQc, hbQ⟩ := (Rw.ownI k31).at.shape
            subst hbQ
            obtain ⟨f25, RW25, sel, oth⟩ := RW24.merge (fun i => decide (i.1 = 1 ∨ i.1 = 2 ∨ i.1 = 3)) bb Rw hB24
            replace n02 := (oth (0, 2) (by decide)).trans n02
            replace n03 := (oth (0, 3) (by decide)).trans n03
            replace n91 := (oth (9, 1) (by decide)).trans n91
            replace n90 := (oth (9, 0) (by decide)).trans n90
            have n10 := (sel (1, 0) (by decide)).trans k10
            have n11 := (sel (1, 1) (by decide)).trans k11
            have n20 := (sel (2, 0) (by decide)).trans k20
            have n21 := (sel (2, 1) (by decide)).trans k21
            have n30 := (sel (3, 0) (by decide)).trans k30
            have n31 := (sel (3, 1) (by decide)).trans k31
            replace hwi := Lib.hid hwi
            clear sel oth k10 k11 k20 k21 k30 k31 Rw
            have bW25 := bW24.trans (bb.mono hB24)
            have b225 := Below.step b224 bb
            have hB25 := bW25.size
            have hS25 : W25.cell? ⟨w.heap.size, 0, none⟩ = some (.int .i64 K) ∧ W25.cell? ra = some (.int .i64 v) := ⟨by rw [b225.cell hlow.1, ← b224.cell hlow.1]; exact hS24.1, by rw [b225.cell hlow.2, ← b224.cell hlow.2]; exact hS24.2⟩
            refine hK.out _ _ hS25 fun _ => ?_
            clear hK KK bb RW24
            refine takeD (i := 7) (v := ?_) (some 39) rfl rfl (by kernel_rfl) (by kernel_rfl) (by kernel_rfl) (fun _ _ _ h => h) (Or.inl ⟨by rfl, ?_⟩) hS25 ?_
            rotate_left
            · rintro W' ⟨s0, s1⟩; go_simp; try with_reducible rfl
            simp only [Act.put, List.setIfInBounds_toArray, List.set_cons_zero, List.set_cons_succ]
            refine takeD (i := 8) (v := ?_) (some 47) rfl rfl (by kernel_rfl) (by kernel_rfl) (by kernel_rfl) (fun _ _ _ h => h) (Or.inl ⟨by rfl, ?_⟩) hS25 ?_
            rotate_left
            · rintro W' ⟨s0, s1⟩; go_simp; try with_reducible rfl
            simp only [Act.put, List.setIfInBounds_toArray, List.set_cons_zero, List.set_cons_succ]
            refine takeD (i := 9) (v := ?_) (some 48) rfl rfl (by kernel_rfl) (by kernel_rfl) (by kernel_rfl) (fun _ _ _ h => h) (Or.inl ⟨by rfl, ?_⟩) hS25 ?_
            rotate_left
            · rintro W' ⟨s0, s1⟩; go_simp; try with_reducible rfl
            simp only [Act.put, List.setIfInBounds_toArray, List.set_cons_zero, List.set_cons_succ]
            refine takeD (i := 10) (v := ?_) (some 49) rfl rfl (by kernel_rfl) (by kernel_rfl) (by kernel_rfl) (fun _ _ _ h => h) (Or.inl ⟨by rfl, ?_⟩) hS25 ?_
            rotate_left
            · rintro W' ⟨s0, s1⟩; go_simp; try with_reducible rfl
            simp only [Act.put, List.setIfInBounds_toArray, List.set_cons_zero, List.set_cons_succ]
            obtain ⟨t0, t1, t2, t3⟩ := RW25.cells4 n90
            have ft0 := RW25.frz4 n90 0
            have ft1 := RW25.frz4 n90 1
            have ft2 := RW25.frz4 n90 2
            have ft3 := RW25.frz4 n90 3
            have lt := (RW25.low4 n90)
            obtain ⟨f26, RW26, mm, oo⟩ := RW25.all4 n90 (.int .i64 0) (.slice aLa aLn aLc) (.slice aCa aCn aCc) (.slice aQa aQn aQc)
            replace n02 := (oo (0, 2) (by decide)).trans n02
            replace n03 := (oo (0, 3) (by decide)).trans n03
            replace n91 := (oo (9, 1) (by decide)).trans n91
            replace n10 := (oo (1, 0) (by decide)).trans n10
            replace n11 := (oo (1, 1) (by decide)).trans n11
            replace n20 := (oo (2, 0) (by decide)).trans n20
            replace n21 := (oo (2, 1) (by decide)).trans n21
            replace n30 := (oo (3, 0) (by decide)).trans n30
            replace n31 := (oo (3, 1) (by decide)).trans n31
            clear n90
            have n90 := mm
            have bW26 := Below.all4 (g := gb9) bW25 lt.1 (.int .i64 0) (.slice aLa aLn aLc) (.slice aCa aCn aCc) (.slice aQa aQn aQc)
            have b226 := Below.all4 (g := gb9) b225 lgb9 (.int .i64 0) (.slice aLa aLn aLc) (.slice aCa aCn aCc) (.slice aQa aQn aQc)
            obtain ⟨W26, hW26⟩ : ∃ W' : World, (((W25.setCell ⟨gb9, 0, none⟩ (.int .i64 0)).setCell ⟨gb9, 1, none⟩ (.slice aLa aLn aLc)).setCell ⟨gb9, 2, none⟩ (.slice aCa aCn aCc)).setCell ⟨gb9, 3, none⟩ (.slice aQa aQn aQc) = W' := ⟨_, rfl⟩
            rw [hW26] at RW26 bW26 b226
            have hS26 : W26.cell? ⟨w.heap.size, 0, none⟩ = some (.int .i64 K) ∧ W26.cell? ra = some (.int .i64 v) := ⟨by rw [b226.cell hlow.1, ← b225.cell hlow.1]; exact hS25.1, by rw [b226.cell hlow.2, ← b225.cell hlow.2]; exact hS25.2⟩
            replace hW26 := Lib.hid hW26
            refine wpAnyH_ready (rs := [13]) (by kernel_rfl) (by simp) (AllReadyH.cons rfl (fun KK hK => ?_) AllReadyH.nil)
            go_simp
            rw [hW26.out]
            refine hK.out _ _ hS26 fun _ => ?_
            clear hK KK t0 t1 t2 t3 ft0 ft1 ft2 ft3 mm oo lt RW25 hW26
            obtain ⟨t0, t1, t2, t3⟩ := RW26.cells4 n91
            have ft0 := RW26.frz4 n91 0
            have ft1 := RW26.frz4 n91 1
            have ft2 := RW26.frz4 n91 2
            have ft3 := RW26.frz4 n91 3
            have lt := (RW26.low4 n91)
            obtain ⟨f27, RW27, mm, oo⟩ := RW26.all4 n91 (.int .i64 0) (.slice bLa bLn bLc) (.slice bCa bCn bCc) (.slice bQa bQn bQc)
            replace n02 := (oo (0, 2) (by decide)).trans n02
            replace n03 := (oo (0, 3) (by decide)).trans n03
            replace n90 := (oo (9, 0) (by decide)).trans n90
            replace n10 := (oo (1, 0) (by decide)).trans n10
            replace n11 := (oo (1, 1) (by decide)).trans n11
            replace n20 := (oo (2, 0) (by decide)).trans n20
            replace n21 := (oo (2, 1) (by decide)).trans n21
            replace n30 := (oo (3, 0) (by decide)).trans n30
            replace n31 := (oo (3, 1) (by decide)).trans n31
            clear n91
            have n91 := mm
            have bW27 := Below.all4 (g := gb10) bW26 lt.1 (.int .i64 0) (.slice bLa bLn bLc) (.slice bCa bCn bCc) (.slice bQa bQn bQc)
            have b227 := Below.all4 (g := gb10) b226 lgb10 (.int .i64 0) (.slice bLa bLn bLc) (.slice bCa bCn bCc) (.slice bQa bQn bQc)
            obtain ⟨W27, hW27⟩ : ∃ W' : World, (((W26.setCell ⟨gb10, 0, none⟩ (.int .i64 0)).setCell ⟨gb10, 1, none⟩ (.slice bLa bLn bLc)).setCell ⟨gb10, 2, none⟩ (.slice bCa bCn bCc)).setCell ⟨gb10, 3, none⟩ (.slice bQa bQn bQc) = W' := ⟨_, rfl⟩
            rw [hW27] at RW27 bW27 b227
            have hS27 : W27.cell? ⟨w.heap.size, 0, none⟩ = some (.int .i64 K) ∧ W27.cell? ra = some (.int .i64 v) := ⟨by rw [b227.cell hlow.1, ← b226.cell hlow.1]; exact hS26.1, by rw [b227.cell hlow.2, ← b226.cell hlow.2]; exact hS26.2⟩
            replace hW27 := Lib.hid hW27
            refine wpAnyH_ready (rs := [14]) (by kernel_rfl) (by simp) (AllReadyH.cons rfl (fun KK hK => ?_) AllReadyH.nil)
            go_simp
            rw [hW27.out]
            refine hK.out _ _ hS27 fun _ => ?_
            clear hK KK t0 t1 t2 t3 ft0 ft1 ft2 ft3 mm oo lt RW26 hW27
            refine takeD (i := 15) (v := ?_) (some 7) rfl rfl (by kernel_rfl) (by kernel_rfl) (by kernel_rfl) (fun _ _ _ h => h) (Or.inl ⟨by rfl, ?_⟩) hS27 ?_
            rotate_left
            · rintro W' ⟨s0, s1⟩; go_simp; try with_reducible rfl
            simp only [Act.put, List.setIfInBounds_toArray, List.set_cons_zero, List.set_cons_succ]
            refine wpAnyH_done (by kernel_rfl) ?_ _
            refine NoPanic.normal ?_
            replace n02 := Lib.hid n02
            replace n03 := Lib.hid n03
            replace n90 := Lib.hid n90
            replace n91 := Lib.hid n91
            replace n10 := Lib.hid n10
            replace n11 := Lib.hid n11
            replace n20 := Lib.hid n20
            replace n21 := Lib.hid n21
            replace n30 := Lib.hid n30
            replace n31 := Lib.hid n31
            replace RW27 := Lib.hid RW27
            go_wp2
            go_meet
            case rel => exact ⟨rfl, gb9, gb10, L', C', Q', _, _, _, _, _, _, f27, rfl, rfl, bW27, hwi.out, RW27.out, n02.out, n03.out, n90.out, n91.out, n10.out, n11.out, n20.out, n21.out, n30.out, n31.out⟩
    case rest =>
      obtain ⟨rfl, g9, g10, L', C', Q', aL, aC, aQ, bL, bC, bQ, f9, rfl, rfl, bc, hwi, Rc, n02, n03, n90, n91, n10, n11, n20, n21, n30, n31⟩ := hcut
      obtain ⟨aLa, aLn, aLc, haL⟩ := (Rc.ownI n10).at.shape
      subst haL
      obtain ⟨bLa, bLn, bLc, hbL⟩ := (Rc.ownI n11).at.shape
      subst hbL
      obtain ⟨aCa, aCn, aCc, haC⟩ := (Rc.ownI n20).at.shape
      subst haC
      obtain ⟨bCa, bCn, bCc, hbC⟩ := (Rc.ownI n21).at.shape
      subst hbC
      obtain ⟨aQa, aQn, aQc, haQ⟩ := (Rc.ownI n30).at.shape
      subst haQ
      obtain ⟨bQa, bQn, bQc, hbQ⟩ := (Rc.ownI n31).at.shape
      subst hbQ
      have honeR := honeL.out v m L' C' Q' hod.out hwi
      clear hwi
      replace honeR := Lib.hid honeR
      obtain ⟨V, hVd⟩ : ∃ V : World, wc.drew = V := ⟨_, rfl⟩
      have RV : Rows w.heap.size V f9 := by rw [← hVd]; exact Rc.drew
      have bV : Below w.heap.size w V := by rw [← hVd]; exact bc.drew
      replace hVd := Lib.hid hVd
      clear Rc bc
      have hS : V.cell? ⟨g9, 0, none⟩ = some (.int .i64 0) ∧ V.cell? ⟨g9, 1, none⟩ = some (.slice aLa aLn aLc) ∧ V.cell? ⟨g9, 2, none⟩ = some (.slice aCa aCn aCc) ∧ V.cell? ⟨g9, 3, none⟩ = some (.slice aQa aQn aQc) ∧ V.cell? ⟨g10, 0, none⟩ = some (.int .i64 0) ∧ V.cell? ⟨g10, 1, none⟩ = some (.slice bLa bLn bLc) ∧ V.cell? ⟨g10, 2, none⟩ = some (.slice bCa bCn bCc) ∧ V.cell? ⟨g10, 3, none⟩ = some (.slice bQa bQn bQc) := by
        obtain ⟨a0, a1, a2, a3⟩ := RV.cells4 n90
        obtain ⟨d0, d1, d2, d3⟩ := RV.cells4 n91
        exact ⟨a0, a1, a2, a3, d0, d1, d2, d3⟩
      obtain ⟨g0, g1, g2, g3⟩ := RV.cells4 n02
      have fg0 := RV.frz4 n02 0
      have fg1 := RV.frz4 n02 1
      have fg2 := RV.frz4 n02 2
      have fg3 := RV.frz4 n02 3
      have lg0 := (RV.low4 n02).1
      obtain ⟨f15, R15, m02, o15⟩ := RV.all4 n02 (.int .i64 0) (.slice aLa aLn aLc) (.slice aCa aCn aCc) (.slice aQa aQn aQc)
      replace n03 := (o15 (0, 3) (by decide)).trans n03
      replace n90 := (o15 (9, 0) (by decide)).trans n90
      replace n91 := (o15 (9, 1) (by decide)).trans n91
      replace n10 := (o15 (1, 0) (by decide)).trans n10
      replace n11 := (o15 (1, 1) (by decide)).trans n11
      replace n20 := (o15 (2, 0) (by decide)).trans n20
      replace n21 := (o15 (2, 1) (by decide)).trans n21
      replace n30 := (o15 (3, 0) (by decide)).trans n30
      replace n31 := (o15 (3, 1) (by decide)).trans n31
      have b15 := Below.all4 (g := w.heap.size + 1) bV lg0 (.int .i64 0) (.slice aLa aLn aLc) (.slice aCa aCn aCc) (.slice aQa aQn aQc)
      obtain ⟨V15, hV15⟩ : ∃ V' : World, (((V.setCell ⟨w.heap.size + 1, 0, none⟩ (.int .i64 0)).setCell ⟨w.heap.size + 1, 1, none⟩ (.slice aLa aLn aLc)).setCell ⟨w.heap.size + 1, 2, none⟩ (.slice aCa aCn aCc)).setCell ⟨w.heap.size + 1, 3, none⟩ (.slice aQa aQn aQc) = V' := ⟨_, rfl⟩
      rw [hV15] at R15 b15
      have hS15 : V15.cell? ⟨g9, 0, none⟩ = some (.int .i64 0) ∧ V15.cell? ⟨g9, 1, none⟩ = some (.slice aLa aLn aLc) ∧ V15.cell? ⟨g9, 2, none⟩ = some (.slice aCa aCn aCc) ∧ V15.cell? ⟨g9, 3, none⟩ = some (.slice aQa aQn aQc) ∧ V15.cell? ⟨g10, 0, none⟩ = some (.int .i64 0) ∧ V15.cell? ⟨g10, 1, none⟩ = some (.slice bLa bLn bLc) ∧ V15.cell? ⟨g10, 2, none⟩ = some (.slice bCa bCn bCc) ∧ V15.cell? ⟨g10, 3, none⟩ = some (.slice bQa bQn bQc) := by
        obtain ⟨a0, a1, a2, a3⟩ := R15.cells4 n90
        obtain ⟨d0, d1, d2, d3⟩ := R15.cells4 n91
        exact ⟨a0, a1, a2, a3, d0, d1, d2, d3⟩
      replace hV15 := Lib.hid hV15
      clear n02 o15 RV bV lg0
      have n02 := m02
      clear m02
      go_upto_region 8 with fail
      refine wp_region_plan (fun w' => w'.cell? ⟨g9, 0, none⟩ = some (.int .i64 0) ∧ w'.cell? ⟨g9, 1, none⟩ = some (.slice aLa aLn aLc) ∧ w'.cell? ⟨g9, 2, none⟩ = some (.slice aCa aCn aCc) ∧ w'.cell? ⟨g9, 3, none⟩ = some (.slice aQa aQn aQc) ∧ w'.cell? ⟨g10, 0, none⟩ = some (.int .i64 0) ∧ w'.cell? ⟨g10, 1, none⟩ = some (.slice bLa bLn bLc) ∧ w'.cell? ⟨g10, 2, none⟩ = some (.slice bCa bCn bCc) ∧ w'.cell? ⟨g10, 3, none⟩ = some (.slice bQa bQn bQc)) 6 [(0, true), (1, true), (2, true), (3, true), (4, false), (5, false)] (by kernel_rfl) (by kernel_rfl) ?_
      rw [hVd.out]
      refine headY (v := ?_) (some 50) rfl rfl (Or.inl ⟨by rfl, ?_⟩) hS ?_
      rotate_left
      · rintro W' ⟨s0, s1, s2, s3, s4, s5, s6, s7⟩; go_simp; try with_reducible rfl
      simp only [Act.put, List.setIfInBounds_toArray, List.set_cons_zero, List.set_cons_succ]
      refine headY (v := ?_) (some 51) rfl rfl (Or.inl ⟨by rfl, ?_⟩) hS ?_
      rotate_left
      · rintro W' ⟨s0, s1, s2, s3, s4, s5, s6, s7⟩; go_simp; try with_reducible rfl
      simp only [Act.put, List.setIfInBounds_toArray, List.set_cons_zero, List.set_cons_succ]
      refine headY (v := ?_) (some 52) rfl rfl (Or.inl ⟨by rfl, ?_⟩) hS ?_
      rotate_left
      · rintro W' ⟨s0, s1, s2, s3, s4, s5, s6, s7⟩; go_simp; try with_reducible rfl
      simp only [Act.put, List.setIfInBounds_toArray, List.set_cons_zero, List.set_cons_succ]
      refine headY (v := ?_) (some 2) rfl rfl (Or.inl ⟨by rfl, ?_⟩) hS ?_
      rotate_left
      · rintro W' ⟨s0, s1, s2, s3, s4, s5, s6, s7⟩; go_simp; try with_reducible rfl
      simp only [Act.put, List.setIfInBounds_toArray, List.set_cons_zero, List.set_cons_succ]
      refine headC rfl (fun KK hK => ?_)
      go_simp
      rw [hV15.out]
      refine hK _ _ hS15 ?_
      clear hK KK hS g0 g1 g2 g3 fg0 fg1 fg2 fg3
      obtain ⟨h0, h1, h2, h3⟩ := R15.cells4 n03
      have fh0 := R15.frz4 n03 0
      have fh1 := R15.frz4 n03 1
      have fh2 := R15.frz4 n03 2
      have fh3 := R15.frz4 n03 3
      have lh0 := (R15.low4 n03).1
      obtain ⟨f16, R16, m03, o16⟩ := R15.all4 n03 (.int .i64 0) (.slice bLa bLn bLc) (.slice bCa bCn bCc) (.slice bQa bQn bQc)
      replace n02 := (o16 (0, 2) (by decide)).trans n02
      replace n90 := (o16 (9, 0) (by decide)).trans n90
      replace n91 := (o16 (9, 1) (by decide)).trans n91
      replace n10 := (o16 (1, 0) (by decide)).trans n10
      replace n11 := (o16 (1, 1) (by decide)).trans n11
      replace n20 := (o16 (2, 0) (by decide)).trans n20
      replace n21 := (o16 (2, 1) (by decide)).trans n21
      replace n30 := (o16 (3, 0) (by decide)).trans n30
      replace n31 := (o16 (3, 1) (by decide)).trans n31
      have b16 := Below.all4 (g := w.heap.size + 2) b15 lh0 (.int .i64 0) (.slice bLa bLn bLc) (.slice bCa bCn bCc) (.slice bQa bQn bQc)
      obtain ⟨V16, hV16⟩ : ∃ V' : World, (((V15.setCell ⟨w.heap.size + 2, 0, none⟩ (.int .i64 0)).setCell ⟨w.heap.size + 2, 1, none⟩ (.slice bLa bLn bLc)).setCell ⟨w.heap.size + 2, 2, none⟩ (.slice bCa bCn bCc)).setCell ⟨w.heap.size + 2, 3, none⟩ (.slice bQa bQn bQc) = V' := ⟨_, rfl⟩
      rw [hV16] at R16 b16
      have hS16 : V16.cell? ⟨g9, 0, none⟩ = some (.int .i64 0) ∧ V16.cell? ⟨g9, 1, none⟩ = some (.slice aLa aLn aLc) ∧ V16.cell? ⟨g9, 2, none⟩ = some (.slice aCa aCn aCc) ∧ V16.cell? ⟨g9, 3, none⟩ = some (.slice aQa aQn aQc) ∧ V16.cell? ⟨g10, 0, none⟩ = some (.int .i64 0) ∧ V16.cell? ⟨g10, 1, none⟩ = some (.slice bLa bLn bLc) ∧ V16.cell? ⟨g10, 2, none⟩ = some (.slice bCa bCn bCc) ∧ V16.cell? ⟨g10, 3, none⟩ = some (.slice bQa bQn bQc) := by
        obtain ⟨a0, a1, a2, a3⟩ := R16.cells4 n90
        obtain ⟨d0, d1, d2, d3⟩ := R16.cells4 n91
        exact ⟨a0, a1, a2, a3, d0, d1, d2, d3⟩
      replace hV16 := Lib.hid hV16
      clear n03 o16 R15 b15 lh0
      have n03 := m03
      clear m03
      refine headC rfl (fun KK hK => ?_)
      go_simp
      rw [hV16.out]
      refine hK _ _ hS16 ?_
      clear hK KK hS15 h0 h1 h2 h3 fh0 fh1 fh2 fh3
      refine head0 ?_
      simp only [List.drop_succ_cons, List.drop_zero]
      clear hS16
      obtain ⟨g0, g1, g2, g3⟩ := R16.cells4 n02
      obtain ⟨h0, h1, h2, h3⟩ := R16.cells4 n03
      replace n02 := Lib.hid n02
      replace n03 := Lib.hid n03
      replace n90 := Lib.hid n90
      replace n91 := Lib.hid n91
      replace n10 := Lib.hid n10
      replace n11 := Lib.hid n11
      replace n20 := Lib.hid n20
      replace n21 := Lib.hid n21
      replace n30 := Lib.hid n30
      replace n31 := Lib.hid n31
      replace R16 := Lib.hid R16
      go_wp2
      refine NoPanic.normal ?_
      go_wp2
      (try simp only [Exit.inBlock, Exit.then])
      refine bodyPost_ret (v := .tuple #[.bool false, .agg #[.int .i64 0, .slice aLa aLn aLc, .slice aCa aCn aCc, .slice aQa aQn aQc], .agg #[.int .i64 0, .slice bLa bLn bLc, .slice bCa bCn bCc, .slice bQa bQn bQc], .nilIface]) (by simp [results, Tryd.results23, go_sem, g0, g1, g2, g3, h0, h1, h2, h3]) rfl ?_
      exact ⟨_, _, _, _, rfl, b16, rfl, .inr ⟨rfl, hno.out, L', C', Q', _, _, _, _, _, _, honeR.out, rfl, rfl, f16, R16.out, n10.out, n11.out, n20.out, n21.out, n30.out, n31.out⟩⟩

theorem WitIs.pos {G : List (List Int)} {v : Nat} {L C Q : List Nat} (h : WitIs G v L C Q) : 1 ≤ L.length ∧ 1 ≤ Q.length := by
  obtain ⟨c, d, u1, u2, I, O, _, _, hc, _, h3, _, _, _, rfl, rfl, rfl⟩ := h
  refine ⟨?_, by simp⟩
  have he := h3.way.ends
  obtain ⟨w', hw⟩ := h3.way.ne
  cases hd : u1.dropLast with
  | nil =>
    rw [hd, hw] at he
    simp at he
    omega
  | cons x l => simp
theorem OneIs.pos {K R : Nat} {T : List Int} {L C Q : List Nat} (h : OneIs K R T L C Q) : 1 ≤ L.length ∧ 1 ≤ Q.length := by
  obtain ⟨_, _, _, _, _, h3⟩ := h
  exact h3.pos
/-- The answer, and the two rows' shape. -/
theorem OnePost.ans {w w' : World} {K R : Nat} {T : List Int} {yes x y e : Value} (h : OnePost w K R T yes x y e w') : e = .nilIface ∧ ∃ Y, yes = .bool Y ∧ (Y = true ↔ ¬ NotOne K R T) ∧
    ∃ a1 n1 c1 a2 n2 c2 a3 n3 c3 a4 n4 c4 a5 n5 c5 a6 n6 c6, x = .agg #[.int .i64 0, .slice a1 n1 c1, .slice a2 n2 c2, .slice a3 n3 c3] ∧ y = .agg #[.int .i64 0, .slice a4 n4 c4, .slice a5 n5 c5, .slice a6 n6 c6] := by
  obtain ⟨rfl, ⟨rfl, rfl, rfl, hn⟩ | ⟨rfl, hn, L, C, Q, aL, aC, aQ, bL, bC, bQ, _, rfl, rfl, f, hr, h1, h2, h3, h4, h5, h6⟩⟩ := h
  · exact ⟨rfl, true, rfl, ⟨fun _ => hn, fun _ => rfl⟩, _, _, _, _, _, _, _, _, _, _, _, _, _, _, _, _, _, _, rfl, rfl⟩
  · obtain ⟨_, _, _, rfl⟩ := (hr.ownI h1).at.shape
    obtain ⟨_, _, _, rfl⟩ := (hr.ownI h2).at.shape
    obtain ⟨_, _, _, rfl⟩ := (hr.ownI h3).at.shape
    obtain ⟨_, _, _, rfl⟩ := (hr.ownI h4).at.shape
    obtain ⟨_, _, _, rfl⟩ := (hr.ownI h5).at.shape
    obtain ⟨_, _, _, rfl⟩ := (hr.ownI h6).at.shape
    exact ⟨rfl, false, rfl, ⟨fun h => (by cases h), fun h => absurd hn h⟩, _, _, _, _, _, _, _, _, _, _, _, _, _, _, _, _, _, _, rfl, rfl⟩
end Go.Proofs.YtmhiambkfdkkbaaDoor

namespace Go.Proofs.YtmhiambkfdkkbaaDoor
open Go.RowKit
set_option maxRecDepth 100000

def zT : List Int := List.replicate 8 0
theorem zT_ok : RuleOk 2 1 zT := ⟨by decide, by decide, by decide, by decide, fun x hx => by rw [List.eq_of_mem_replicate hx]; decide⟩
theorem zT_two : ∀ p, p < 16 → ∀ q, q < 16 → ∃ t ∈ pairL 2 4 zT p, q ∈ pairL 2 4 zT t := by decide +kernel
theorem zT_goes {p q : Nat} (hp : p < 16) (hq : q < 16) : Goes (adjOf (pairG 2 4 zT)) p q := by
  obtain ⟨t, ht, hqt⟩ := zT_two p hp q hq
  exact (pairG_goes (by decide) (.step (.one ht) hqt) hp).1
theorem zT_loop {p : Nat} (hp : p < 16) : OnLoop (adjOf (pairG 2 4 zT)) p := by
  obtain ⟨t, ht, hqt⟩ := zT_two p hp p hp
  refine ⟨t, by rw [pairG_adj (N := 4) hp]; exact ht, ?_⟩
  have htl : t < 16 := ((mem_pairL (N := 4) (by decide)).1 ht).lt (by decide)
  exact zT_goes htl hp
theorem zT_live {L : List Nat} (h : LiveList 16 (adjOf (pairG 2 4 zT)) L) : L = List.range 16 :=
  h.unique ⟨List.pairwise_lt_range, fun v => by
    rw [List.mem_range]
    exact ⟨fun q => ⟨q, ⟨v, q, zT_loop q, .refl _⟩, ⟨v, q, zT_loop q, .refl _⟩⟩, fun q => q.1⟩⟩
theorem zT_words : AllFit 2 4 zT [1, 6, 13] := by
  intro i hi
  have : i = 0 ∨ i = 1 := by simp at hi; omega
  rcases this with rfl | rfl <;> decide

theorem zT_wkR : wkR 1 = 1 := rfl
theorem zT_wkT : wkT 2 1 zT = zT := rfl
theorem zT_pw : pw 2 (2 * 1) = 4 := by decide
theorem zT_pwords (r : Nat → Addr) (ta : Option Addr) (tn tc : Nat) (u : Value) (w : World) (hg : Glob r w) (h : IntsAt w (.slice ta tn tc) zT) (hu : IntsAt w u [1, 6, 13]) :
    Calls Tryd.prog 20 #[.agg #[.int .i64 2, .int .i64 1, .slice ta tn tc], u] w (Ret3 (fun x y z w' => z = .nilIface ∧ IntsAt w' x [0, 0, 1, 1] ∧ IntsAt w' y [0, 1, 0, 1]) w) := by
  have hc := pwords_way r 2 1 ta tn tc zT u [1, 6, 13] w hg h zT_ok (by decide) hu (by simp)
  rw [zT_wkR, zT_pw] at hc
  refine (hc (by decide) (by decide)).mono ?_
  rintro e w' ⟨x, y, z, rfl, b, hp⟩
  refine ⟨x, y, z, rfl, b, ?_⟩
  unfold WordsPost at hp
  rw [zT_wkT, zT_pw] at hp
  rcases hp with ⟨_, h1, h2, h3, _⟩ | ⟨hno, _⟩
  · have exa : alongW 2 (2 * 1) (· / 4) [1, 6, 13] = [0, 0, 1, 1] := by decide
    have exb : alongW 2 (2 * 1) (· % 4) [1, 6, 13] = [0, 1, 0, 1] := by decide
    rw [exa] at h2
    rw [exb] at h3
    exact ⟨h1, h2.at, h3.at⟩
  · exact absurd zT_words hno
theorem zT_papart (r : Nat → Addr) (ta : Option Addr) (tn tc : Nat) (w : World) (hg : Glob r w) (h : IntsAt w (.slice ta tn tc) zT) :
    Calls Tryd.prog 40 #[.agg #[.int .i64 2, .int .i64 1, .slice ta tn tc]] w (Ret2 (fun x y w' => y = .nilIface ∧ IntsAt w' x [1, 2, 3, 4, 6, 7, 8, 9, 11, 12, 13, 14]) w) := by
  have hc := papart_ok r 2 1 ta tn tc zT w hg h zT_ok (by decide)
  rw [zT_wkR, zT_wkT, zT_pw] at hc
  refine hc.mono ?_
  rintro e w' ⟨x, y, rfl, b, h1, L, hL, ho⟩
  have hLe : L = List.range 16 := zT_live hL
  subst hLe
  refine ⟨x, y, rfl, b, h1, ?_⟩
  have hF : castI ((List.range 16).filter (fun p => !decide (Diag 4 p))) = [1, 2, 3, 4, 6, 7, 8, 9, 11, 12, 13, 14] := by decide
  rw [hF] at ho
  exact ho.at

set_option maxHeartbeats 400000 in
theorem awake13 (r : Nat → Addr) (w : World) (hg : Glob r w) : Calls Tryd.prog 14 #[] w (Ret1 (fun x _ => x = .bool true) w) := by
  obtain ⟨tv, w1, mk, ho, b1⟩ := run_makeI (8 : Int) 8 w rfl (by omega)
  have hT : IntsAt w1 tv zT := ho.at
  obtain ⟨ta, tn, tc, rfl⟩ := ho.at.shape
  have ba := belowAlloc w1 (.cells #[.int .i64 2, .int .i64 1, .slice ta tn tc] 24)
  have q : Box3 (w1.alloc (.cells #[.int .i64 2, .int .i64 1, .slice ta tn tc] 24)) w1.heap.size (.int .i64 2) (.int .i64 1) (.slice ta tn tc) := by simp [Box3, go_sem]
  have b02 := Below.step b1 ba
  have hT2 := hT.below ba
  obtain ⟨W2, hW2⟩ : ∃ W2 : World, W2 = w1.alloc (.cells #[.int .i64 2, .int .i64 1, .slice ta tn tc] 24) := ⟨_, rfl⟩
  rw [← hW2] at b02 hT2 q
  have bl := belowAlloc W2 (.cells #[.int .i64 1, .int .i64 6, .int .i64 13] 3)
  have hlit := lit_ints W2 [1, 6, 13] #[.int .i64 1, .int .i64 6, .int .i64 13] rfl (by decide)
  have b03 := Below.step b02 bl
  replace hg := Lib.hid hg
  replace ho := Lib.hid ho
  replace hT := Lib.hid hT
  replace hT2 := Lib.hid hT2
  replace q := Lib.hid q
  replace hlit := Lib.hid hlit
  go_enter Tryd.func14, Tryd.ntmps14
  go_upto_region 2 with fail
  rw [← hW2]
  replace hW2 := Lib.hid hW2
  obtain ⟨⟨y0, y1, y2⟩, -, -, -⟩ := q.out
  go_wp2_with fail
  clear y0 y1 y2
  refine (zT_pwords r ta tn tc _ _ (hg.out.below b03) (hT2.out.below bl) hlit.out).mono ?_
  rintro e w4 ⟨xa, xb, z, rfl, b4, rfl, hxa, hxb⟩
  have b24 := Below.step bl b4
  have b04 := Below.step b03 b4
  obtain ⟨⟨z0, z1, z2⟩, -, -, -⟩ := q.out.below b24
  replace hxa := Lib.hid hxa
  replace hxb := Lib.hid hxb
  clear mk
  go_wp2_with fail
  refine (zT_papart r ta tn tc w4 (hg.out.below b04) (hT2.out.below b24)).mono ?_
  rintro e w5 ⟨lv, y, rfl, b5, rfl, hlo⟩
  have ll := hlo.len
  have i4 : ∀ w', (Instr.indexAt 22 lv (.int .i64 4)).run Tryd.prog w' = .ok (.pointer (some (valAt lv 4))) w' := fun w' => hlo.idx 4 (by decide) w'
  have c4 := hlo.cellD 4 (by decide)
  rw [show ([1, 2, 3, 4, 6, 7, 8, 9, 11, 12, 13, 14] : List Int).getD 4 0 = 6 by decide] at c4
  rw [show ([1, 2, 3, 4, 6, 7, 8, 9, 11, 12, 13, 14] : List Int).length = 12 by decide] at ll
  clear z0 z1 z2
  generalize valAt lv 4 = la at *
  obtain ⟨l1, l2, l3, rfl⟩ := hlo.shape
  replace hlo := Lib.hid hlo
  have b05 := Below.step b04 b5
  have bl1 := belowAlloc w5 (.cells #[.int .i64 0, .int .i64 0, .int .i64 1, .int .i64 1] 3)
  have hlit1 := lit_ints w5 [0, 0, 1, 1] #[.int .i64 0, .int .i64 0, .int .i64 1, .int .i64 1] rfl (by decide)
  replace hlit1 := Lib.hid hlit1
  go_wp2_with fail
  refine (ints_any xa _ _ _ _ ((hxa.out.below b5).below bl1) hlit1.out).mono ?_
  rintro e w7 h7
  obtain ⟨rfl, b7⟩ := h7.below
  clear h7
  rw [show decide (([0, 0, 1, 1] : List Int) = [0, 0, 1, 1]) = true by decide]
  have b57 := Below.step bl1 b7
  have bl2 := belowAlloc w7 (.cells #[.int .i64 0, .int .i64 1, .int .i64 0, .int .i64 1] 3)
  have hlit2 := lit_ints w7 [0, 1, 0, 1] #[.int .i64 0, .int .i64 1, .int .i64 0, .int .i64 1] rfl (by decide)
  replace hlit2 := Lib.hid hlit2
  go_wp2_with fail
  refine (ints_any xb _ _ _ _ ((hxb.out.below (Below.step b5 b57)).below bl2) hlit2.out).mono ?_
  rintro e w8 h8
  obtain ⟨rfl, b8⟩ := h8.below
  clear h8
  rw [show decide (([0, 1, 0, 1] : List Int) = [0, 1, 0, 1]) = true by decide]
  have b58 := Below.step b57 (Below.step bl2 b8)
  have c8 := (b58.cell (World.block_lt_of_cell? _ _ c4)).trans c4
  go_wp2
  go_ret
  exact ⟨_, rfl, Below.step b05 b58, rfl⟩
end Go.Proofs.YtmhiambkfdkkbaaDoor

namespace Go.Proofs.YtmhiambkfdkkbaaDoor
open Go.RowKit
set_option maxRecDepth 100000

/-- Each cell as it is. -/
def iT : List Int := [0, 0, 1, 1, 0, 0, 1, 1]
theorem iT_ok : RuleOk 2 1 iT := ⟨by decide, by decide, by decide, by decide, fun x hx => by simp [iT] at hx; omega⟩
theorem iT_one : ¬ NotOne 2 1 iT := by
  intro h
  obtain ⟨x, y, sx, sy, lx, ly, hne, e⟩ := h 1
  match x, lx with
  | [a, b, c], _ =>
    match y, ly with
    | [a', b', c'], _ =>
      have h1 := sx a (by simp)
      have h2 := sx b (by simp)
      have h3 := sx c (by simp)
      have k1 := sy a' (by simp)
      have k2 := sy b' (by simp)
      have k3 := sy c' (by simp)
      have hb : ∀ a b c : Int, 0 ≤ a → a < 2 → 0 ≤ b → b < 2 → 0 ≤ c → c < 2 → imgP 2 1 iT [a, b, c] = [b] := fun a b c p1 p2 p3 p4 p5 p6 => by
        have ha : a = 0 ∨ a = 1 := by omega
        have hb : b = 0 ∨ b = 1 := by omega
        have hc : c = 0 ∨ c = 1 := by omega
        rcases ha with rfl | rfl <;> rcases hb with rfl | rfl <;> rcases hc with rfl | rfl <;> decide
      rw [hb a b c h1.1 h1.2 h2.1 h2.2 h3.1 h3.2, hb a' b' c' k1.1 k1.2 k2.1 k2.2 k3.1 k3.2] at e
      injection e with e _
      exact hne e
/-- The sum of both neighbours. -/
def nT : List Int := [0, 1, 0, 1, 1, 0, 1, 0]
theorem nT_ok : RuleOk 2 1 nT := ⟨by decide, by decide, by decide, by decide, fun x hx => by simp [nT] at hx; omega⟩
theorem img_same {z : Int} (hz : z = 0 ∨ z = 1) (n : Nat) : imgP 2 1 nT (List.replicate n z) = List.replicate (n - 2) 0 := by
  refine List.ext_getElem (by simp [imgP_length]) fun i h1 h2 => ?_
  simp only [imgP_length, List.length_replicate] at h1
  simp only [imgP, List.getElem_map, List.getElem_range, List.getElem_replicate, List.drop_replicate, List.take_replicate]
  rw [show min (2 * 1 + 1) (n - i) = 3 by omega]
  rcases hz with rfl | rfl <;> decide
theorem nT_not : NotOne 2 1 nT := fun n =>
  ⟨List.replicate (2 * n + 1) 0, List.replicate (2 * n + 1) 1, fun x hx => by rw [List.eq_of_mem_replicate hx]; decide, fun x hx => by rw [List.eq_of_mem_replicate hx]; decide, by simp, by simp,
    by simp [List.getD, show n < 2 * n + 1 by omega], by rw [img_same (.inl rfl), img_same (.inr rfl)]⟩

set_option maxHeartbeats 2000000 in
theorem awake14 (r : Nat → Addr) (w : World) (hg : Glob r w) : Calls Tryd.prog 21 #[] w (Ret1 (fun x _ => x = .bool true) w) := by
  have bl := belowAlloc w (.cells #[.int .i64 0, .int .i64 0, .int .i64 1, .int .i64 1, .int .i64 0, .int .i64 0, .int .i64 1, .int .i64 1] 3)
  have hlit := lit_ints w [0, 0, 1, 1, 0, 0, 1, 1] #[.int .i64 0, .int .i64 0, .int .i64 1, .int .i64 1, .int .i64 0, .int .i64 0, .int .i64 1, .int .i64 1] rfl (by decide)
  replace hlit := Lib.hid hlit
  replace hg := Lib.hid hg
  go_enter Tryd.func21, Tryd.ntmps21
  go_wp2_with fail
  refine (one_ok r 2 1 _ _ _ iT _ (hg.out.below bl) hlit.out iT_ok (by decide)).mono ?_
  rintro e w2 ⟨y, a, b, z, rfl, b2, hp⟩
  obtain ⟨rfl, Y, rfl, hY, a1, n1, c1, a2, n2, c2, a3, n3, c3, a4, n4, c4, a5, n5, c5, a6, n6, c6, rfl, rfl⟩ := hp.ans
  obtain rfl : Y = true := hY.2 iT_one
  clear hp hY
  have b02 := Below.step bl b2
  have c1' := Cells4.alloc w2 26 (.int .i64 0) (.slice a1 n1 c1) (.slice a2 n2 c2) (.slice a3 n3 c3)
  have b03 := Below.step b02 (Below.step (belowAlloc w2 (.cells #[.int .i64 0, .slice a1 n1 c1, .slice a2 n2 c2, .slice a3 n3 c3] 26)) (belowAlloc _ (.cells #[.int .i64 0, .slice a4 n4 c4, .slice a5 n5 c5, .slice a6 n6 c6] 26)))
  have bl2 := belowAlloc ((w2.alloc (.cells #[.int .i64 0, .slice a1 n1 c1, .slice a2 n2 c2, .slice a3 n3 c3] 26)).alloc (.cells #[.int .i64 0, .slice a4 n4 c4, .slice a5 n5 c5, .slice a6 n6 c6] 26)) (.cells #[.int .i64 0, .int .i64 1, .int .i64 0, .int .i64 1, .int .i64 1, .int .i64 0, .int .i64 1, .int .i64 0] 3)
  have hlit2 := lit_ints ((w2.alloc (.cells #[.int .i64 0, .slice a1 n1 c1, .slice a2 n2 c2, .slice a3 n3 c3] 26)).alloc (.cells #[.int .i64 0, .slice a4 n4 c4, .slice a5 n5 c5, .slice a6 n6 c6] 26)) [0, 1, 0, 1, 1, 0, 1, 0] #[.int .i64 0, .int .i64 1, .int .i64 0, .int .i64 1, .int .i64 1, .int .i64 0, .int .i64 1, .int .i64 0] rfl (by decide)
  have b04 := Below.step b03 bl2
  replace hlit2 := Lib.hid hlit2
  clear c1'
  go_wp2_with fail
  have hone := fun (s : Nat) (hs : s = ((w2.alloc (.cells #[.int .i64 0, .slice a1 n1 c1, .slice a2 n2 c2, .slice a3 n3 c3] 26)).alloc (.cells #[.int .i64 0, .slice a4 n4 c4, .slice a5 n5 c5, .slice a6 n6 c6] 26)).heap.size) => one_ok r 2 1 (some ⟨s, 0, none⟩) 8 8 nT _ (hg.out.below b04) (by subst hs; exact hlit2.out) nT_ok (by decide)
  refine (hone _ (by simp)).mono ?_
  rintro e w5 ⟨y, a, b, z, rfl, b5, hp⟩
  obtain ⟨rfl, ⟨_, _, _, hn⟩ | ⟨rfl, _, L, C, Q, aL, aC, aQ, bL, bC, bQ, hoi, rfl, rfl, f, hr, k1, k2, k3, k4, k5, k6⟩⟩ := hp
  · exact absurd nT_not hn
  obtain ⟨p1, p2⟩ := hoi.pos
  have l1 := (hr.ownI k1).at.len
  have l6 := (hr.ownI k6).at.len
  rw [sideA_len] at l1
  rw [sideB_len] at l6
  obtain ⟨d1, m1, s1, rfl⟩ := (hr.ownI k1).at.shape
  obtain ⟨d2, m2, s2, rfl⟩ := (hr.ownI k2).at.shape
  obtain ⟨d3, m3, s3, rfl⟩ := (hr.ownI k3).at.shape
  obtain ⟨d4, m4, s4, rfl⟩ := (hr.ownI k4).at.shape
  obtain ⟨d5, m5, s5, rfl⟩ := (hr.ownI k5).at.shape
  obtain ⟨d6, m6, s6, rfl⟩ := (hr.ownI k6).at.shape
  have e1 : decide ((0 : Int) < (L.length : Int)) = true := by simp; omega
  have e6 : decide ((0 : Int) < (Q.length : Int)) = true := by simp; omega
  have b06 := Below.step b04 (Below.step b5 (Below.step (belowAlloc w5 (.cells #[.int .i64 0, .slice d1 m1 s1, .slice d3 m3 s3, .slice d5 m5 s5] 26)) (belowAlloc _ (.cells #[.int .i64 0, .slice d2 m2 s2, .slice d4 m4 s4, .slice d6 m6 s6] 26))))
  replace hoi := Lib.hid hoi
  clear hr k1 k2 k3 k4 k5 k6 hone
  go_wp2
  go_ret
  exact ⟨_, rfl, b06, congrArg Value.bool (decide_eq_true (by omega))⟩
end Go.Proofs.YtmhiambkfdkkbaaDoor
