/-
  Plain mathematics of layer 13: pairs of nodes, their arrows; words and the nodes along them.
  Plain mathematics of layer 15: twins, and the ways from a pair of equal nodes through pairs that are apart to a pair of equal nodes.
  Plain mathematics: a rule with a greater radius.
  Walks: forms.widened, forms.Widen and the function that they hand to forms.made.
  Plain mathematics: the preimages of a word, begin by begin; the next word; one preimage to each begin where the last place permutes.
  Walks: word.Check, word.Next.
  Walks: rule.Small, package overlap's first functions.
  Walks: overlap.Nodes, overlap.Edge at a small rule.
  Walks: forms.Widen at a rule, pairs.working.
  Walks: the two functions within pairs.Words.
  Rows of structs of two ints: append, the address of an element, what a list of such rows reads.
  Walk: pairs.arrows.
  Plain mathematics: an ascending list without its doubles.
  Walks: slices.Compact (its contract off the shelf) at a list of one's own.
  Walk: pairs.Graph.
  Walk: pairs.Words.
-/
import Derived.Test.YtmhiambkfdkkbaaDoorMIc5
import Derived.Deep.DeepCutAuto
import Derived.BigQuiet
import Derived.Ground.NamesProg
import Derived.Shelf.Slices.Cells
namespace Go.Proofs.YtmhiambkfdkkbaaDoor

def sPairs : ByteArray := ⟨#[112, 97, 105, 114, 115]⟩
/-- Where a symbol leads from a node, and what is told. -/
def toN (K N u s : Nat) : Nat := (u * K + s) % N
def labN (K : Nat) (T : List Int) (u s : Nat) : Int := T.getD (u * K + s) 0
/-- The arrows of a pair as they are found. -/
def rawT (K N : Nat) (T : List Int) (u v s t : Nat) : List Nat := if labN K T u s = labN K T v t then [toN K N u s * N + toN K N v t] else []
def rawS (K N : Nat) (T : List Int) (u v s n : Nat) : List Nat := (List.range n).flatMap fun t => rawT K N T u v s t
def rawP (K N : Nat) (T : List Int) (u v n : Nat) : List Nat := (List.range n).flatMap fun s => rawS K N T u v s K
theorem rawS_succ (K N : Nat) (T : List Int) (u v s n : Nat) : rawS K N T u v s (n + 1) = rawS K N T u v s n ++ rawT K N T u v s n := by
  simp [rawS, List.range_succ]
theorem rawP_succ (K N : Nat) (T : List Int) (u v n : Nat) : rawP K N T u v (n + 1) = rawP K N T u v n ++ rawS K N T u v n K := by
  simp [rawP, List.range_succ]
theorem rawT_len (K N : Nat) (T : List Int) (u v s t : Nat) : (rawT K N T u v s t).length ≤ 1 := by unfold rawT; split <;> simp
theorem rawS_len (K N : Nat) (T : List Int) (u v s n : Nat) : (rawS K N T u v s n).length ≤ n := by
  induction n with
  | zero => simp [rawS]
  | succ n ih => rw [rawS_succ, List.length_append]; have := rawT_len K N T u v s n; omega
theorem rawP_len (K N : Nat) (T : List Int) (u v n : Nat) : (rawP K N T u v n).length ≤ n * K := by
  induction n with
  | zero => simp [rawP]
  | succ n ih => rw [rawP_succ, List.length_append, Nat.add_mul]; have := rawS_len K N T u v n K; omega
/-- Does an arrow lead from the pair u, v to the vertex q? -/
def Arr (K N : Nat) (T : List Int) (u v q : Nat) : Prop := ∃ s t, s < K ∧ t < K ∧ labN K T u s = labN K T v t ∧ q = toN K N u s * N + toN K N v t
theorem mem_rawP {K N : Nat} {T : List Int} {u v q : Nat} : q ∈ rawP K N T u v K ↔ Arr K N T u v q := by
  unfold rawP rawS rawT Arr
  simp only [List.mem_flatMap, List.mem_range]
  constructor
  · rintro ⟨s, hs, t, ht, h⟩
    split at h
    · rename_i e
      exact ⟨s, t, hs, ht, e, by simpa using h⟩
    · cases h
  · rintro ⟨s, t, hs, ht, e, h⟩
    exact ⟨s, hs, t, ht, by rw [if_pos e]; simpa using h⟩
theorem toN_lt {K N u s : Nat} (hN : 0 < N) : toN K N u s < N := Nat.mod_lt _ hN
theorem pair_lt {N a b : Nat} (ha : a < N) (hb : b < N) : a * N + b < N * N := by
  have := Nat.mul_le_mul_right N (show a + 1 ≤ N by omega)
  rw [Nat.add_mul] at this; omega
theorem pair_div {N a b : Nat} (hb : b < N) : (a * N + b) / N = a := div_mk hb
theorem pair_mod {N a b : Nat} (hb : b < N) : (a * N + b) % N = b := mod_mk hb
theorem pair_eq (p N : Nat) : p / N * N + p % N = p := by rw [Nat.mul_comm]; exact Nat.div_add_mod p N
theorem div_lt_of {p N : Nat} (h : p < N * N) : p / N < N := Nat.div_lt_of_lt_mul h
theorem Arr.lt {K N : Nat} {T : List Int} {u v q : Nat} (hN : 0 < N) (h : Arr K N T u v q) : q < N * N := by
  obtain ⟨s, t, _, _, _, rfl⟩ := h
  exact pair_lt (toN_lt hN) (toN_lt hN)
theorem Arr.swap {K N : Nat} {T : List Int} {u v q : Nat} (hN : 0 < N) (h : Arr K N T u v q) : Arr K N T v u (q % N * N + q / N) := by
  obtain ⟨s, t, hs, ht, e, rfl⟩ := h
  rw [pair_div (toN_lt hN), pair_mod (toN_lt hN)]
  exact ⟨t, s, ht, hs, e.symm, rfl⟩
/-- The vertices that arrows lead to, ascending. -/
def pairL (K N : Nat) (T : List Int) (p : Nat) : List Nat := (List.range (N * N)).filter fun q => decide (q ∈ rawP K N T (p / N) (p % N) K)
theorem pairL_sorted (K N : Nat) (T : List Int) (p : Nat) : (pairL K N T p).Pairwise (· < ·) := List.Pairwise.filter _ List.pairwise_lt_range
theorem mem_pairL {K N : Nat} {T : List Int} {p q : Nat} (hN : 0 < N) : q ∈ pairL K N T p ↔ Arr K N T (p / N) (p % N) q := by
  unfold pairL
  rw [List.mem_filter, List.mem_range, decide_eq_true_iff, mem_rawP]
  exact ⟨fun h => h.2, fun h => ⟨h.lt hN, h⟩⟩
theorem nodup_sub {α : Type} [DecidableEq α] : ∀ {l m : List α}, l.Nodup → l ⊆ m → l.length ≤ m.length
  | [], _, _, _ => by simp
  | a :: l, m, hn, hs => by
    obtain ⟨h1, h2⟩ := List.nodup_cons.1 hn
    have ha := hs List.mem_cons_self
    have := nodup_sub (l := l) (m := m.erase a) h2 (fun b hb => (List.mem_erase_of_ne (fun e => h1 (by rw [← e]; exact hb))).2 (hs (List.mem_cons_of_mem _ hb)))
    have hl := List.length_erase_of_mem ha
    have := List.length_pos_of_mem ha
    simp only [List.length_cons]; omega
theorem pairL_len (K N : Nat) (T : List Int) (p : Nat) : (pairL K N T p).length ≤ K * K := by
  have hn : (pairL K N T p).Nodup := (pairL_sorted K N T p).imp (fun h => Nat.ne_of_lt h)
  have hs : pairL K N T p ⊆ rawP K N T (p / N) (p % N) K := fun q hq => by
    unfold pairL at hq
    simpa using (List.mem_filter.1 hq).2
  exact Nat.le_trans (nodup_sub hn hs) (rawP_len ..)

/-- The node of a word at a place. -/
def nodeAt (K m : Nat) (x : List Int) (i : Nat) : Nat := numW K ((x.drop i).take m)
theorem win_snoc {x : List Int} {i m : Nat} (h : i + m < x.length) : (x.drop i).take (m + 1) = (x.drop i).take m ++ [x.getD (i + m) 0] := by
  rw [List.take_add_one, List.getElem?_drop]
  simp [List.getD, h]
theorem win_cons {x : List Int} {i m : Nat} : ((x.drop i).take (m + 1)).drop 1 = (x.drop (i + 1)).take m := by
  rw [List.drop_take]; simp
theorem syms_drop {K : Int} {x : List Int} (h : Syms K x) (i : Nat) : Syms K (x.drop i) := fun y hy => h y (List.mem_of_mem_drop hy)
theorem syms_take {K : Int} {x : List Int} (h : Syms K x) (i : Nat) : Syms K (x.take i) := fun y hy => h y (List.mem_of_mem_take hy)
theorem syms_at {K : Nat} {x : List Int} (h : Syms K x) {i : Nat} (hi : i < x.length) : 0 ≤ x.getD i 0 ∧ x.getD i 0 < K ∧ (x.getD i 0).toNat < K := by
  have := h (x[i]) (List.getElem_mem hi)
  simp only [List.getD_eq_getElem?_getD, List.getElem?_eq_getElem hi, Option.getD_some]
  omega
theorem win_num {K m : Nat} {x : List Int} {i : Nat} (h : i + m < x.length) : numW K ((x.drop i).take (m + 1)) = nodeAt K m x i * K + (x.getD (i + m) 0).toNat := by
  rw [win_snoc h, numW_snoc]; rfl
theorem node_lt {K m : Nat} {x : List Int} (hx : Syms K x) {i : Nat} (h : i + m ≤ x.length) : nodeAt K m x i < pw K m := by
  have := numW_lt _ (syms_take (syms_drop hx i) m)
  rwa [show ((x.drop i).take m).length = m by simp; omega] at this
theorem node_next {K m : Nat} {x : List Int} (hx : Syms K x) {i : Nat} (h : i + m < x.length) : nodeAt K m x (i + 1) = toN K (pw K m) (nodeAt K m x i) (x.getD (i + m) 0).toNat := by
  have hl : ((x.drop i).take m).length = m := by simp; omega
  have hs : Syms K ((x.drop i).take m ++ [x.getD (i + m) 0]) := by rw [← win_snoc h]; exact syms_take (syms_drop hx i) _
  have := num_shift hs
  rw [← win_snoc h, win_cons, hl, win_num h] at this
  exact this
theorem img_at {K R : Nat} {T x : List Int} {i : Nat} (h : i + 2 * R < x.length) : (imgP K R T x).getD i 0 = labN K T (nodeAt K (2 * R) x i) (x.getD (i + 2 * R) 0).toNat := by
  rw [imgP_getD _ _ _ _ _ (by omega), win_num h]; rfl
theorem img_eq {K R : Nat} {T x y : List Int} (hl : x.length = y.length) : imgP K R T x = imgP K R T y ↔
    ∀ i, i + 2 * R < x.length → labN K T (nodeAt K (2 * R) x i) (x.getD (i + 2 * R) 0).toNat = labN K T (nodeAt K (2 * R) y i) (y.getD (i + 2 * R) 0).toNat := by
  constructor
  · intro h i hi
    rw [← img_at hi, ← img_at (by omega), h]
  · intro h
    refine List.ext_getElem (by rw [imgP_length, imgP_length, hl]) fun i h1 h2 => ?_
    rw [imgP_length] at h1 h2
    have := h i (by omega)
    rw [← img_at (by omega), ← img_at (by omega)] at this
    simpa [List.getD_eq_getElem?_getD, imgP_length, h1, h2] using this

/-- The vertices along two words. -/
def wayW (K m : Nat) (x y : List Int) : List Nat := (List.range (x.length - m + 1)).map fun i => nodeAt K m x i * pw K m + nodeAt K m y i
theorem wayW_len (K m : Nat) (x y : List Int) : (wayW K m x y).length = x.length - m + 1 := by simp [wayW]
theorem wayW_get {K m : Nat} {x y : List Int} {i : Nat} (h : i ≤ x.length - m) : (wayW K m x y).getD i 0 = nodeAt K m x i * pw K m + nodeAt K m y i := by
  simp [wayW, List.getD, show i < x.length - m + 1 by omega]
theorem wayW_arr {K R : Nat} {T x y : List Int} (hx : Syms K x) (hy : Syms K y) (hl : x.length = y.length) (he : imgP K R T x = imgP K R T y) {i : Nat} (hi : i + 2 * R < x.length) :
    Arr K (pw K (2 * R)) T (nodeAt K (2 * R) x i) (nodeAt K (2 * R) y i) (nodeAt K (2 * R) x (i + 1) * pw K (2 * R) + nodeAt K (2 * R) y (i + 1)) :=
  ⟨_, _, (syms_at hx hi).2.2, (syms_at hy (by omega)).2.2, (img_eq hl).1 he i hi, by rw [node_next hx hi, node_next hy (by omega)]⟩

/-- Does a step of the way fit: the second vertex by the last symbols of its nodes? -/
def StepFits (K N : Nat) (T : List Int) (p q : Nat) : Prop :=
  toN K N (p / N) (q / N % K) = q / N ∧ toN K N (p % N) (q % N % K) = q % N ∧ labN K T (p / N) (q / N % K) = labN K T (p % N) (q % N % K)
instance (K N : Nat) (T : List Int) (p q : Nat) : Decidable (StepFits K N T p q) := by unfold StepFits; exact inferInstance
/-- The last symbol of the node that a symbol leads to is that symbol. -/
theorem toN_mod {K R u s : Nat} (_hK : 1 ≤ K) (hR : 1 ≤ R) (hs : s < K) : toN K (pw K (2 * R)) u s % K = s := by
  unfold toN
  have : K ∣ pw K (2 * R) := ⟨pw K (2 * R - 1), by rw [Nat.mul_comm K, ← pw_succ]; congr 1; omega⟩
  rw [Nat.mod_mod_of_dvd _ this, mod_mk hs]
theorem fits_iff {K R : Nat} {T : List Int} {p q : Nat} (hK : 1 ≤ K) (hR : 1 ≤ R) (hq : q < pw K (2 * R) * pw K (2 * R)) :
    StepFits K (pw K (2 * R)) T p q ↔ Arr K (pw K (2 * R)) T (p / pw K (2 * R)) (p % pw K (2 * R)) q := by
  have hN := pw_pos (K := K) (2 * R) hK
  constructor
  · rintro ⟨h1, h2, h3⟩
    exact ⟨_, _, Nat.mod_lt _ (by omega), Nat.mod_lt _ (by omega), h3, by rw [h1, h2, pair_eq]⟩
  · rintro ⟨s, t, hs, ht, e, rfl⟩
    unfold StepFits
    rw [pair_div (toN_lt (by omega)), pair_mod (toN_lt (by omega)), toN_mod hK hR hs, toN_mod hK hR ht]
    exact ⟨rfl, rfl, e⟩
/-- The word along a way of nodes. -/
def alongW (K m : Nat) (F : Nat → Nat) (way : List Nat) : List Int := digs K m (F (way.getD 0 0)) ++ (way.drop 1).map fun p => ((F p % K : Nat) : Int)
theorem alongW_len (K m : Nat) (F : Nat → Nat) (way : List Nat) : (alongW K m F way).length = m + (way.length - 1) := by simp [alongW, digs_length]
theorem alongW_syms {K m : Nat} (hK : 1 ≤ K) (F : Nat → Nat) (way : List Nat) : Syms K (alongW K m F way) := by
  intro y hy
  rcases List.mem_append.1 hy with hy | hy
  · exact digs_syms hK _ _ y hy
  · obtain ⟨p, _, rfl⟩ := List.mem_map.1 hy
    have := Nat.mod_lt (F p) (show 0 < K by omega); omega
theorem alongW_get {K m : Nat} {F : Nat → Nat} {way : List Nat} {i : Nat} (h : i + 1 < way.length) : (alongW K m F way).getD (i + m) 0 = ((F (way.getD (i + 1) 0) % K : Nat) : Int) := by
  unfold alongW
  rw [List.getD_eq_getElem?_getD, List.getElem?_append_right (by rw [digs_length]; omega), digs_length, Nat.add_sub_cancel, List.getElem?_map, List.getElem?_drop, Nat.add_comm 1 i]
  rw [List.getElem?_eq_getElem h]
  simp [List.getD, h]
/-- Along a way that fits the nodes are the way's. -/
theorem along_node {K m : Nat} (hK : 1 ≤ K) {F : Nat → Nat} {way : List Nat} (h0 : F (way.getD 0 0) < pw K m) (hs : ∀ i, i + 1 < way.length → toN K (pw K m) (F (way.getD i 0)) (F (way.getD (i + 1) 0) % K) = F (way.getD (i + 1) 0)) :
    ∀ i, i < way.length → nodeAt K m (alongW K m F way) i = F (way.getD i 0)
  | 0, _ => by
    unfold nodeAt alongW
    rw [List.drop_zero, List.take_append_of_le_length (by rw [digs_length]; omega), List.take_of_length_le (by rw [digs_length]; omega), numW_digs hK _ _ h0]
  | i + 1, hi => by
    have ih := along_node hK h0 hs i (by omega)
    rw [node_next (alongW_syms hK F way) (by rw [alongW_len]; omega), ih, alongW_get hi, Int.toNat_natCast]
    exact hs i hi
/-- The word along the nodes of a word is that word. -/
theorem along_word {K R : Nat} (hK : 1 ≤ K) (hR : 1 ≤ R) {F : Nat → Nat} {x : List Int} (hx : Syms K x) (hl : 2 * R ≤ x.length) {way : List Nat} (hw : way.length = x.length - 2 * R + 1)
    (hF : ∀ i, i < way.length → F (way.getD i 0) = nodeAt K (2 * R) x i) : alongW K (2 * R) F way = x := by
  have hN := pw_pos (K := K) (2 * R) hK
  refine List.ext_getElem (by rw [alongW_len]; omega) fun i h1 h2 => ?_
  by_cases hi : i < 2 * R
  · have e : digs K (2 * R) (F (way.getD 0 0)) = x.take (2 * R) := by
      rw [hF 0 (by omega)]
      have := digs_numW hK (x.take (2 * R)) (syms_take hx _)
      rw [show (x.take (2 * R)).length = 2 * R by simp; omega] at this
      simpa [nodeAt] using this
    simp only [alongW, e]
    rw [List.getElem_append_left (by simp; omega), List.getElem_take]
  · obtain ⟨j, rfl⟩ : ∃ j, i = j + 2 * R := ⟨i - 2 * R, by omega⟩
    have hj : j + 1 < way.length := by omega
    have := alongW_get (K := K) (m := 2 * R) (F := F) hj
    rw [hF (j + 1) hj, node_next hx (by omega), toN_mod hK hR (syms_at hx (by omega)).2.2] at this
    simp only [List.getD_eq_getElem?_getD, List.getElem?_eq_getElem h1, List.getElem?_eq_getElem h2, Option.getD_some] at this
    rw [this]
    have := (hx (x[j + 2 * R]) (List.getElem_mem _)).1
    omega
end Go.Proofs.YtmhiambkfdkkbaaDoor

namespace Go.Proofs.YtmhiambkfdkkbaaDoor

/-- Two words that differ, with the same 2 R symbols at both ends and one image. -/
structure IsTwins (K R : Nat) (T a b : List Int) : Prop where
  sa : Syms K a
  sb : Syms K b
  len : a.length = b.length
  ne : a ≠ b
  low : 2 * R ≤ a.length
  front : a.take (2 * R) = b.take (2 * R)
  back : a.drop (a.length - 2 * R) = b.drop (b.length - 2 * R)
  img : imgP K R T a = imgP K R T b
theorem IsTwins.symm {K R : Nat} {T a b : List Int} (h : IsTwins K R T a b) : IsTwins K R T b a :=
  ⟨h.sb, h.sa, h.len.symm, h.ne.symm, by rw [← h.len]; exact h.low, h.front.symm, h.back.symm, h.img.symm⟩
/-- Wherever one stands the other may stand. -/
theorem IsTwins.context {K R : Nat} {T a b : List Int} (h : IsTwins K R T a b) (u v : List Int) : imgP K R T (u ++ a ++ v) = imgP K R T (u ++ b ++ v) := by
  have hlen := h.len
  have hlow := h.low
  have fr : ∀ k, k < 2 * R → a[k]? = b[k]? := fun k hk => by
    have := congrArg (·[k]?) h.front
    simpa [List.getElem?_take, hk] using this
  have bk : ∀ k, a.length - 2 * R ≤ k → a[k]? = b[k]? := fun k hk => by
    have := congrArg (·[k - (a.length - 2 * R)]?) h.back
    simp only [List.getElem?_drop] at this
    rw [show a.length - 2 * R + (k - (a.length - 2 * R)) = k by omega, show b.length - 2 * R + (k - (a.length - 2 * R)) = k by omega] at this
    exact this
  have at_ : ∀ (c : List Int) (p : Nat), (u ++ c ++ v)[p]? = if p < u.length then u[p]? else if p < u.length + c.length then c[p - u.length]? else v[p - (u.length + c.length)]? := fun c p => by
    rw [List.getElem?_append]
    simp only [List.length_append, List.getElem?_append]
    split
    · split <;> rfl
    · split
      · omega
      · rfl
  refine List.ext_getElem (by rw [imgP_length, imgP_length]; simp [hlen]) fun i h1 h2 => ?_
  rw [imgP_length] at h1 h2
  have key : ((u ++ a ++ v).drop i).take (2 * R + 1) = ((u ++ b ++ v).drop i).take (2 * R + 1) ∨ (u.length ≤ i ∧ i + 2 * R < u.length + a.length) := by
    by_cases hin : u.length ≤ i ∧ i + 2 * R < u.length + a.length
    · exact .inr hin
    · left
      refine List.ext_getElem? fun j => ?_
      rw [List.getElem?_take, List.getElem?_take]
      split
      · rw [List.getElem?_drop, List.getElem?_drop, at_, at_, ← hlen]
        split
        · rfl
        · split
          · by_cases q : i < u.length
            · exact fr _ (by omega)
            · exact bk _ (by omega)
          · rfl
      · rfl
  have g1 := imgP_getD K R T (u ++ a ++ v) i h1
  have g2 := imgP_getD K R T (u ++ b ++ v) i h2
  simp only [List.getD_eq_getElem?_getD, List.getElem?_eq_getElem (show i < (imgP K R T (u ++ a ++ v)).length by rw [imgP_length]; exact h1), List.getElem?_eq_getElem (show i < (imgP K R T (u ++ b ++ v)).length by rw [imgP_length]; exact h2), Option.getD_some] at g1 g2
  rw [g1, g2]
  rcases key with key | ⟨k1, k2⟩
  · rw [key]
  · have win : ∀ (c : List Int), c.length = a.length → ((u ++ c ++ v).drop i).take (2 * R + 1) = (c.drop (i - u.length)).take (2 * R + 1) := fun c hc => by
      rw [List.append_assoc, List.drop_append, List.drop_eq_nil_of_le (show u.length ≤ i by omega), List.nil_append, List.drop_append_of_le_length (by omega), List.take_append_of_le_length (by simp; omega)]
    rw [win a rfl, win b hlen.symm]
    have e := congrArg (fun l => l.getD (i - u.length) 0) h.img
    rw [imgP_getD _ _ _ _ _ (by omega), imgP_getD _ _ _ _ _ (by omega)] at e
    simpa [List.getD_eq_getElem?_getD] using e

/-- The nodes of the pair are one. -/
def Diag (N p : Nat) : Prop := p / N = p % N
instance (N p : Nat) : Decidable (Diag N p) := by unfold Diag; exact inferInstance
theorem diag_mk {N u : Nat} (h : u < N) : Diag N (u * N + u) := by unfold Diag; rw [pair_div h, pair_mod h]
theorem Diag.eq {N p : Nat} (h : Diag N p) : p = p / N * N + p / N := by
  have := pair_eq p N
  rw [← h] at this; exact this.symm
/-- A way from a pair of equal nodes through pairs that are apart to a pair of equal nodes. -/
structure ApartWay (N : Nat) (adj : Nat → List Nat) (w : List Nat) : Prop where
  len : 3 ≤ w.length
  low : ∀ i, i < w.length → w.getD i 0 < N * N
  arr : ∀ i, i + 1 < w.length → w.getD (i + 1) 0 ∈ adj (w.getD i 0)
  fst : Diag N (w.getD 0 0)
  lst : Diag N (w.getD (w.length - 1) 0)
  inn : ∀ i, 0 < i → i + 1 < w.length → ¬ Diag N (w.getD i 0)
theorem last_diag {N : Nat} {W : Nat → Nat} (h0 : Diag N (W 0)) : ∀ i, ¬ Diag N (W i) → ∃ k, k < i ∧ Diag N (W k) ∧ ∀ j, k < j → j ≤ i → ¬ Diag N (W j)
  | 0, h => absurd h0 h
  | i + 1, h => by
    by_cases q : Diag N (W i)
    · exact ⟨i, by omega, q, fun j h1 h2 => by obtain rfl : j = i + 1 := by omega
                                               exact h⟩
    · obtain ⟨k, h1, h2, h3⟩ := last_diag h0 i q
      refine ⟨k, by omega, h2, fun j h4 h5 => ?_⟩
      by_cases e : j = i + 1
      · subst e; exact h
      · exact h3 j h4 (by omega)
theorem next_diag {N : Nat} {W : Nat → Nat} {i : Nat} (h : ¬ Diag N (W i)) : ∀ k, Diag N (W (i + k)) → ∃ m, i < m ∧ m ≤ i + k ∧ Diag N (W m) ∧ ∀ j, i ≤ j → j < m → ¬ Diag N (W j)
  | 0, hk => absurd hk h
  | k + 1, hk => by
    by_cases q : ∃ m, i < m ∧ m ≤ i + k ∧ Diag N (W m) ∧ ∀ j, i ≤ j → j < m → ¬ Diag N (W j)
    · obtain ⟨m, h1, h2, h3⟩ := q
      exact ⟨m, h1, by omega, h3⟩
    · refine ⟨i + (k + 1), by omega, Nat.le_refl _, hk, fun j h1 h2 hd => q ?_⟩
      obtain ⟨d, rfl⟩ : ∃ d, j = i + d := ⟨j - i, by omega⟩
      obtain ⟨m, m1, m2, m3⟩ := next_diag h d hd
      exact ⟨m, m1, by omega, m3⟩
theorem list_range_get (f : Nat → Nat) (n i : Nat) (h : i < n) : ((List.range n).map f).getD i 0 = f i := by simp [List.getD, h]
/-- Twins have such a way. -/
theorem IsTwins.way {K R : Nat} {T a b : List Int} (hK : 1 ≤ K) (hR : 1 ≤ R) (h : IsTwins K R T a b) : ∃ w, ApartWay (pw K (2 * R)) (pairL K (pw K (2 * R)) T) w ∧ 2 * R + (w.length - 1) ≤ a.length := by
  have hlen := h.len
  have hlow := h.low
  have hN := pw_pos (K := K) (2 * R) hK
  have na : ∀ i, i + 2 * R ≤ a.length → nodeAt K (2 * R) a i < pw K (2 * R) := fun i hi => node_lt h.sa hi
  have nb : ∀ i, i + 2 * R ≤ a.length → nodeAt K (2 * R) b i < pw K (2 * R) := fun i hi => node_lt h.sb (by omega)
  obtain ⟨W, hW⟩ : ∃ W : Nat → Nat, W = fun i => nodeAt K (2 * R) a i * pw K (2 * R) + nodeAt K (2 * R) b i := ⟨_, rfl⟩
  have hWi : ∀ i, W i = nodeAt K (2 * R) a i * pw K (2 * R) + nodeAt K (2 * R) b i := fun i => by rw [hW]
  have dg : ∀ i, i + 2 * R ≤ a.length → (Diag (pw K (2 * R)) (W i) ↔ nodeAt K (2 * R) a i = nodeAt K (2 * R) b i) := fun i hi => by
    unfold Diag; rw [hWi, pair_div (nb i hi), pair_mod (nb i hi)]
  have d0 : Diag (pw K (2 * R)) (W 0) := by
    rw [dg 0 (by omega)]; unfold nodeAt; rw [List.drop_zero, List.drop_zero, h.front]
  obtain ⟨n, hn⟩ : ∃ n, a.length = n + 2 * R := ⟨a.length - 2 * R, by omega⟩
  have dn : Diag (pw K (2 * R)) (W n) := by
    rw [dg n (by omega)]; unfold nodeAt
    have := h.back
    rw [← hlen, hn, Nat.add_sub_cancel] at this
    rw [this]
  have hex : ∃ i, i ≤ n ∧ ¬ Diag (pw K (2 * R)) (W i) := by
    apply Classical.byContradiction
    intro hno
    have hall : ∀ i, i ≤ n → nodeAt K (2 * R) a i = nodeAt K (2 * R) b i := fun i hi => (dg i (by omega)).1 (Classical.byContradiction fun q => hno ⟨i, hi, q⟩)
    apply h.ne
    have hget : ∀ i, i < n + 1 → ((List.range (n + 1)).map (nodeAt K (2 * R) a)).getD i 0 = nodeAt K (2 * R) a i := fun i hi => list_range_get _ _ _ hi
    have e1 := along_word (F := id) (way := (List.range (n + 1)).map (nodeAt K (2 * R) a)) hK hR h.sa h.low (by simp; omega) (fun i hi => hget i (by simpa using hi))
    have e2 := along_word (F := id) (way := (List.range (n + 1)).map (nodeAt K (2 * R) a)) hK hR h.sb (by omega) (by simp; omega) (fun i hi => by
      have hi : i < n + 1 := by simpa using hi
      show ((List.range (n + 1)).map (nodeAt K (2 * R) a)).getD i 0 = _
      rw [hget i hi, hall i (by omega)])
    rw [← e1, e2]
  obtain ⟨i, hi, hnd⟩ := hex
  obtain ⟨k, k1, k2, k3⟩ := last_diag d0 i hnd
  obtain ⟨m, m1, m2, m3, m4⟩ := next_diag hnd (n - i) (by rw [show i + (n - i) = n by omega]; exact dn)
  have hget : ∀ j, j < m - k + 1 → ((List.range (m - k + 1)).map fun j => W (k + j)).getD j 0 = W (k + j) := fun j hj => list_range_get _ _ _ hj
  refine ⟨(List.range (m - k + 1)).map fun j => W (k + j), ⟨by simp; omega, fun j hj => ?_, fun j hj => ?_, ?_, ?_, fun j j0 j1 => ?_⟩, by simp; omega⟩
  · rw [hget j (by simpa using hj), hWi]
    have : j < m - k + 1 := by simpa using hj
    exact pair_lt (na _ (by omega)) (nb _ (by omega))
  · have hj : j + 1 < m - k + 1 := by simpa using hj
    rw [hget j (by omega), hget (j + 1) hj, mem_pairL (by omega), hWi, hWi, pair_div (nb _ (by omega)), pair_mod (nb _ (by omega)), ← Nat.add_assoc]
    exact wayW_arr h.sa h.sb hlen h.img (by omega)
  · rw [hget 0 (by omega)]; exact k2
  · rw [List.length_map, List.length_range, Nat.add_sub_cancel, hget _ (by omega), show k + (m - k) = m by omega]; exact m3
  · have hj : j + 1 < m - k + 1 := by simpa using j1
    rw [hget j (by omega)]
    by_cases q : k + j ≤ i
    · exact k3 _ (by omega) q
    · exact m4 _ (by omega) (by omega)
/-- A way of pairs gives two words with one image. -/
theorem ways_words {K R : Nat} {T : List Int} {w : List Nat} (hK : 1 ≤ K) (hR : 1 ≤ R) (hw : 1 ≤ w.length) (low : ∀ i, i < w.length → w.getD i 0 < pw K (2 * R) * pw K (2 * R))
    (arr : ∀ i, i + 1 < w.length → w.getD (i + 1) 0 ∈ pairL K (pw K (2 * R)) T (w.getD i 0)) :
    (∀ i, i < w.length → nodeAt K (2 * R) (alongW K (2 * R) (· / pw K (2 * R)) w) i = w.getD i 0 / pw K (2 * R) ∧ nodeAt K (2 * R) (alongW K (2 * R) (· % pw K (2 * R)) w) i = w.getD i 0 % pw K (2 * R)) ∧
    imgP K R T (alongW K (2 * R) (· / pw K (2 * R)) w) = imgP K R T (alongW K (2 * R) (· % pw K (2 * R)) w) := by
  have hN := pw_pos (K := K) (2 * R) hK
  have fits : ∀ i, i + 1 < w.length → StepFits K (pw K (2 * R)) T (w.getD i 0) (w.getD (i + 1) 0) := fun i hi =>
    (fits_iff hK hR (low _ hi)).2 ((mem_pairL (by omega)).1 (arr i hi))
  have n1 := along_node (K := K) (m := 2 * R) (F := (· / pw K (2 * R))) (way := w) hK (div_lt_of (low 0 (by omega))) (fun i hi => (fits i hi).1)
  have n2 := along_node (K := K) (m := 2 * R) (F := (· % pw K (2 * R))) (way := w) hK (Nat.mod_lt _ (by omega)) (fun i hi => (fits i hi).2.1)
  refine ⟨fun i hi => ⟨n1 i hi, n2 i hi⟩, ?_⟩
  rw [img_eq (by rw [alongW_len, alongW_len])]
  intro i hi
  rw [alongW_len] at hi
  rw [n1 i (by omega), n2 i (by omega), alongW_get (by omega), alongW_get (by omega), Int.toNat_natCast, Int.toNat_natCast]
  exact (fits i (by omega)).2.2
/-- Such a way has twins. -/
theorem ApartWay.twins {K R : Nat} {T : List Int} {w : List Nat} (hK : 1 ≤ K) (hR : 1 ≤ R) (h : ApartWay (pw K (2 * R)) (pairL K (pw K (2 * R)) T) w) :
    IsTwins K R T (alongW K (2 * R) (· / pw K (2 * R)) w) (alongW K (2 * R) (· % pw K (2 * R)) w) := by
  have hN := pw_pos (K := K) (2 * R) hK
  have h3 := h.len
  obtain ⟨hn, hi⟩ := ways_words hK hR (by omega) h.low h.arr
  have la := alongW_len K (2 * R) (· / pw K (2 * R)) w
  have lb := alongW_len K (2 * R) (· % pw K (2 * R)) w
  have sa := alongW_syms (m := 2 * R) hK (· / pw K (2 * R)) w
  have sb := alongW_syms (m := 2 * R) hK (· % pw K (2 * R)) w
  generalize alongW K (2 * R) (· / pw K (2 * R)) w = a at *
  generalize alongW K (2 * R) (· % pw K (2 * R)) w = b at *
  have same : ∀ i, i < w.length → Diag (pw K (2 * R)) (w.getD i 0) → (a.drop i).take (2 * R) = (b.drop i).take (2 * R) := fun i hi hd => by
    obtain ⟨e1, e2⟩ := hn i hi
    have q1 := digs_numW hK _ (syms_take (syms_drop sa i) (2 * R))
    have q2 := digs_numW hK _ (syms_take (syms_drop sb i) (2 * R))
    rw [show ((a.drop i).take (2 * R)).length = 2 * R by simp; omega] at q1
    rw [show ((b.drop i).take (2 * R)).length = 2 * R by simp; omega] at q2
    rw [← q1, ← q2]
    show digs K (2 * R) (nodeAt K (2 * R) a i) = digs K (2 * R) (nodeAt K (2 * R) b i)
    rw [e1, e2, hd]
  refine ⟨sa, sb, by omega, fun e => ?_, by omega, ?_, ?_, hi⟩
  · subst e
    obtain ⟨e1, e2⟩ := hn 1 (by omega)
    exact h.inn 1 (by omega) (by omega) (e1.symm.trans e2)
  · have := same 0 (by omega) h.fst
    simpa using this
  · have := same (w.length - 1) (by omega) h.lst
    rw [List.take_of_length_le (by simp; omega), List.take_of_length_le (by simp; omega)] at this
    rw [show a.length - 2 * R = w.length - 1 by omega, show b.length - 2 * R = w.length - 1 by omega]
    exact this

/-- The least length of twins. -/
def TwinLen (K R : Nat) (T : List Int) (n : Nat) : Prop := (∃ a b, IsTwins K R T a b ∧ a.length = n) ∧ ∀ a b, IsTwins K R T a b → n ≤ a.length
theorem TwinLen.unique {K R : Nat} {T : List Int} {n m : Nat} (h : TwinLen K R T n) (k : TwinLen K R T m) : n = m := by
  obtain ⟨⟨a, b, h1, rfl⟩, h2⟩ := h
  obtain ⟨⟨c, d, k1, rfl⟩, k2⟩ := k
  exact Nat.le_antisymm (h2 _ _ k1) (k2 _ _ h1)
theorem way_twinLen {K R : Nat} {T : List Int} {w : List Nat} (hK : 1 ≤ K) (hR : 1 ≤ R) (h : ApartWay (pw K (2 * R)) (pairL K (pw K (2 * R)) T) w)
    (hm : ∀ u, ApartWay (pw K (2 * R)) (pairL K (pw K (2 * R)) T) u → w.length ≤ u.length) : TwinLen K R T (2 * R + (w.length - 1)) := by
  refine ⟨⟨_, _, h.twins hK hR, alongW_len ..⟩, fun a b hab => ?_⟩
  obtain ⟨u, hu, hl⟩ := hab.way hK hR
  have := hm u hu
  omega
theorem no_twins {K R : Nat} {T : List Int} (hK : 1 ≤ K) (hR : 1 ≤ R) (hm : ∀ u, ¬ ApartWay (pw K (2 * R)) (pairL K (pw K (2 * R)) T) u) (a b : List Int) : ¬ IsTwins K R T a b := fun h => by
  obtain ⟨u, hu, _⟩ := h.way hK hR
  exact hm u hu
end Go.Proofs.YtmhiambkfdkkbaaDoor

namespace Go.Proofs.YtmhiambkfdkkbaaDoor

/-- The table with the radius R + d. -/
def wideT (K R d : Nat) (T : List Int) : List Int := (List.range (pw K (2 * (R + d) + 1))).map fun i => T.getD (numW K (((digs K (2 * (R + d) + 1) i).drop d).take (2 * R + 1))) 0
theorem wideT_length (K R d : Nat) (T : List Int) : (wideT K R d T).length = pw K (2 * (R + d) + 1) := by simp [wideT]
theorem wideT_ok {K R d : Nat} {T : List Int} (h : RuleOk K R T) (hd : R + d ≤ 3) : RuleOk K (R + d) (wideT K R d T) :=
  ⟨h.k1, h.k4, hd, wideT_length .., fun y hy => by
    obtain ⟨i, _, rfl⟩ := List.mem_map.1 hy
    exact h.syms.getD (by have := h.k1; omega) _⟩
theorem wideT_at {K R d : Nat} {T : List Int} (hK : 1 ≤ K) (w : List Int) (hw : Syms K w) (hl : w.length = 2 * (R + d) + 1) : (wideT K R d T).getD (numW K w) 0 = T.getD (numW K ((w.drop d).take (2 * R + 1))) 0 := by
  have hlt := numW_lt w hw
  rw [hl] at hlt
  have : (wideT K R d T).getD (numW K w) 0 = T.getD (numW K (((digs K (2 * (R + d) + 1) (numW K w)).drop d).take (2 * R + 1))) 0 := by simp [wideT, List.getD, hlt]
  rw [this, ← hl, digs_numW hK w hw]
/-- The image under the wider rule is that of the word without d symbols on both sides. -/
theorem img_wide {K R d : Nat} {T : List Int} (hK : 1 ≤ K) (x : List Int) (hx : Syms K x) : imgP K (R + d) (wideT K R d T) x = imgP K R T ((x.drop d).take (x.length - 2 * d)) := by
  refine List.ext_getElem (by rw [imgP_length, imgP_length]; simp; omega) fun i h1 h2 => ?_
  have e1 := imgP_getD K (R + d) (wideT K R d T) x i (by rw [imgP_length] at h1; exact h1)
  have e2 := imgP_getD K R T ((x.drop d).take (x.length - 2 * d)) i (by rw [imgP_length] at h2; exact h2)
  rw [imgP_length] at h1
  rw [List.getD_eq_getElem?_getD, List.getElem?_eq_getElem (by rw [imgP_length]; exact h1), Option.getD_some] at e1
  rw [List.getD_eq_getElem?_getD, List.getElem?_eq_getElem h2, Option.getD_some] at e2
  rw [e1, e2, wideT_at hK _ (syms_take (syms_drop hx i) _) (by simp; omega)]
  congr 2
  rw [List.drop_take, List.take_take, List.drop_drop, List.drop_take, List.drop_drop, List.take_take, Nat.add_comm d i]
  congr 1
  omega
/-- What has twins has them with a greater radius, and back. -/
theorem twins_wide {K R d : Nat} {T : List Int} (hK : 1 ≤ K) {a b : List Int} (h : IsTwins K R T a b) :
    ∃ a' b', IsTwins K (R + d) (wideT K R d T) a' b' := by
  have hlen := h.len
  have hz : Syms K (List.replicate (2 * (R + d)) 0) := fun y hy => by rw [List.eq_of_mem_replicate hy]; omega
  have sy : ∀ c, Syms K c → Syms K (List.replicate (2 * (R + d)) 0 ++ c ++ List.replicate (2 * (R + d)) 0) := fun c hc y hy => by
    rcases List.mem_append.1 hy with hy | hy
    · rcases List.mem_append.1 hy with hy | hy
      · exact hz y hy
      · exact hc y hy
    · exact hz y hy
  refine ⟨_, _, sy a h.sa, sy b h.sb, by simp [hlen], fun e => h.ne ?_, by simp only [List.length_append, List.length_replicate]; omega, ?_, ?_, ?_⟩
  · rw [List.append_assoc, List.append_assoc] at e
    exact List.append_cancel_right (List.append_cancel_left e)
  · rw [List.append_assoc, List.append_assoc, List.take_append_of_le_length (by simp), List.take_append_of_le_length (by simp)]
  · rw [List.drop_left' (by simp only [List.length_append, List.length_replicate]; omega), List.drop_left' (by simp only [List.length_append, List.length_replicate]; omega)]
  · rw [img_wide hK _ (sy a h.sa), img_wide hK _ (sy b h.sb)]
    have cut : ∀ c : List Int, ((List.replicate (2 * (R + d)) (0 : Int) ++ c ++ List.replicate (2 * (R + d)) 0).drop d).take ((List.replicate (2 * (R + d)) (0 : Int) ++ c ++ List.replicate (2 * (R + d)) 0).length - 2 * d) = List.replicate (2 * (R + d) - d) 0 ++ c ++ List.replicate (2 * (R + d) - d) 0 := fun c => by
      have hL : (List.replicate (2 * (R + d)) (0 : Int) ++ c ++ List.replicate (2 * (R + d)) 0).length = 4 * (R + d) + c.length := by simp only [List.length_append, List.length_replicate]; omega
      rw [hL, List.append_assoc, List.drop_append_of_le_length (by rw [List.length_replicate]; omega), List.drop_replicate, List.take_append, List.take_of_length_le (by rw [List.length_replicate]; omega), List.take_append, List.take_of_length_le (by rw [List.length_replicate]; omega), List.take_replicate, List.append_assoc]
      congr 3
      rw [List.length_replicate]; omega
    rw [cut a, cut b]
    exact h.context _ _
theorem wide_twins {K R d : Nat} {T : List Int} (hK : 1 ≤ K) {a b : List Int} (h : IsTwins K (R + d) (wideT K R d T) a b) :
    ∃ a' b', IsTwins K R T a' b' := by
  have hlen := h.len
  have hlow := h.low
  have hc : ∀ c : List Int, c.length = a.length → c = c.take d ++ ((c.drop d).take (c.length - 2 * d) ++ c.drop (c.length - d)) := fun c hc => by
    have e1 := List.take_append_drop d c
    have e2 := List.take_append_drop (c.length - 2 * d) (c.drop d)
    rw [List.drop_drop, show d + (c.length - 2 * d) = c.length - d by omega] at e2
    rw [e2, e1]
  have fr : a.take d = b.take d := by
    have := congrArg (List.take d) h.front
    rwa [List.take_take, List.take_take, Nat.min_eq_left (by omega)] at this
  have bk : a.drop (a.length - d) = b.drop (b.length - d) := by
    have := congrArg (List.drop (2 * (R + d) - d)) h.back
    rw [List.drop_drop, List.drop_drop] at this
    rwa [show a.length - 2 * (R + d) + (2 * (R + d) - d) = a.length - d by omega, show b.length - 2 * (R + d) + (2 * (R + d) - d) = b.length - d by omega] at this
  refine ⟨(a.drop d).take (a.length - 2 * d), (b.drop d).take (b.length - 2 * d), syms_take (syms_drop h.sa _) _, syms_take (syms_drop h.sb _) _, by simp; omega, fun e => h.ne ?_, by simp; omega, ?_, ?_, ?_⟩
  · rw [hc a rfl, hc b hlen.symm, fr, e, bk]
  · have := congrArg (fun l => (l.drop d).take (2 * R)) h.front
    simp only [List.drop_take, List.take_take] at this
    rw [List.take_take, List.take_take, Nat.min_eq_left (by omega), Nat.min_eq_left (by omega)]
    rwa [Nat.min_eq_left (by omega)] at this
  · have := congrArg (fun l => (l.drop d).take (2 * R)) h.back
    simp only [List.drop_drop] at this
    have e : ∀ c : List Int, c.length = a.length → ((c.drop d).take (c.length - 2 * d)).drop (((c.drop d).take (c.length - 2 * d)).length - 2 * R) = (c.drop (c.length - 2 * (R + d) + d)).take (2 * R) := fun c hc => by
      rw [List.drop_take, List.drop_drop]
      simp only [List.length_take, List.length_drop]
      rw [show d + (min (c.length - 2 * d) (c.length - d) - 2 * R) = c.length - 2 * (R + d) + d by omega]
      congr 1
      omega
    rw [e a rfl, e b hlen.symm]
    exact this
  · rw [← img_wide hK _ h.sa, ← img_wide hK _ h.sb]
    exact h.img
end Go.Proofs.YtmhiambkfdkkbaaDoor

namespace Go.Proofs.YtmhiambkfdkkbaaDoor
open Go.RowKit
set_option maxRecDepth 100000

set_option maxHeartbeats 1000000 in
theorem widened1_any (K R d : Nat) (va : Option Addr) (vn vc : Nat) (T : List Int) (p q : Nat) (v : Value) (ys : List Int) (w : World)
    (h : IntsAt w (.slice va vn vc) T) (hr : RuleOk K R T) (hv : IntsAt w v ys) (hy : Syms K ys) (hyl : ys.length = 2 * (R + d) + 1)
    (hRd : R + d ≤ 3)
    (x0 : w.cell? ⟨p, 0, none⟩ = some (.int .i64 K)) (x1 : w.cell? ⟨p, 1, none⟩ = some (.int .i64 R)) (x2 : w.cell? ⟨p, 2, none⟩ = some (.slice va vn vc)) (x3 : w.cell? ⟨q, 0, none⟩ = some (.int .i64 d)) :
    Calls Tryd.prog 95 #[v, .pointer (some ⟨p, 0, none⟩), .pointer (some ⟨q, 0, none⟩)] w (Ret1 (fun x _ => x = .int .i64 (T.getD (numW K ((ys.drop d).take (2 * R + 1))) 0)) w) := by
  have lv := hv.len
  obtain ⟨u, hu, hiu⟩ := hv.mid d (ys.length - d) (by omega) (by omega)
  have eL : (ys.take (ys.length - d)).drop d = (ys.drop d).take (2 * R + 1) := by
    rw [List.drop_take]; congr 1; omega
  rw [eL] at hiu
  have hD : (ys.length : Int) - (d : Int) = ((ys.length - d : Nat) : Int) := by omega
  have hle : ys.length ≤ 7 := by omega
  have hsy : Syms K ((ys.drop d).take (2 * R + 1)) := syms_take (syms_drop hy _) _
  have hsl : ((ys.drop d).take (2 * R + 1)).length = 2 * R + 1 := by simp; omega
  generalize hY : T.getD (numW K ((ys.drop d).take (2 * R + 1))) 0 = Y
  generalize (ys.drop d).take (2 * R + 1) = zs at *
  obtain ⟨e, hee⟩ : ∃ e, ys.length - d = e := ⟨_, rfl⟩
  rw [hee] at hD hu
  have he7 : e ≤ 7 := by omega
  have hwe : IntKind.i64.wrap (e : Int) = e := wrapK (by omega) (by omega)
  obtain ⟨L, hL⟩ : ∃ L, ys.length = L := ⟨_, rfl⟩
  rw [hL] at lv hD hle
  have hd3 : d ≤ 3 := by omega
  replace hY := Lib.hid hY
  replace h := Lib.hid h
  replace hv := Lib.hid hv
  replace hy := Lib.hid hy
  replace hsy := Lib.hid hsy
  replace hsl := Lib.hid hsl
  replace hyl := Lib.hid hyl
  replace hr := Lib.hid hr
  replace hiu := Lib.hid hiu
  replace hL := Lib.hid hL
  clear hee eL
  go_enter Tryd.func95, Tryd.ntmps95
  go_upto_region 1 with fail
  refine wp_region_plan (fun w' => w'.cell? ⟨p, 0, none⟩ = some (.int .i64 K) ∧ w'.cell? ⟨p, 1, none⟩ = some (.int .i64 R) ∧ w'.cell? ⟨p, 2, none⟩ = some (.slice va vn vc) ∧ w'.cell? ⟨q, 0, none⟩ = some (.int .i64 d)) 9 [(0, true), (1, true), (2, true), (3, true), (4, true), (5, true), (6, true), (7, true), (8, false)] (by kernel_rfl) (by kernel_rfl) ?_
  have hS : w.drew.cell? ⟨p, 0, none⟩ = some (.int .i64 K) ∧ w.drew.cell? ⟨p, 1, none⟩ = some (.int .i64 R) ∧ w.drew.cell? ⟨p, 2, none⟩ = some (.slice va vn vc) ∧ w.drew.cell? ⟨q, 0, none⟩ = some (.int .i64 d) := ⟨x0, x1, x2, x3⟩
  refine headY (v := ?_) (some 5) rfl rfl (Or.inl ⟨by rfl, ?_⟩) hS ?_
  rotate_left
  · rintro W' ⟨s0, s1, s2, s3⟩; go_simp; try with_reducible rfl
  simp only [Act.put, List.setIfInBounds_toArray, List.set_cons_zero, List.set_cons_succ]
  refine headY (v := ?_) (some 6) rfl rfl (Or.inl ⟨by rfl, ?_⟩) hS ?_
  rotate_left
  · rintro W' ⟨s0, s1, s2, s3⟩; go_simp; try with_reducible rfl
  simp only [Act.put, List.setIfInBounds_toArray, List.set_cons_zero, List.set_cons_succ]
  refine headY (v := ?_) (some 7) rfl rfl (Or.inl ⟨by rfl, ?_⟩) hS ?_
  rotate_left
  · rintro W' ⟨s0, s1, s2, s3⟩; go_simp; try with_reducible rfl
  simp only [Act.put, List.setIfInBounds_toArray, List.set_cons_zero, List.set_cons_succ]
  refine headY (v := ?_) (some 8) rfl rfl (Or.inl ⟨by rfl, ?_⟩) hS ?_
  rotate_left
  · rintro W' ⟨s0, s1, s2, s3⟩; go_simp; try with_reducible rfl
  simp only [Act.put, List.setIfInBounds_toArray, List.set_cons_zero, List.set_cons_succ]
  refine headY (v := ?_) (some 9) rfl rfl (Or.inl ⟨by rfl, ?_⟩) hS ?_
  rotate_left
  · rintro W' ⟨s0, s1, s2, s3⟩; go_simp; try with_reducible rfl
  simp only [Act.put, List.setIfInBounds_toArray, List.set_cons_zero, List.set_cons_succ]
  refine headY (v := ?_) (some 10) rfl rfl (Or.inl ⟨by rfl, ?_⟩) hS ?_
  rotate_left
  · rintro W' ⟨s0, s1, s2, s3⟩; go_simp; try with_reducible rfl
  simp only [Act.put, List.setIfInBounds_toArray, List.set_cons_zero, List.set_cons_succ]
  refine headY (v := ?_) (some 11) rfl rfl (Or.inl ⟨by rfl, ?_⟩) hS ?_
  rotate_left
  · rintro W' ⟨s0, s1, s2, s3⟩; go_simp; try with_reducible rfl
  simp only [Act.put, List.setIfInBounds_toArray, List.set_cons_zero, List.set_cons_succ]
  refine headY (v := ?_) (some 12) rfl rfl (Or.inl ⟨by rfl, ?_⟩) hS ?_
  rotate_left
  · rintro W' ⟨s0, s1, s2, s3⟩; go_simp; try with_reducible rfl
  simp only [Act.put, List.setIfInBounds_toArray, List.set_cons_zero, List.set_cons_succ]
  refine headC rfl (fun KK hK => ?_)
  go_simp
  refine (symbol_any K R va vn vc T u zs _ h.out.drew hr.out hiu.out.drew hsy.out hsl.out).mono ?_
  rintro e w1 ⟨x, rfl, b1, rfl⟩
  rw [hY.out]
  have hS1 : w1.cell? ⟨p, 0, none⟩ = some (.int .i64 K) ∧ w1.cell? ⟨p, 1, none⟩ = some (.int .i64 R) ∧ w1.cell? ⟨p, 2, none⟩ = some (.slice va vn vc) ∧ w1.cell? ⟨q, 0, none⟩ = some (.int .i64 d) := ⟨cell_keep b1 hS.1, cell_keep b1 hS.2.1, cell_keep b1 hS.2.2.1, cell_keep b1 hS.2.2.2⟩
  refine hK _ _ hS1 ?_
  clear hK KK
  refine head0 ?_
  simp only [List.drop_succ_cons, List.drop_zero]
  clear hS hS1
  go_wp2
  refine NoPanic.normal ?_
  go_wp2
  go_ret
  exact ⟨_, rfl, Below.step ((Below.refl _ _).drew) b1, rfl⟩
theorem eg_widened1 (args : Array Value) (w : World) : (callFunc 95 args).run Tryd.prog w = .ok (.enter 95 args) w := by kernel_rfl
theorem madeP_wide (K R d : Nat) (T : List Int) : madeP K (2 * (R + d) + 1) (fun ys => T.getD (numW K ((ys.drop d).take (2 * R + 1))) 0) (pw K (2 * (R + d) + 1)) = wideT K R d T := rfl

set_option maxHeartbeats 1000000 in
theorem widened_any (K R d : Nat) (va : Option Addr) (vn vc : Nat) (T : List Int) (w : World) (h : IntsAt w (.slice va vn vc) T) (hr : RuleOk K R T) (hRd : R + d ≤ 3) (Ri : Int) (hRi : Ri = ((R + d : Nat) : Int)) :
    Calls Tryd.prog 64 #[.agg #[.int .i64 K, .int .i64 R, .slice va vn vc], .int .i64 Ri] w (Ret1 (fun x w' => ∃ a n c, x = .agg #[.int .i64 K, .int .i64 ((R + d : Nat) : Int), .slice a n c] ∧ OwnI w.heap.size w' (.slice a n c) (wideT K R d T)) w) := by
  have b0 := Below.step (belowAlloc w (.cells #[.int .i64 K, .int .i64 R, .slice va vn vc] 24)) (belowAlloc _ (.cells #[.int .i64 0, .int .i64 0, .slice none 0 0] 24))
  have b3 := Below.step b0 (belowAlloc _ (.cells #[.int .i64 d] 3))
  have q1 : Box3 (((w.alloc (.cells #[.int .i64 K, .int .i64 R, .slice va vn vc] 24)).alloc (.cells #[.int .i64 0, .int .i64 0, .slice none 0 0] 24)).alloc (.cells #[.int .i64 d] 3)) w.heap.size (.int .i64 K) (.int .i64 R) (.slice va vn vc) := by simp [Box3, go_sem]
  have q2 : Box3 (((w.alloc (.cells #[.int .i64 K, .int .i64 R, .slice va vn vc] 24)).alloc (.cells #[.int .i64 0, .int .i64 0, .slice none 0 0] 24)).alloc (.cells #[.int .i64 d] 3)) (w.heap.size + 1) (.int .i64 0) (.int .i64 0) (.slice none 0 0) := by simp [Box3, go_sem]
  have q3 : (((w.alloc (.cells #[.int .i64 K, .int .i64 R, .slice va vn vc] 24)).alloc (.cells #[.int .i64 0, .int .i64 0, .slice none 0 0] 24)).alloc (.cells #[.int .i64 d] 3)).cell? ⟨w.heap.size + 2, 0, none⟩ = some (.int .i64 d) := by simp [go_sem]
  have hk1 := hr.k1
  have hk4 := hr.k4
  have hR3 := hr.r3
  have hsub : Ri - (R : Int) = (d : Int) := by omega
  have hRi3 : 0 ≤ Ri ∧ Ri ≤ 3 := by omega
  have h3 := h.below b3
  obtain ⟨W3, hW3⟩ : ∃ W3 : World, W3 = ((w.alloc (.cells #[.int .i64 K, .int .i64 R, .slice va vn vc] 24)).alloc (.cells #[.int .i64 0, .int .i64 0, .slice none 0 0] 24)).alloc (.cells #[.int .i64 d] 3) := ⟨_, rfl⟩
  have s3 : W3.heap.size = w.heap.size + 3 := by rw [hW3]; simp
  rw [← hW3] at b3 q1 q2 q3 h3
  replace hRi := Lib.hid hRi
  replace hr := Lib.hid hr
  replace hW3 := Lib.hid hW3
  replace s3 := Lib.hid s3
  replace q2 := Lib.hid q2
  replace h3 := Lib.hid h3
  go_enter Tryd.func64, Tryd.ntmps64
  go_wp2_with fail
  rw [← hW3.out]
  refine (made_two K (R + d) _ (.pointer (some ⟨w.heap.size, 0, none⟩)) (.pointer (some ⟨w.heap.size + 2, 0, none⟩)) (fun ys => T.getD (numW K ((ys.drop d).take (2 * R + 1))) 0) W3 hk1 hk4 hRd Ri hRi.out eg_widened1 (fun v ys w' hB hv hy hyl => by
    have q11 := q1.below hB
    exact widened1_any K R d va vn vc T _ _ v ys w' (h3.out.below hB) hr.out hv hy hyl hRd q11.1.1 q11.1.2.1 q11.1.2.2 (cell_keep hB q3))).mono ?_
  rintro e w4 ⟨x, rfl, b4, a, n, c, rfl, ho⟩
  rw [madeP_wide] at ho
  obtain ⟨⟨y0, y1, y2⟩, f0, f1, f2⟩ := q2.out.below b4
  replace ho := Lib.hid ho
  clear q1 q3
  go_wp2
  refine bodyPost_ret (v := .agg #[.int .i64 K, .int .i64 ((R + d : Nat) : Int), .slice a n c]) (by simp [results, Tryd.results64, go_sem, y0, y1, y2]) rfl ⟨_, rfl, below_set3 (Below.step b3 b4) (Nat.le_succ _) _ _ _, a, n, c, rfl, ?_⟩
  have := s3.out
  exact (((ho.out.setBelowBase (a := ⟨w.heap.size + 1, 0, none⟩) (by simp; omega) _).setBelowBase (a := ⟨w.heap.size + 1, 1, none⟩) (by simp; omega) _).setBelowBase (a := ⟨w.heap.size + 1, 2, none⟩) (by simp; omega) _).mono (by omega)
end Go.Proofs.YtmhiambkfdkkbaaDoor

namespace Go.Proofs.YtmhiambkfdkkbaaDoor

/-- What goes on from a node. -/
def compl (K N : Nat) (T : List Int) : Nat → List Int → List (List Int)
  | _, [] => [[]]
  | node, y :: ws => (List.range K).flatMap fun s => if T.getD (node * K + s) 0 = y then (compl K N T ((node * K + s) % N) ws).map (fun c => (s : Int) :: c) else []
/-- By the first t symbols. -/
def complU (K N : Nat) (T : List Int) (node : Nat) (y : Int) (ws : List Int) (t : Nat) : List (List Int) :=
  (List.range t).flatMap fun s => if T.getD (node * K + s) 0 = y then (compl K N T ((node * K + s) % N) ws).map (fun c => (s : Int) :: c) else []
theorem compl_cons (K N : Nat) (T : List Int) (node : Nat) (y : Int) (ws : List Int) : compl K N T node (y :: ws) = complU K N T node y ws K := rfl
theorem complU_succ (K N : Nat) (T : List Int) (node : Nat) (y : Int) (ws : List Int) (t : Nat) :
    complU K N T node y ws (t + 1) = complU K N T node y ws t ++ if T.getD (node * K + t) 0 = y then (compl K N T ((node * K + t) % N) ws).map (fun c => (t : Int) :: c) else [] := by
  simp [complU, List.range_succ]

theorem flatMap_one {α : Type} (K : Nat) (g : Nat → List α) (s : Nat) (hs : s < K) (h : ∀ t, t < K → t ≠ s → g t = []) : (List.range K).flatMap g = g s := by
  induction K with
  | zero => omega
  | succ K ih =>
    rw [List.range_succ, List.flatMap_append, List.flatMap_singleton]
    by_cases e : s = K
    · subst e
      have : (List.range s).flatMap g = [] := List.flatMap_eq_nil_iff.2 fun t ht => h t (by have := List.mem_range.1 ht; omega) (by have := List.mem_range.1 ht; omega)
      rw [this, List.nil_append]
    · rw [ih (by omega) (fun t ht hne => h t (by omega) hne), h K (by omega) (fun e2 => e e2.symm), List.append_nil]

/-- Where the last place permutes just one word goes on. -/
theorem compl_one {K R : Nat} {T : List Int} (h : RuleOk K R T) (hp : unlikeP K T 1 = true) (ws : List Int) (hw : Syms K ws) (node : Nat) (hn : node < pw K (2 * R)) : (compl K (pw K (2 * R)) T node ws).length = 1 := by
  have h1 := h.k1
  induction ws generalizing node with
  | nil => rfl
  | cons y ws ih =>
    have hy := hw y (by simp)
    have hl := h.half.2
    have hf := unlikeP_full hp (node * K) (by rw [hl]; exact Nat.mul_lt_mul_of_pos_right hn (by omega)) (by rw [Nat.div_one, Nat.mul_mod_left])
    obtain ⟨s, hs, he⟩ := fullP_all h1 h.syms hf y.toNat (by omega)
    rw [Nat.mul_one] at he
    have hinj := (fullP_iff h1 h.k4 h.syms 1 _).1 hf
    rw [compl, flatMap_one K _ s hs]
    · rw [if_pos (by omega), List.length_map]
      exact ih (fun x hx => hw x (by simp [hx])) _ (Nat.mod_lt _ (pw_pos _ h1))
    · intro t ht hne
      rw [if_neg]
      intro e
      rcases Nat.lt_or_ge s t with hst | hst
      · have := hinj s t hst ht; rw [Nat.mul_one, Nat.mul_one] at this; exact this (by omega)
      · have := hinj t s (by omega) hs; rw [Nat.mul_one, Nat.mul_one] at this; exact this (by omega)

/-- All preimages, begin by begin. -/
def allBefore (K R : Nat) (T ws : List Int) (n : Nat) : List (List Int) := (List.range n).flatMap fun node => (compl K (pw K (2 * R)) T node ws).map fun c => digs K (2 * R) node ++ c
theorem allBefore_succ (K R : Nat) (T ws : List Int) (n : Nat) : allBefore K R T ws (n + 1) = allBefore K R T ws n ++ (compl K (pw K (2 * R)) T n ws).map fun c => digs K (2 * R) n ++ c := by
  simp [allBefore, List.range_succ]

/-- How many begin so. -/
def begins (n : Nat) (ends l : List Int) : Bool := decide (n ≤ l.length) && decide (l.take n = ends)
theorem begins_count {K R : Nat} {T : List Int} (h : RuleOk K R T) (hp : unlikeP K T 1 = true) (ws ends : List Int) (hw : Syms K ws) (he : Syms K ends) (hl : ends.length = 2 * R) :
    ((allBefore K R T ws (pw K (2 * R))).filter (begins (2 * R) ends)).length = 1 := by
  have h1 := h.k1
  have hlt := numW_lt ends he
  rw [hl] at hlt
  have hb : ∀ node, node < pw K (2 * R) → ∀ c, begins (2 * R) ends (digs K (2 * R) node ++ c) = decide (node = numW K ends) := fun node hn c => by
    have e1 : (digs K (2 * R) node ++ c).take (2 * R) = digs K (2 * R) node := List.take_left' (digs_length ..)
    rw [begins, e1, Bool.eq_iff_iff]
    simp only [List.length_append, digs_length, Bool.and_eq_true, decide_eq_true_eq]
    constructor
    · rintro ⟨_, e⟩; rw [← e, numW_digs h1 _ _ hn]
    · rintro rfl
      refine ⟨by omega, ?_⟩
      have := digs_numW h1 ends he
      rwa [hl] at this
  have hf : (allBefore K R T ws (pw K (2 * R))).filter (begins (2 * R) ends) = (compl K (pw K (2 * R)) T (numW K ends) ws).map fun c => digs K (2 * R) (numW K ends) ++ c := by
    rw [allBefore, List.filter_flatMap, flatMap_one _ _ (numW K ends) hlt]
    · refine List.filter_eq_self.2 fun l hl => ?_
      obtain ⟨c, _, rfl⟩ := List.mem_map.1 hl
      rw [hb _ hlt]; simp
    · intro t ht hne
      refine List.filter_eq_nil_iff.2 fun l hl => ?_
      obtain ⟨c, _, rfl⟩ := List.mem_map.1 hl
      rw [hb _ ht]; simpa using hne
  rw [hf, List.length_map]
  exact compl_one h hp ws hw _ hlt

/-- The next word: the last symbols, all K - 1, become 0; the one ahead of them is one more. -/
theorem numW_rep_max {K : Nat} (hK : 1 ≤ K) (j : Nat) : numW K (List.replicate j ((K : Int) - 1)) + 1 = pw K j := by
  induction j with
  | zero => rfl
  | succ j ih =>
    rw [List.replicate_succ', numW_snoc, pw_succ, ← ih]
    have : ((K : Int) - 1).toNat = K - 1 := by omega
    rw [this, Nat.add_mul]
    omega
theorem numW_rep_zero (K j : Nat) : numW K (List.replicate j 0) = 0 := by
  induction j with
  | zero => rfl
  | succ j ih => rw [List.replicate_succ', numW_snoc, ih]; simp
theorem next_word {K n x : Nat} (hK : 1 ≤ K) (hx : x < pw K n) (u : List Int) (a : Int) (j : Nat) (h : digs K n x = u ++ [a] ++ List.replicate j ((K : Int) - 1)) (ha : a < (K : Int) - 1) :
    digs K n (x + 1) = u ++ [a + 1] ++ List.replicate j 0 := by
  have hs := digs_syms hK n x
  have hl := congrArg List.length h
  have hn := congrArg (numW K) h
  rw [digs_length] at hl
  rw [numW_digs hK _ _ hx, numW_append, List.length_replicate, numW_snoc] at hn
  rw [h] at hs
  have hu : Syms K u := fun y hy => hs y (by simp [hy])
  have ha0 := hs a (by simp)
  have hw : Syms K (u ++ [a + 1] ++ List.replicate j 0) := by
    intro y hy
    rcases List.mem_append.1 hy with hy | hy
    · exact syms_snoc (by omega) (by omega) hu y hy
    · have := List.eq_of_mem_replicate hy; omega
  have e := digs_numW hK _ hw
  have hlen : (u ++ [a + 1] ++ List.replicate j 0).length = n := by simp at hl ⊢; omega
  rw [hlen] at e
  rw [← e]
  congr 1
  rw [numW_append, List.length_replicate, numW_snoc, numW_rep_zero, show (a + 1).toNat = a.toNat + 1 by omega, ← Nat.add_assoc, Nat.add_mul (numW K u * K + a.toNat)]
  have := numW_rep_max hK j
  omega
theorem digs_last {K n x : Nat} (hK : 1 ≤ K) (hx : x < pw K n) (h : digs K n x = List.replicate n ((K : Int) - 1)) : x + 1 = pw K n := by
  have hn := congrArg (numW K) h
  rw [numW_digs hK _ _ hx] at hn
  rw [hn, numW_rep_max hK]
theorem digs_zero (K n : Nat) : digs K n 0 = List.replicate n 0 := by
  induction n with
  | zero => rfl
  | succ n ih => rw [digs, Nat.zero_div, ih, List.replicate_succ']; simp
end Go.Proofs.YtmhiambkfdkkbaaDoor

namespace Go.Proofs.YtmhiambkfdkkbaaDoor
open Go.RowKit
set_option maxRecDepth 100000

theorem set_here (u : List Int) (a y : Int) (r : List Int) : (u ++ [a] ++ r).set u.length y = u ++ [y] ++ r := by
  rw [List.append_assoc, List.set_append_right _ _ (by omega)]; simp

end Go.Proofs.YtmhiambkfdkkbaaDoor

namespace Go.Proofs.YtmhiambkfdkkbaaDoor
open Go.RowKit
set_option maxRecDepth 100000

def sOverlap : ByteArray := ⟨#[111, 118, 101, 114, 108, 97, 112]⟩
/-- rule.Small's answer. -/
def smallP (k R : Int) (T : List Int) : PErr :=
  match checkP k R T with
  | some t => some t
  | none => if 256 < T.length then fresh sRule 0 4 else none
theorem smallP_ok {K R : Nat} {T : List Int} (h : RuleOk K R T) : smallP K R T = if 256 < T.length then fresh sRule 0 4 else none := by
  unfold smallP; rw [h.check]
theorem smallP_none {k R : Int} {T : List Int} (h : smallP k R T = none) : checkP k R T = none ∧ T.length ≤ 256 := by
  unfold smallP at h
  cases hc : checkP k R T with
  | some t => rw [hc] at h; cases h
  | none =>
    rw [hc] at h
    refine ⟨rfl, ?_⟩
    by_cases hl : 256 < T.length
    · rw [if_pos hl] at h; simp [fresh] at h
    · omega

theorem small_any (r : Nat → Addr) (k R : Int) (va : Option Addr) (vn vc : Nat) (T : List Int) (w : World) (hg : Glob r w) (h : IntsAt w (.slice va vn vc) T) :
    Calls Tryd.prog 32 #[.agg #[.int .i64 k, .int .i64 R, .slice va vn vc]] w (Ret1 (fun x w' => ErrIs r w' (smallP k R T) x) w) := by
  have b0 := belowAlloc w (.cells #[.int .i64 k, .int .i64 R, .slice va vn vc] 24)
  have q : Box3 (w.alloc (.cells #[.int .i64 k, .int .i64 R, .slice va vn vc] 24)) w.heap.size (.int .i64 k) (.int .i64 R) (.slice va vn vc) := by simp [Box3, go_sem]
  have lT := h.len
  replace hg := Lib.hid (hg.below b0)
  replace h := Lib.hid (h.below b0)
  obtain ⟨e0, hsm, he0⟩ : ∃ e0, (smallP k R T = match e0 with | some t => some t | none => if 256 < T.length then fresh sRule 0 4 else none) ∧ checkP k R T = e0 := ⟨_, rfl, rfl⟩
  replace he0 := Lib.hid he0
  go_enter Tryd.func32, Tryd.ntmps32
  go_wp2_with fail
  refine (check_any r k R _ T _ hg.out h.out).mono ?_
  rintro e w1 ⟨x, rfl, b1, he⟩
  rw [he0.out] at he
  cases e0 with
  | some t =>
    simp only [] at hsm
    replace hsm := Lib.hid hsm
    obtain ⟨T1, a1, rfl⟩ := ErrIs.some_shape he
    replace he := Lib.hid he
    go_wp2
    go_ret
    exact ⟨_, rfl, Below.step b0 b1, by rw [hsm.out]; exact he.out⟩
  | none =>
    obtain rfl := he.none_eq
    simp only [] at hsm
    clear he
    obtain ⟨⟨z0, z1, z2⟩, -, -, -⟩ := q.below b1
    by_cases hl : 256 < T.length
    · rw [if_pos hl] at hsm
      replace hsm := Lib.hid hsm
      go_wp2_with fail
      refine (rule_wrong r _ _ _ (hg.out.below b1) (by decide) (by decide)).mono ?_
      rintro e w2 ⟨x, rfl, b2, he⟩
      go_wp2
      go_ret
      exact ⟨_, rfl, Below.step b0 (Below.step b1 b2), by rw [hsm.out]; exact he⟩
    · rw [if_neg hl] at hsm
      replace hsm := Lib.hid hsm
      go_wp2
      go_ret
      exact ⟨_, rfl, Below.step b0 b1, by rw [hsm.out]; rfl⟩

theorem over_small (r : Nat → Addr) (k R : Int) (va : Option Addr) (vn vc : Nat) (T : List Int) (w : World) (hg : Glob r w) (h : IntsAt w (.slice va vn vc) T) :
    Calls Tryd.prog 84 #[.agg #[.int .i64 k, .int .i64 R, .slice va vn vc]] w (Ret1 (fun x w' => ErrIs r w' (under sOverlap 0 (smallP k R T)) x) w) := by
  have b0 := belowAlloc w (.cells #[.int .i64 k, .int .i64 R, .slice va vn vc] 24)
  replace hg := Lib.hid (hg.below b0)
  replace h := Lib.hid (h.below b0)
  go_enter Tryd.func84, Tryd.ntmps84
  go_wp2_with fail
  refine (small_any r k R va vn vc T _ hg.out h.out).mono ?_
  rintro e w1 ⟨x, rfl, b1, he⟩
  go_wp2_with fail
  refine (under_any r _ 0 _ x _ he).mono ?_
  rintro e w2 ⟨y, rfl, b2, hy⟩
  go_wp2
  go_ret
  exact ⟨_, rfl, Below.step b0 (Below.step b1 b2), hy⟩

theorem over_wrong (r : Nat → Addr) (at_ n : Int) (w : World) (hg : Glob r w) (h1 : 1 ≤ n) (h2 : n ≤ 11) :
    Calls Tryd.prog 87 #[.int .i64 at_, .int .i64 n] w (Ret1 (fun v w' => ErrIs r w' (fresh sOverlap at_ n) v) w) := by
  go_enter Tryd.func87, Tryd.ntmps87
  go_wp2_with fail
  refine (new_any r _ at_ n w hg h1 h2).mono ?_
  rintro e w' ⟨v, rfl, hb, he⟩
  go_wp2
  go_ret
  exact ⟨_, rfl, hb, he⟩

theorem over_nodes (K R : Nat) (va : Option Addr) (vn vc : Nat) (T : List Int) (w : World) (h : IntsAt w (.slice va vn vc) T) (h1 : 1 ≤ K) (hT : T.length ≤ 16384) :
    Calls Tryd.prog 85 #[.agg #[.int .i64 K, .int .i64 R, .slice va vn vc]] w fun e w' => e = .returned (.int .i64 ((T.length / K : Nat) : Int)) ∧ w' = w.alloc (.cells #[.int .i64 K, .int .i64 R, .slice va vn vc] 24) := by
  have hK0 : ((K : Int) == 0) = false := by rw [beq_eq_false_iff_ne]; omega
  have hK1 : ¬ (K : Int) = 0 := by omega
  have hK2 : (0 : Int) < K := by omega
  have hK3 : ¬ K = 0 := by omega
  have lT := h.len
  have hq0 : 0 ≤ (T.length : Int) / (K : Int) := Int.ediv_nonneg (by omega) (by omega)
  have hqc : (T.length : Int) / (K : Int) = ((T.length / K : Nat) : Int) := by simp
  have hqw : IntKind.i64.wrap ((T.length : Int) / (K : Int)) = (T.length : Int) / (K : Int) := by
    have : T.length / K ≤ 16384 := Nat.le_trans (Nat.div_le_self _ _) hT
    exact wrapK (by omega) (by rw [hqc]; omega)
  rw [← hqc]
  replace hqc := Lib.hid hqc
  go_enter Tryd.func85, Tryd.ntmps85
  go_wp2
  go_ret
  exact ⟨rfl, rfl⟩

theorem over_check1 (x k : Int) (b : Nat) (w : World) (hb : w.cell? ⟨b, 0, none⟩ = some (.int .i64 k)) :
    Calls Tryd.prog 114 #[.int .i64 x, .pointer (some ⟨b, 0, none⟩)] w fun e w' => e = .returned (.bool (odd1 k x)) ∧ w = w' := by
  by_cases h : x < 0
  · have e : odd1 k x = true := by simp [odd1, h]
    rw [e]
    go_enter Tryd.func114, Tryd.ntmps114
    go_wp2
    go_ret
    exact ⟨rfl, rfl⟩
  · have e : odd1 k x = decide (k ≤ x) := by simp [odd1, h]
    rw [e]
    go_enter Tryd.func114, Tryd.ntmps114
    go_wp2
    go_ret
    exact ⟨ret_bool (by simp), rfl⟩
theorem eg_over_check1 (args : Array Value) (w : World) : (callFunc 114 args).run Tryd.prog w = .ok (.enter 114 args) w := by kernel_rfl

/-- overlap.check's answer. -/
def overP (k R : Int) (T ws : List Int) (most : Int) : PErr :=
  match smallP k R T with
  | some t => under sOverlap 0 (some t)
  | none => if most < ws.length then fresh sOverlap 1 4 else if idxOf (odd1 k) ws = -1 then none else fresh sOverlap (idxOf (odd1 k) ws) 2

set_option maxHeartbeats 1000000 in
theorem over_check (r : Nat → Addr) (k R : Int) (va : Option Addr) (vn vc : Nat) (T : List Int) (u : Value) (ws : List Int) (most : Int) (w : World) (hg : Glob r w) (h : IntsAt w (.slice va vn vc) T) (hu : IntsAt w u ws) :
    Calls Tryd.prog 86 #[.agg #[.int .i64 k, .int .i64 R, .slice va vn vc], u, .int .i64 most] w (Ret1 (fun x w' => ErrIs r w' (overP k R T ws most) x) w) := by
  have b0 := belowAlloc w (.cells #[.int .i64 k, .int .i64 R, .slice va vn vc] 24)
  have q : Box3 (w.alloc (.cells #[.int .i64 k, .int .i64 R, .slice va vn vc] 24)) w.heap.size (.int .i64 k) (.int .i64 R) (.slice va vn vc) := by simp [Box3, go_sem]
  have l1 := hu.len
  have lm := hu.len_le
  obtain ⟨a1, n1, c1, rfl⟩ := hu.shape
  replace hg := Lib.hid (hg.below b0)
  replace h := Lib.hid (h.below b0)
  replace hu := Lib.hid (hu.below b0)
  obtain ⟨e0, hsm, he0⟩ : ∃ e0, (overP k R T ws most = match e0 with | some t => under sOverlap 0 (some t) | none => if most < ws.length then fresh sOverlap 1 4 else if idxOf (odd1 k) ws = -1 then none else fresh sOverlap (idxOf (odd1 k) ws) 2) ∧ smallP k R T = e0 := ⟨_, rfl, rfl⟩
  replace he0 := Lib.hid he0
  go_enter Tryd.func86, Tryd.ntmps86
  go_wp2_with fail
  refine (over_small r k R va vn vc T _ hg.out h.out).mono ?_
  rintro e w1 ⟨x, rfl, b1, he⟩
  rw [he0.out] at he
  cases e0 with
  | some t =>
    simp only [] at hsm
    replace hsm := Lib.hid hsm
    obtain ⟨T1, a1, rfl⟩ := ErrIs.some_shape he
    replace he := Lib.hid he
    go_wp2
    go_ret
    exact ⟨_, rfl, Below.step b0 b1, by rw [hsm.out]; exact he.out⟩
  | none =>
    obtain rfl := he.none_eq
    simp only [] at hsm
    clear he
    obtain ⟨⟨z0, z1, z2⟩, -, -, -⟩ := q.below b1
    by_cases hl : most < ws.length
    · rw [if_pos hl] at hsm
      replace hsm := Lib.hid hsm
      go_wp2_with fail
      refine (over_wrong r _ _ _ (hg.out.below b1) (by decide) (by decide)).mono ?_
      rintro e w2 ⟨x, rfl, b2, he⟩
      go_wp2
      go_ret
      exact ⟨_, rfl, Below.step b0 (Below.step b1 b2), by rw [hsm.out]; exact he⟩
    · rw [if_neg hl] at hsm
      rcases idxOf_cases (odd1 k) ws with ⟨hi, _⟩ | ⟨i, hi, hi', _⟩
      · rw [if_pos hi] at hsm
        replace hi := Lib.hid hi
        replace hsm := Lib.hid hsm
        go_wp2_with fail
        refine (indexFunc_any _ _ 114 ws (odd1 k) _ (hu.out.below b1) eg_over_check1 (fun x _ => over_check1 x k _ _ z0)).mono ?_
        rintro e w2 ⟨rfl, rfl⟩
        rw [hi.out]
        go_wp2
        go_ret
        exact ⟨_, rfl, Below.step b0 b1, by rw [hsm.out]; rfl⟩
      · rw [if_neg (by omega), hi] at hsm
        replace hi := Lib.hid hi
        replace hsm := Lib.hid hsm
        go_wp2_with fail
        refine (indexFunc_any _ _ 114 ws (odd1 k) _ (hu.out.below b1) eg_over_check1 (fun x _ => over_check1 x k _ _ z0)).mono ?_
        rintro e w2 ⟨rfl, rfl⟩
        rw [hi.out]
        go_wp2_with fail
        refine (over_wrong r _ _ _ (hg.out.below b1) (by decide) (by decide)).mono ?_
        rintro e w2 ⟨x, rfl, b2, he⟩
        go_wp2
        go_ret
        exact ⟨_, rfl, Below.step b0 (Below.step b1 b2), by rw [hsm.out]; exact he⟩
end Go.Proofs.YtmhiambkfdkkbaaDoor

namespace Go.Proofs.YtmhiambkfdkkbaaDoor
open Go.RowKit
set_option maxRecDepth 100000

theorem smallP_small {K R : Nat} {T : List Int} (h : RuleOk K R T) (hl : T.length ≤ 256) : smallP K R T = none := by rw [smallP_ok h, if_neg (by omega)]

theorem over_Nodes (r : Nat → Addr) (K R : Nat) (va : Option Addr) (vn vc : Nat) (T : List Int) (w : World) (hg : Glob r w) (h : IntsAt w (.slice va vn vc) T) (hok : RuleOk K R T) (hl : T.length ≤ 256) :
    Calls Tryd.prog 50 #[.agg #[.int .i64 K, .int .i64 R, .slice va vn vc]] w (Ret2 (fun x y _ => x = .int .i64 ((T.length / K : Nat) : Int) ∧ y = .nilIface) w) := by
  have b0 := belowAlloc w (.cells #[.int .i64 K, .int .i64 R, .slice va vn vc] 24)
  have q : Box3 (w.alloc (.cells #[.int .i64 K, .int .i64 R, .slice va vn vc] 24)) w.heap.size (.int .i64 K) (.int .i64 R) (.slice va vn vc) := by simp [Box3, go_sem]
  have hs := smallP_small hok hl
  have hk1 := hok.k1
  generalize hN : T.length / K = N
  replace hN := Lib.hid hN
  replace hs := Lib.hid hs
  replace hg := Lib.hid (hg.below b0)
  replace h := Lib.hid (h.below b0)
  go_enter Tryd.func50, Tryd.ntmps50
  go_wp2_with fail
  refine (over_small r K R va vn vc T _ hg.out h.out).mono ?_
  rintro e w1 ⟨x, rfl, b1, he⟩
  rw [hs.out] at he
  obtain rfl := ErrIs.none_eq he
  obtain ⟨⟨z0, z1, z2⟩, -, -, -⟩ := q.below b1
  go_wp2_with fail
  refine (over_nodes K R va vn vc T _ (h.out.below b1) hk1 (by omega)).mono ?_
  rintro e w2 ⟨rfl, rfl⟩
  rw [hN.out]
  go_wp2
  go_ret2
  exact ⟨_, _, rfl, Below.step b0 (Below.step b1 (belowAlloc _ _)), rfl, rfl⟩

set_option maxHeartbeats 1000000 in
theorem over_Edge (r : Nat → Addr) (K R : Nat) (va : Option Addr) (vn vc : Nat) (T : List Int) (u s : Nat) (w : World) (hg : Glob r w) (h : IntsAt w (.slice va vn vc) T) (hok : RuleOk K R T) (hl : T.length ≤ 256) (hu : u < T.length / K) (hs : s < K) :
    Calls Tryd.prog 55 #[.agg #[.int .i64 K, .int .i64 R, .slice va vn vc], .int .i64 u, .int .i64 s] w (Ret3 (fun x y z _ => x = .int .i64 (toN K (T.length / K) u s) ∧ y = .int .i64 (labN K T u s) ∧ z = .nilIface) w) := by
  have b0 := belowAlloc w (.cells #[.int .i64 K, .int .i64 R, .slice va vn vc] 24)
  have q : Box3 (w.alloc (.cells #[.int .i64 K, .int .i64 R, .slice va vn vc] 24)) w.heap.size (.int .i64 K) (.int .i64 R) (.slice va vn vc) := by simp [Box3, go_sem]
  have hsm := smallP_small hok hl
  have hk1 := hok.k1
  have hk4 := hok.k4
  have hul : u * K + s < T.length := by
    have := Nat.div_mul_le_self T.length K
    have := mul_add_lt (q := u) (m := T.length / K) hs hu
    omega
  have hN0 : T.length / K ≤ 256 := Nat.le_trans (Nat.div_le_self _ _) hl
  have huK : u * K ≤ 256 := by omega
  obtain ⟨p, hp⟩ : ∃ n, u * K = n := ⟨_, rfl⟩
  have hM : (u : Int) * (K : Int) = (p : Int) := by rw [← hp]; simp
  obtain ⟨at_, hat⟩ : ∃ n, u * K + s = n := ⟨_, rfl⟩
  have hA : (p : Int) + (s : Int) = (at_ : Int) := by rw [← hat, hp]; simp
  have i1 := fun w' => h.idx at_ (by omega) w'
  have c1 := h.cellD at_ (by omega)
  generalize valAt (.slice va vn vc) at_ = ta at *
  have hb1 := h.below b0
  have e1 : labN K T u s = T.getD at_ 0 := by unfold labN; rw [hat]
  have e2 : toN K (T.length / K) u s = at_ % (T.length / K) := by unfold toN; rw [hat]
  rw [e1, e2]
  generalize T.getD at_ 0 = y at *
  obtain ⟨N, hN⟩ : ∃ N, T.length / K = N := ⟨_, rfl⟩
  rw [hN] at hu hN0 ⊢
  have hN1 : ¬ (N : Int) = 0 := by omega
  have hN2 : ((N : Int) == 0) = false := by rw [beq_eq_false_iff_ne]; omega
  have hN3 : (0 : Int) < N := by omega
  have hN4 : ¬ N = 0 := by omega
  have hrem : (at_ : Int).tmod (N : Int) = ((at_ % N : Nat) : Int) := by rw [Int.tmod_eq_emod_of_nonneg (by omega)]; simp
  have hat1 : at_ ≤ 256 := by omega
  rw [hat] at hul
  rw [hp] at huK hat
  have hps : (p : Int) + (s : Int) ≤ 256 := by omega
  clear hat hp
  have c1' := (b0.cell (World.block_lt_of_cell? _ _ c1)).trans c1
  replace hN := Lib.hid hN
  replace hsm := Lib.hid hsm
  replace hg := Lib.hid (hg.below b0)
  replace h := Lib.hid hb1
  clear c1 e1 e2 hb1
  go_enter Tryd.func55, Tryd.ntmps55
  go_wp2_with fail
  refine (over_small r K R va vn vc T _ hg.out h.out).mono ?_
  rintro e w1 ⟨x, rfl, b1, he⟩
  rw [hsm.out] at he
  obtain rfl := ErrIs.none_eq he
  have q1 := q.below b1
  obtain ⟨⟨z0, z1, z2⟩, -, -, -⟩ := q1
  have q1 := Lib.hid (q.below b1)
  go_wp2_with fail
  refine (over_nodes K R va vn vc T _ (h.out.below b1) hk1 (by omega)).mono ?_
  rintro e w2 ⟨rfl, rfl⟩
  rw [hN.out]
  have b2 := Below.step b1 (belowAlloc w1 (.cells #[.int .i64 K, .int .i64 R, .slice va vn vc] 24))
  obtain ⟨W2, hW2⟩ : ∃ W2 : World, W2 = w1.alloc (.cells #[.int .i64 K, .int .i64 R, .slice va vn vc] 24) := ⟨_, rfl⟩
  rw [← hW2] at b2 ⊢
  have q2 := q.below b2
  have hT2 := h.out.below b2
  have cT2 := (b2.cell (World.block_lt_of_cell? _ _ c1')).trans c1'
  clear hW2 z0 z1 z2 c1'
  obtain ⟨⟨z0, z1, z2⟩, -, -, -⟩ := q2
  replace hT2 := Lib.hid hT2
  go_upto_region 9 with fail
  refine wp_region_plan (fun w' => w'.cell? ⟨w.heap.size, 0, none⟩ = some (.int .i64 K) ∧ w'.cell? ⟨w.heap.size, 1, none⟩ = some (.int .i64 R) ∧ w'.cell? ⟨w.heap.size, 2, none⟩ = some (.slice va vn vc) ∧ w'.cell? ta = some (.int .i64 y)) 11 [(0, true), (1, true), (4, true), (5, true), (6, true), (7, true), (8, true), (2, false), (3, true), (9, true), (10, true)] (by kernel_rfl) (by kernel_rfl) ?_
  have hS : W2.drew.cell? ⟨w.heap.size, 0, none⟩ = some (.int .i64 K) ∧ W2.drew.cell? ⟨w.heap.size, 1, none⟩ = some (.int .i64 R) ∧ W2.drew.cell? ⟨w.heap.size, 2, none⟩ = some (.slice va vn vc) ∧ W2.drew.cell? ta = some (.int .i64 y) := ⟨z0, z1, z2, cT2⟩
  refine headY (v := ?_) (some 42) rfl rfl (Or.inl ⟨by rfl, ?_⟩) hS ?_
  rotate_left
  · rintro W' ⟨s0, s1, s2, s3⟩; go_simp; try with_reducible rfl
  simp only [Act.put, List.setIfInBounds_toArray, List.set_cons_zero, List.set_cons_succ]
  refine headY (v := ?_) (some 43) rfl rfl (Or.inl ⟨by rfl, ?_⟩) hS ?_
  rotate_left
  · rintro W' ⟨s0, s1, s2, s3⟩; go_simp; try with_reducible rfl
  simp only [Act.put, List.setIfInBounds_toArray, List.set_cons_zero, List.set_cons_succ]
  refine headY (v := ?_) (some 46) rfl rfl (Or.inl ⟨by rfl, ?_⟩) hS ?_
  rotate_left
  · rintro W' ⟨s0, s1, s2, s3⟩; go_simp; try with_reducible rfl
  simp only [Act.put, List.setIfInBounds_toArray, List.set_cons_zero, List.set_cons_succ]
  refine headY (v := ?_) (some 47) rfl rfl (Or.inl ⟨by rfl, ?_⟩) hS ?_
  rotate_left
  · rintro W' ⟨s0, s1, s2, s3⟩; go_simp; try with_reducible rfl
  simp only [Act.put, List.setIfInBounds_toArray, List.set_cons_zero, List.set_cons_succ]
  refine headY (v := ?_) (some 48) rfl rfl (Or.inl ⟨by rfl, ?_⟩) hS ?_
  rotate_left
  · rintro W' ⟨s0, s1, s2, s3⟩; go_simp; try with_reducible rfl
  simp only [Act.put, List.setIfInBounds_toArray, List.set_cons_zero, List.set_cons_succ]
  refine headY (v := ?_) (some 49) rfl rfl (Or.inl ⟨by rfl, ?_⟩) hS ?_
  rotate_left
  · rintro W' ⟨s0, s1, s2, s3⟩; go_simp; try with_reducible rfl
  simp only [Act.put, List.setIfInBounds_toArray, List.set_cons_zero, List.set_cons_succ]
  refine headY (v := ?_) (some 50) rfl rfl (Or.inl ⟨by rfl, ?_⟩) hS ?_
  rotate_left
  · rintro W' ⟨s0, s1, s2, s3⟩; go_simp; try with_reducible rfl
  simp only [Act.put, List.setIfInBounds_toArray, List.set_cons_zero, List.set_cons_succ]
  refine headC rfl (fun KK hK => ?_)
  go_simp
  refine (over_nodes K R va vn vc T _ hT2.out.drew hk1 (by omega)).mono ?_
  rintro e W3 ⟨rfl, rfl⟩
  rw [hN.out]
  have b3 := belowAlloc W2.drew (.cells #[.int .i64 K, .int .i64 R, .slice va vn vc] 24)
  have hS3 := (⟨cell_keep b3 hS.1, cell_keep b3 hS.2.1, cell_keep b3 hS.2.2.1, (b3.cell (World.block_lt_of_cell? _ _ hS.2.2.2)).trans hS.2.2.2⟩ : (W2.drew.alloc (.cells #[.int .i64 K, .int .i64 R, .slice va vn vc] 24)).cell? ⟨w.heap.size, 0, none⟩ = some (.int .i64 K) ∧ (W2.drew.alloc (.cells #[.int .i64 K, .int .i64 R, .slice va vn vc] 24)).cell? ⟨w.heap.size, 1, none⟩ = some (.int .i64 R) ∧ (W2.drew.alloc (.cells #[.int .i64 K, .int .i64 R, .slice va vn vc] 24)).cell? ⟨w.heap.size, 2, none⟩ = some (.slice va vn vc) ∧ (W2.drew.alloc (.cells #[.int .i64 K, .int .i64 R, .slice va vn vc] 24)).cell? ta = some (.int .i64 y))
  refine hK _ _ hS3 ?_
  clear hK KK
  refine headY (v := ?_) (some 45) rfl rfl (Or.inl ⟨by rfl, ?_⟩) hS3 ?_
  rotate_left
  · rintro W' ⟨s0, s1, s2, s3⟩; go_simp; try with_reducible rfl
  simp only [Act.put, List.setIfInBounds_toArray, List.set_cons_zero, List.set_cons_succ]
  refine headY (v := ?_) (some 6) rfl rfl (Or.inl ⟨by rfl, ?_⟩) hS3 ?_
  rotate_left
  · rintro W' ⟨s0, s1, s2, s3⟩; go_simp; try with_reducible rfl
  simp only [Act.put, List.setIfInBounds_toArray, List.set_cons_zero, List.set_cons_succ]
  refine headY (v := ?_) (some 7) rfl rfl (Or.inl ⟨by rfl, ?_⟩) hS3 ?_
  rotate_left
  · rintro W' ⟨s0, s1, s2, s3⟩; go_simp; try with_reducible rfl
  simp only [Act.put, List.setIfInBounds_toArray, List.set_cons_zero, List.set_cons_succ]
  refine head0 ?_
  simp only [List.drop_succ_cons, List.drop_zero]
  clear hS hS3
  go_wp2
  refine NoPanic.normal ?_
  go_wp2
  go_ret3
  exact ⟨_, _, _, rfl, Below.step b0 (Below.step b2 ((Below.refl _ _).drew.alloc (Nat.le_refl _) _)), rfl, rfl, rfl⟩
end Go.Proofs.YtmhiambkfdkkbaaDoor

namespace Go.Proofs.YtmhiambkfdkkbaaDoor
open Go.RowKit
set_option maxRecDepth 100000

set_option maxHeartbeats 1000000 in
theorem fwiden_ok (r : Nat → Addr) (K R d : Nat) (va : Option Addr) (vn vc : Nat) (T : List Int) (w : World) (hg : Glob r w) (h : IntsAt w (.slice va vn vc) T) (hr : RuleOk K R T) (hRd : R + d ≤ 3) (Ri : Int) (hRi : Ri = ((R + d : Nat) : Int)) :
    Calls Tryd.prog 41 #[.agg #[.int .i64 K, .int .i64 R, .slice va vn vc], .int .i64 Ri] w (Ret2 (fun x y w' => y = .nilIface ∧ ∃ a n c, x = .agg #[.int .i64 K, .int .i64 ((R + d : Nat) : Int), .slice a n c] ∧ OwnI w.heap.size w' (.slice a n c) (wideT K R d T)) w) := by
  have b0 := Below.step (belowAlloc w (.cells #[.int .i64 K, .int .i64 R, .slice va vn vc] 24)) (belowAlloc _ (.cells #[.int .i64 0, .int .i64 0, .slice none 0 0] 24))
  have q2 : Box3 ((w.alloc (.cells #[.int .i64 K, .int .i64 R, .slice va vn vc] 24)).alloc (.cells #[.int .i64 0, .int .i64 0, .slice none 0 0] 24)) (w.heap.size + 1) (.int .i64 0) (.int .i64 0) (.slice none 0 0) := by simp [Box3, go_sem]
  have q1 : Box3 ((w.alloc (.cells #[.int .i64 K, .int .i64 R, .slice va vn vc] 24)).alloc (.cells #[.int .i64 0, .int .i64 0, .slice none 0 0] 24)) w.heap.size (.int .i64 K) (.int .i64 R) (.slice va vn vc) := by simp [Box3, go_sem]
  have hk1 := hr.k1
  have hk4 := hr.k4
  have hR3 := hr.r3
  have hck := Lib.hid hr.check
  have h1 : R ≤ Ri := by omega
  have h2 : Ri ≤ 3 := by omega
  have h1d : decide (Ri < (R : Int)) = false := by simp; omega
  have h2d : decide ((3 : Int) < Ri) = false := by simp; omega
  replace hRi := Lib.hid hRi
  replace hg := Lib.hid (hg.below b0)
  replace h := Lib.hid (h.below b0)
  replace hr := Lib.hid hr
  replace q1 := Lib.hid q1
  replace q2 := Lib.hid q2
  go_enter Tryd.func41, Tryd.ntmps41
  go_wp2_with fail
  refine (forms_check r _ K R va vn vc T _ hg.out h.out).mono ?_
  rintro e w1 ⟨x, rfl, hb, he⟩
  rw [hck.out] at he
  obtain rfl := ErrIs.none_eq he
  have q11 := q1.out.below hb
  obtain ⟨⟨z0, z1, z2⟩, -, -, -⟩ := q11
  have s1 := hb.size
  simp only [World.size_alloc] at s1
  replace s1 := Lib.hid s1
  go_wp2_with fail
  refine (widened_any K R d va vn vc T w1 (h.out.below hb) hr.out hRd Ri hRi.out).mono ?_
  rintro e w2 ⟨x, rfl, b2, a, n, c, rfl, ho⟩
  obtain ⟨⟨y0, y1, y2⟩, f0, f1, f2⟩ := q2.out.below (Below.step hb b2)
  replace ho := Lib.hid ho
  clear z0 z1 z2
  go_wp2
  refine bodyPost_ret (v := .tuple #[.agg #[.int .i64 K, .int .i64 ((R + d : Nat) : Int), .slice a n c], .nilIface]) (by simp [results, Tryd.results41, go_sem, y0, y1, y2]) rfl ⟨_, _, rfl, below_set3 (Below.step b0 (Below.step hb b2)) (Nat.le_succ _) _ _ _, rfl, a, n, c, rfl, ?_⟩
  have := s1.out
  exact (((ho.out.setBelowBase (a := ⟨w.heap.size + 1, 0, none⟩) (by simp; omega) _).setBelowBase (a := ⟨w.heap.size + 1, 1, none⟩) (by simp; omega) _).setBelowBase (a := ⟨w.heap.size + 1, 2, none⟩) (by simp; omega) _).mono (by omega)

/-- The working rule's radius and table. -/
def wkR (R : Nat) : Nat := if R = 0 then 1 else R
def wkT (K R : Nat) (T : List Int) : List Int := if R = 0 then wideT K 0 1 T else T
theorem wk_ok {K R : Nat} {T : List Int} (h : RuleOk K R T) : RuleOk K (wkR R) (wkT K R T) := by
  unfold wkR wkT
  by_cases e : R = 0
  · subst e; rw [if_pos rfl, if_pos rfl]; exact wideT_ok (d := 1) h (by decide)
  · rw [if_neg e, if_neg e]; exact h
theorem wk_pos (R : Nat) : 1 ≤ wkR R := by unfold wkR; split <;> omega
theorem wk_small {K R : Nat} {T : List Int} (h : RuleOk K R T) (hl : T.length ≤ 256) : (wkT K R T).length ≤ 256 := by
  unfold wkT
  by_cases e : R = 0
  · subst e; rw [if_pos rfl, wideT_length]
    have h4 := h.k4
    have : pw K 3 ≤ pw 4 3 := Nat.pow_le_pow_left h4 3
    have e4 : pw 4 3 = 64 := by decide
    have : pw K (2 * (0 + 1) + 1) = pw K 3 := rfl
    omega
  · rw [if_neg e]; exact hl
/-- A small rule's working rule has at most 81 nodes. -/
theorem nodes_le {K R : Nat} {T : List Int} (h : RuleOk K R T) (hR : 1 ≤ R) (hl : T.length ≤ 256) : pw K (2 * R) ≤ 81 := by
  have h1 := h.k1
  have h4 := h.k4
  have h3 := h.r3
  rw [h.len] at hl
  have hK : K = 1 ∨ K = 2 ∨ K = 3 ∨ K = 4 := by omega
  have hR' : R = 1 ∨ R = 2 ∨ R = 3 := by omega
  rcases hK with rfl | rfl | rfl | rfl <;> rcases hR' with rfl | rfl | rfl <;> revert hl <;> decide

theorem working_bad (r : Nat → Addr) (k R : Int) (va : Option Addr) (vn vc : Nat) (T : List Int) (t : Int × List (ByteArray × Int)) (w : World) (hg : Glob r w) (h : IntsAt w (.slice va vn vc) T) (hc : smallP k R T = some t) :
    Calls Tryd.prog 44 #[.agg #[.int .i64 k, .int .i64 R, .slice va vn vc]] w (Ret2 (fun x y w' => x = zR ∧ ErrIs r w' (under sPairs 0 (some t)) y) w) := by
  have b0 := Below.step (belowAlloc w (.cells #[.int .i64 k, .int .i64 R, .slice va vn vc] 24)) (belowAlloc _ (.cells #[.int .i64 0, .int .i64 0, .slice none 0 0] 24))
  have q2 : Box3 ((w.alloc (.cells #[.int .i64 k, .int .i64 R, .slice va vn vc] 24)).alloc (.cells #[.int .i64 0, .int .i64 0, .slice none 0 0] 24)) (w.heap.size + 1) (.int .i64 0) (.int .i64 0) (.slice none 0 0) := by simp [Box3, go_sem]
  replace hg := Lib.hid (hg.below b0)
  replace h := Lib.hid (h.below b0)
  replace hc := Lib.hid hc
  replace q2 := Lib.hid q2
  go_enter Tryd.func44, Tryd.ntmps44
  go_wp2_with fail
  refine (small_any r k R va vn vc T _ hg.out h.out).mono ?_
  rintro e w1 ⟨x, rfl, b1, he⟩
  rw [hc.out] at he
  have he' := he
  obtain ⟨T1, a1, rfl⟩ := ErrIs.some_shape he
  replace he := Lib.hid he
  replace he' := Lib.hid he'
  go_wp2_with fail
  refine (under_any r _ 0 _ _ w1 he'.out).mono ?_
  rintro e w2 ⟨y, rfl, b2, hy⟩
  obtain ⟨T2, a2, rfl⟩ : ∃ T a, y = .iface T (.pointer (some a)) := by
    unfold under at hy
    exact ErrIs.some_shape hy
  obtain ⟨⟨y0, y1, y2⟩, f0, f1, f2⟩ := q2.out.below (Below.step b1 b2)
  replace hy := Lib.hid hy
  go_wp2
  rw [setCell_self3 y0 y1 y2]
  exact bodyPost_ret (v := .tuple #[zR, .iface T2 (.pointer (some a2))]) (by simp [results, Tryd.results44, go_sem, y0, y1, y2]) rfl ⟨_, _, rfl, Below.step b0 (Below.step b1 b2), rfl, hy.out⟩

set_option maxHeartbeats 1000000 in
theorem working_ok (r : Nat → Addr) (K R : Nat) (va : Option Addr) (vn vc : Nat) (T : List Int) (w : World) (hg : Glob r w) (h : IntsAt w (.slice va vn vc) T) (hr : RuleOk K R T) (hl : T.length ≤ 256) :
    Calls Tryd.prog 44 #[.agg #[.int .i64 K, .int .i64 R, .slice va vn vc]] w (Ret2 (fun x y w' => y = .nilIface ∧ ∃ a n c, x = .agg #[.int .i64 K, .int .i64 (wkR R), .slice a n c] ∧ IntsAt w' (.slice a n c) (wkT K R T)) w) := by
  have b0 := Below.step (belowAlloc w (.cells #[.int .i64 K, .int .i64 R, .slice va vn vc] 24)) (belowAlloc _ (.cells #[.int .i64 0, .int .i64 0, .slice none 0 0] 24))
  have q2 : Box3 ((w.alloc (.cells #[.int .i64 K, .int .i64 R, .slice va vn vc] 24)).alloc (.cells #[.int .i64 0, .int .i64 0, .slice none 0 0] 24)) (w.heap.size + 1) (.int .i64 0) (.int .i64 0) (.slice none 0 0) := by simp [Box3, go_sem]
  have q1 : Box3 ((w.alloc (.cells #[.int .i64 K, .int .i64 R, .slice va vn vc] 24)).alloc (.cells #[.int .i64 0, .int .i64 0, .slice none 0 0] 24)) w.heap.size (.int .i64 K) (.int .i64 R) (.slice va vn vc) := by simp [Box3, go_sem]
  have hs := Lib.hid (smallP_small hr hl)
  have h0 := Lib.hid h
  have hs0 : w.heap.size + 1 < ((w.alloc (.cells #[.int .i64 K, .int .i64 R, .slice va vn vc] 24)).alloc (.cells #[.int .i64 0, .int .i64 0, .slice none 0 0] 24)).heap.size := by simp
  replace hg := Lib.hid (hg.below b0)
  replace h := Lib.hid (h.below b0)
  replace hr := Lib.hid hr
  replace q1 := Lib.hid q1
  replace q2 := Lib.hid q2
  replace hs0 := Lib.hid hs0
  by_cases hR : R = 0
  · have e1 : wkR R = R + 1 := by unfold wkR; rw [if_pos hR, hR]
    have e2 : wkT K R T = wideT K R 1 T := by unfold wkT; rw [if_pos hR, hR]
    have hRq : ((R : Int) == 0) = true := by simp [hR]
    rw [e1, e2]
    replace hR := Lib.hid hR
    clear e1 e2
    go_enter Tryd.func44, Tryd.ntmps44
    go_wp2_with fail
    refine (small_any r K R va vn vc T _ hg.out h.out).mono ?_
    rintro e w1 ⟨x, rfl, b1, he⟩
    rw [hs.out] at he
    obtain rfl := ErrIs.none_eq he
    have q11 := q1.out.below b1
    obtain ⟨⟨z0, z1, z2⟩, -, -, -⟩ := q11
    go_wp2_with fail
    refine (fwiden_ok r K R 1 va vn vc T w1 (hg.out.below b1) (h.out.below b1) hr.out (by have := hR.out; omega) 1 (by have := hR.out; simp [this])).mono ?_
    rintro e w2 ⟨x, y, rfl, b2, rfl, a, n, c, rfl, ho⟩
    obtain ⟨⟨y0, y1, y2⟩, f0, f1, f2⟩ := q2.out.below (Below.step b1 b2)
    replace ho := Lib.hid ho
    clear z0 z1 z2
    go_wp2
    refine bodyPost_ret (v := .tuple #[.agg #[.int .i64 K, .int .i64 ((R + 1 : Nat) : Int), .slice a n c], .nilIface]) (by simp [results, Tryd.results44, go_sem, y0, y1, y2]) rfl ⟨_, _, rfl, below_set3 (Below.step b0 (Below.step b1 b2)) (Nat.le_succ _) _ _ _, rfl, a, n, c, rfl, ?_⟩
    have s1 := hs0.out
    have s2 := b1.size
    exact (((ho.out.setBelowBase (a := ⟨w.heap.size + 1, 0, none⟩) (Nat.lt_of_lt_of_le s1 s2) _).setBelowBase (a := ⟨w.heap.size + 1, 1, none⟩) (Nat.lt_of_lt_of_le s1 s2) _).setBelowBase (a := ⟨w.heap.size + 1, 2, none⟩) (Nat.lt_of_lt_of_le s1 s2) _).at
  · have e1 : wkR R = R := by unfold wkR; rw [if_neg hR]
    have e2 : wkT K R T = T := by unfold wkT; rw [if_neg hR]
    have hRq : ((R : Int) == 0) = false := by rw [beq_eq_false_iff_ne]; omega
    have hR' : ¬ (R : Int) = 0 := by omega
    rw [e1, e2]
    clear e1 e2
    go_enter Tryd.func44, Tryd.ntmps44
    go_wp2_with fail
    refine (small_any r K R va vn vc T _ hg.out h.out).mono ?_
    rintro e w1 ⟨x, rfl, b1, he⟩
    rw [hs.out] at he
    obtain rfl := ErrIs.none_eq he
    have q11 := q1.out.below b1
    obtain ⟨⟨z0, z1, z2⟩, -, -, -⟩ := q11
    obtain ⟨⟨y0, y1, y2⟩, f0, f1, f2⟩ := q2.out.below b1
    have b01 := Below.step b0 b1
    have hTW := h0.out.below (below_set3 b01 (Nat.le_succ _) (.int .i64 K) (.int .i64 R) (.slice va vn vc))
    replace hTW := Lib.hid hTW
    go_wp2
    refine bodyPost_ret (v := .tuple #[.agg #[.int .i64 K, .int .i64 R, .slice va vn vc], .nilIface]) (by simp [results, Tryd.results44, go_sem, y0, y1, y2]) rfl ⟨_, _, rfl, below_set3 b01 (Nat.le_succ _) _ _ _, rfl, va, vn, vc, rfl, hTW.out⟩
end Go.Proofs.YtmhiambkfdkkbaaDoor

namespace Go.Proofs.YtmhiambkfdkkbaaDoor
open Go.RowKit
set_option maxRecDepth 100000

/-- Quotient and rest of small numbers, as the machine reckons them. -/
theorem dm (p N : Nat) (hp : p ≤ 100000000) : (p : Int).tdiv (N : Int) = ((p / N : Nat) : Int) ∧ (p : Int).tmod (N : Int) = ((p % N : Nat) : Int) ∧ (p : Int) / (N : Int) = ((p / N : Nat) : Int) ∧ (p : Int) % (N : Int) = ((p % N : Nat) : Int) ∧
    IntKind.i64.wrap ((p / N : Nat) : Int) = ((p / N : Nat) : Int) ∧ IntKind.i64.wrap ((p % N : Nat) : Int) = ((p % N : Nat) : Int) := by
  have h1 : p / N ≤ p := Nat.div_le_self _ _
  have h2 : p % N ≤ p := Nat.mod_le _ _
  refine ⟨by rw [Int.tdiv_eq_ediv_of_nonneg (by omega)]; simp, by rw [Int.tmod_eq_emod_of_nonneg (by omega)]; simp, by simp, by simp, ?_, ?_⟩
  · generalize p / N = a at *; exact wrapK (by omega) (by omega)
  · generalize p % N = a at *; exact wrapK (by omega) (by omega)

theorem words1_any (x : Int) (b N : Nat) (w : World) (hN : N ≤ 10000) (hb : w.cell? ⟨b, 0, none⟩ = some (.int .i64 N)) :
    Calls Tryd.prog 53 #[.int .i64 x, .pointer (some ⟨b, 0, none⟩)] w fun e w' => e = .returned (.bool (odd1 ((N * N : Nat) : Int) x)) ∧ w = w' := by
  have hM : (N : Int) * (N : Int) = ((N * N : Nat) : Int) := by simp
  have hM2 := Nat.mul_le_mul hN hN
  by_cases h : x < 0
  · have e : odd1 ((N * N : Nat) : Int) x = true := by simp [odd1, h]
    rw [e]
    clear hM hM2
    go_enter Tryd.func53, Tryd.ntmps53
    go_wp2
    go_ret
    exact ⟨rfl, rfl⟩
  · have e : odd1 ((N * N : Nat) : Int) x = decide (((N * N : Nat) : Int) ≤ x) := by simp [odd1, h]
    rw [e]
    generalize N * N = M at *
    clear e
    go_enter Tryd.func53, Tryd.ntmps53
    go_wp2
    go_ret
    exact ⟨ret_bool (by simp), rfl⟩
theorem eg_words1 (args : Array Value) (w : World) : (callFunc 53 args).run Tryd.prog w = .ok (.enter 53 args) w := by kernel_rfl

set_option maxHeartbeats 1000000 in
theorem words2_any (K R x q : Nat) (w : World) (hk1 : 1 ≤ K) (hk4 : K ≤ 4) (hR : R ≤ 3) (hx : x ≤ 100000) (q0 : w.cell? ⟨q, 0, none⟩ = some (.int .i64 K)) (q1 : w.cell? ⟨q, 1, none⟩ = some (.int .i64 R)) :
    Calls Tryd.prog 54 #[.int .i64 x, .pointer (some ⟨q, 0, none⟩)] w (Ret1 (fun y w' => OwnI w.heap.size w' y (digs K (2 * R) x)) w) := by
  obtain ⟨ov, w1, mk, ho, hb1⟩ := run_makeI (2 * (R : Int)) (2 * R) w (by omega) (by omega)
  have lo := ho.at.len
  rw [List.length_replicate] at lo
  obtain ⟨oa, on, oc, rfl⟩ := ho.at.shape
  have hql := World.block_lt_of_cell? _ _ q0
  have hK0 : ((K : Int) == 0) = false := by rw [beq_eq_false_iff_ne]; omega
  have hK1 : ¬ (K : Int) = 0 := by omega
  have hK2 : (0 : Int) < K := by omega
  have hK3 : ¬ K = 0 := by omega
  obtain ⟨N, hN⟩ : ∃ N, 2 * R = N := ⟨_, rfl⟩
  have hN6 : N ≤ 6 := by omega
  rw [hN] at ho lo ⊢
  have hNi : 2 * (R : Int) = (N : Int) := by omega
  have hNw : IntKind.i64.wrap (N : Int) = N := wrapK (by omega) (by omega)
  rw [hNi] at mk
  replace ho := Lib.hid ho
  replace hN := Lib.hid hN
  go_enter Tryd.func54, Tryd.ntmps54
  go_wp2_with fail
  clear mk
  go_loopw [0, 12] (fun xv jv wr => ∃ j : Nat, j ≤ N ∧ jv = .int .i64 j ∧ xv = .int .i64 (x / pw K j : Nat) ∧ OwnI w.heap.size wr (.slice oa on oc) ((List.replicate N (0 : Int)).take (N - j) ++ (digs K N x).drop (N - j)) ∧ Below w.heap.size w wr) (fun _ jv _ => N - (intOf jv).toNat)
  case atStart => exact ⟨0, by omega, rfl, by simp [pw], by rw [Nat.sub_zero, List.drop_of_length_le (by rw [digs_length]; exact Nat.le_refl _), List.append_nil, List.take_of_length_le (by simp)]; exact ho.out, hb1⟩
  case round =>
    obtain ⟨j, hj, rfl, rfl, hO, hbI⟩ := hrel
    obtain ⟨wi, rfl⟩ : ∃ wi : World, wi = wr := ⟨_, rfl⟩
    by_cases hjl : j < N
    · have hXl : ((List.replicate N (0 : Int)).take (N - j) ++ (digs K N x).drop (N - j)).length = N := by simp only [List.length_append, List.length_take, List.length_replicate, List.length_drop, digs_length]; omega
      have i1 : ∀ w', (Instr.indexAt 22 (.slice oa on oc) (.int .i64 ((N : Int) - 1 - (j : Int)))).run Tryd.prog w' = .ok (.pointer (some (valAt (.slice oa on oc) (N - 1 - j)))) w' := by
        intro w'
        have := hO.at.idxI ((N : Int) - 1 - (j : Int)) (by omega) (by rw [hXl]; omega) w'
        rwa [show ((N : Int) - 1 - (j : Int)).toNat = N - 1 - j by omega] at this
      have c1 := hO.at.cellD (N - 1 - j) (by rw [hXl]; omega)
      have f1 := hO.frz (N - 1 - j) (by rw [hXl]; omega)
      have hS := hO.set (N - 1 - j) (by rw [hXl]; omega) ((x / pw K j % K : Nat) : Int)
      have hbS := hO.setBelow hbI (N - 1 - j) (by rw [hXl]; omega) (.int .i64 ((x / pw K j % K : Nat) : Int))
      rw [digs_fill K N x j hjl _ (by simp)] at hS
      have hqd : x / pw K j / K = x / pw K (j + 1) := by rw [Nat.div_div_eq_div_mul, ← pw_succ]
      have hql : x / pw K j ≤ 100000 := Nat.le_trans (Nat.div_le_self _ _) hx
      have y0 := (hbI.cell (p := ⟨q, 0, none⟩) (World.block_lt_of_cell? _ _ q0)).trans q0
      have hbe := hO.blkB (N - 1 - j) (by rw [hXl]; omega)
      generalize ((List.replicate N (0 : Int)).take (N - j) ++ (digs K N x).drop (N - j)).getD (N - 1 - j) 0 = y at c1
      have y0' : (wi.setCell (valAt (.slice oa on oc) (N - 1 - j)) (.int .i64 ((x / pw K j % K : Nat) : Int))).cell? ⟨q, 0, none⟩ = some (.int .i64 K) := (hbS.cell (p := ⟨q, 0, none⟩) (World.block_lt_of_cell? _ _ q0)).trans q0
      have hlen' := lo
      generalize valAt (.slice oa on oc) (N - 1 - j) = ya at *
      generalize x / pw K j = z at *
      obtain ⟨a1, a2, a3, a4, a5, a6⟩ := dm z K (by omega)
      obtain ⟨d, hd⟩ : ∃ d, z % K = d := ⟨_, rfl⟩
      obtain ⟨e, he⟩ : ∃ e, z / K = e := ⟨_, rfl⟩
      rw [hd] at a2 a4 a6 hS hbS y0'
      rw [he] at a1 a3 a5 hqd
      replace hS := Lib.hid hS
      replace hbS := Lib.hid hbS
      replace hqd := Lib.hid hqd
      replace hO := Lib.hid hO
      replace hd := Lib.hid hd
      replace he := Lib.hid he
      clear hXl
      go_wp2
      go_roundw
      case rel => exact ⟨j + 1, by omega, by go_num, by rw [← hqd.out], hS.out, hbS.out⟩
      case measure => simp [intOf]; omega
    · obtain rfl : j = N := by omega
      rw [Nat.sub_self, List.take_zero, List.drop_zero, List.nil_append] at hO
      replace hO := Lib.hid hO
      go_wp2
      go_ret
      exact ⟨_, rfl, hbI, hO.out⟩
theorem eg_words2 (args : Array Value) (w : World) : (callFunc 54 args).run Tryd.prog w = .ok (.enter 54 args) w := by kernel_rfl
end Go.Proofs.YtmhiambkfdkkbaaDoor

namespace Go.Proofs.YtmhiambkfdkkbaaDoor
open Go.RowKit
set_option maxRecDepth 100000

/-- T: slices of E, a struct of two ints. -/
def TwoInts (T E : TypeId) : Prop := Tryd.prog.underlying T = some (.slice E) ∧ ∃ i, Tryd.prog.info? E = some i ∧ i.zero = some (.agg #[.int .i64 0, .int .i64 0]) ∧ i.size = 2 ∧ i.bytes = 16
theorem twoInts_mk {T E : TypeId} (h1 : Tryd.prog.underlying T = some (.slice E)) (h2 : (Tryd.prog.info? E).map (fun i => (i.zero, i.size, i.bytes)) = some (some (.agg #[.int .i64 0, .int .i64 0]), 2, 16)) : TwoInts T E := by
  refine ⟨h1, ?_⟩
  cases h : Tryd.prog.info? E with
  | none => rw [h] at h2; cases h2
  | some i => rw [h] at h2; simp at h2; exact ⟨i, rfl, h2.1, h2.2.1, h2.2.2⟩

/-- append of one struct of two ints. -/
theorem run_app2 {T E : TypeId} (tc : TwoInts T E) (w : World) (B : Nat) (ty : TypeId) (v : Value) (m : Nat) (xs : List Value) (hown : w.ownsRow B E 2 v m xs)
    (b : Nat) (y0 y1 : Int) (hys : ∀ (j : Nat) (u : Value), ([Value.int .i64 y0, .int .i64 y1] : List Value)[j]? = some u → w.cell? ((⟨b, 0, none⟩ : Addr).add j) = some u) (hlen : m < 1000000) (hB : B ≤ w.heap.size) :
    ∃ g n' c' w', (Builtin.append_ #[T, T] ty #[v, .slice (some ⟨b, 0, none⟩) 1 1]).run Tryd.prog w = .ok (.slice (some ⟨g, 0, none⟩) n' c') w' ∧ n' = m + 1 ∧ w'.ownsRow B E 2 (.slice (some ⟨g, 0, none⟩) (m + 1) c') (m + 1) (xs ++ [.int .i64 y0, .int .i64 y1]) ∧
      ((v.ownBlock = some g ∧ w.grownBy w' v.ownBlock) ∨ (g = w.heap.size ∧ w.grownBy w' none)) := by
  obtain ⟨ht, i, hi, hz0, hz1, hz2⟩ := tc
  have hzc : (Value.agg #[.int .i64 0, .int .i64 0]).cells = #[.int .i64 0, .int .i64 0] := by rfl
  have hxl := hown.1
  have big : ∀ (old : Nat), old < m + 1 →
      (w.drew.alloc (.cells (xs.toArray ++ [Value.int .i64 y0, .int .i64 y1].toArray ++ Builtin.zeroCells (Value.agg #[.int .i64 0, .int .i64 0]).cells (grownCap w (m + 1) old E - (m + 1))) E)).ownsRow B E 2 (.slice (some ⟨w.heap.size, 0, none⟩) (m + 1) (grownCap w (m + 1) old E)) (m + 1) (xs ++ [.int .i64 y0, .int .i64 y1]) := by
    intro old ho
    have hge := grownCap_ge w (m + 1) old E
    have hcm : grownCap w (m + 1) old E ≤ maxLen := grownCap_le_maxLen w _ old E (by unfold maxLen; omega)
    refine ⟨by simp [hxl]; omega, .inr ⟨w.heap.size, _, _, rfl, hB, heap_alloc_new w.drew _, hge, hcm, ?_, ?_⟩⟩
    · simp only [Array.size_append, List.size_toArray, size_zeroCells, hzc, hxl]
      simp
      omega
    · simp only [Array.toList_append]
      exact List.take_left' (by simp [hxl]; omega)
  have grw : ∀ (oo : Obj), w.grownBy (w.drew.alloc oo) none := fun oo => ⟨rfl, rfl, rfl, by simp, fun k hk _ => Below.heap_alloc w.drew oo k hk⟩
  rcases hown.2 with ⟨rfl, hn⟩ | ⟨g, cap, cur, rfl, hbg, hg, hnc, hcm, hcs, htake⟩
  · subst hn
    obtain rfl := List.length_eq_zero_iff.1 (show xs.length = 0 by omega)
    have hr := run_append_nil (P := Tryd.prog) w T ty E i _ ht hi hz0 ⟨b, 0, none⟩ 1 1 [.int .i64 y0, .int .i64 y1] (by rw [hz1]; rfl) hys (by omega) (by omega) (by rw [hz2]; decide)
    have hbg := big 0 (by omega)
    simp only [List.nil_append, Array.empty_append, Nat.zero_add] at hbg hr
    exact ⟨_, _, _, _, hr, rfl, by simpa using hbg, .inr ⟨rfl, grw _⟩⟩
  · by_cases hroom : m + 1 ≤ cap
    · have hr := run_append_room (P := Tryd.prog) w T ty E i ht hi g m cap cur hg ⟨b, 0, none⟩ 1 1 [.int .i64 y0, .int .i64 y1] (by rw [hz1]; rfl) hys (by simp [Value.oneCell']) hroom (by rw [hz1, hcs]; simp; omega)
      refine ⟨_, _, _, _, hr, rfl, ⟨by simp [hxl]; omega, .inr ⟨g, cap, _, rfl, hbg, setRow_heap w g cur _ E _ hg, hroom, hcm, ?_, ?_⟩⟩, .inl ⟨rfl, ⟨rfl, rfl, rfl, by simp, fun k _ hk => setRow_other w g k _ (fun e => hk (by simp [Value.ownBlock, e]))⟩⟩⟩
      · simp only [List.size_toArray, List.length_append, List.length_take, List.length_drop, Array.length_toList, hz1, hcs]
        simp
        omega
      · rw [hz1, htake]
        exact List.take_left' (by simp [hxl]; omega)
    · have holds : ∀ j u, xs[j]? = some u → w.cell? ((⟨g, 0, none⟩ : Addr).add j) = some u := World.ownsRow.cells hown (g := g) rfl
      have hr := run_append_grow (P := Tryd.prog) w T ty E i _ ht hi hz0 ⟨g, 0, none⟩ m cap xs (by rw [hz1]; exact hxl) holds ⟨b, 0, none⟩ 1 1 [.int .i64 y0, .int .i64 y1] (by rw [hz1]; rfl) hys (by omega) (by omega) (by
        rw [hz2]
        exact growslice_fits (by omega) (by
          calc (m + 1) * 16 ≤ 1000000 * 16 := Nat.mul_le_mul_right _ hlen
            _ ≤ _ := by decide))
      exact ⟨_, _, _, _, hr, rfl, big cap (by omega), .inr ⟨rfl, grw _⟩⟩

/-- append(s, struct) in the text's order. -/
theorem wpl_app2 {T E : TypeId} (tc : TwoInts T E) {w : World} {ops : Array Oper} {rest : List Oper} {o : Oper} {a : Act} {Q : Exit → Act → World → Prop} (hgd : o.guard = none) (s x : Operand)
    (ho : o.op = .call { callee := .builtin .append, args := #[s, x], argTypes := #[T, T] })
    (B : Nat) (v : Value) (m : Nat) (xs : List Value) (y0 y1 : Int) (b : Nat) (hown : w.ownsRow B E 2 v m xs) (hs : a.eval s = v) (hx : a.eval x = .slice (some ⟨b, 0, none⟩) 1 1) (hb : b = w.heap.size)
    (hlen : m < 1000000) (hB : B ≤ w.heap.size)
    (h : ∀ g c w', w'.ownsRow B E 2 (.slice (some ⟨g, 0, none⟩) (m + 1) c) (m + 1) (xs ++ [.int .i64 y0, .int .i64 y1]) → ((v.ownBlock = some g ∧ w.grownBy w' v.ownBlock) ∨ (w.heap.size ≤ g ∧ w.grownBy w' none)) → wpList Tryd.prog ops Q rest (a.put o.dst (.slice (some ⟨g, 0, none⟩) (m + 1) c)) w') :
    wpList Tryd.prog ops Q (o :: rest) a (w.alloc (.cells #[.int .i64 y0, .int .i64 y1] E)) := by
  subst hb
  refine wpList_plain hgd fun K hK => ?_
  have hcells : ∀ (j : Nat) (u : Value), ([Value.int .i64 y0, .int .i64 y1] : List Value)[j]? = some u → (w.alloc (.cells #[.int .i64 y0, .int .i64 y1] E)).cell? ((⟨w.heap.size, 0, none⟩ : Addr).add j) = some u := by
    intro j u hj
    have hn := heap_alloc_new w (.cells #[.int .i64 y0, .int .i64 y1] E)
    match j, hj with
    | 0, hj => simp at hj; subst hj; simp only [World.cell?, Addr.add, if_true]; rw [hn]; rfl
    | 1, hj => simp at hj; subst hj; simp only [World.cell?, Addr.add, show ¬ (1 = 0) by decide, if_false]; rw [hn]; rfl
    | j + 2, hj => simp at hj
  obtain ⟨g, n', c', w', hr, rfl, h2, h3⟩ := run_app2 tc (w.alloc (.cells #[.int .i64 y0, .int .i64 y1] E)) B o.type v m xs (World.ownsRow.alloc hown _) w.heap.size y0 y1 hcells hlen (by simp; omega)
  unfold Oper.wp execOp
  simp only [ho, resolve, invoke, builtin, Sem.run_bind, Sem.run_pure, Result.andThen_ok, List.map_toArray, List.map_cons, List.map_nil, hs, hx]
  rw [hr]
  have hal : ∀ row, w.grownBy (w.alloc (.cells #[.int .i64 y0, .int .i64 y1] E)) row := fun row => World.grownBy_alloc w _ row
  rcases h3 with ⟨hv, hg⟩ | ⟨hk, hg⟩
  · exact hK _ _ (h g c' w' h2 (.inl ⟨hv, (hal v.ownBlock).trans hg⟩))
  · exact hK _ _ (h g c' w' h2 (.inr ⟨by rw [hk]; simp, (hal none).trans hg⟩))

/-- The cells of such a row. -/
def flat2 (l : List (Int × Int)) : List Value := l.flatMap fun p => [.int .i64 p.1, .int .i64 p.2]
theorem flat2_snoc (l : List (Int × Int)) (a b : Int) : flat2 (l ++ [(a, b)]) = flat2 l ++ [.int .i64 a, .int .i64 b] := by simp [flat2]
theorem flat2_len (l : List (Int × Int)) : (flat2 l).length = l.length * 2 := by
  induction l with
  | nil => rfl
  | cons p l ih => simp only [flat2, List.flatMap_cons, List.length_append, List.length_cons, List.length_nil] at ih ⊢; omega
theorem flat2_get (l : List (Int × Int)) (s : Nat) (h : s < l.length) : (flat2 l)[s * 2]? = some (.int .i64 l[s].1) ∧ (flat2 l)[s * 2 + 1]? = some (.int .i64 l[s].2) := by
  induction l generalizing s with
  | nil => simp at h
  | cons p l ih =>
    cases s with
    | zero => exact ⟨rfl, rfl⟩
    | succ s =>
      have := ih s (by simpa using h)
      rw [show (s + 1) * 2 = s * 2 + 1 + 1 by omega]
      simpa [flat2] using this

end Go.Proofs.YtmhiambkfdkkbaaDoor

namespace Go.Proofs.YtmhiambkfdkkbaaDoor
open Go.RowKit
set_option maxRecDepth 100000

/-- A node's first arrows: where to, and what is told. -/
def arrL (K N : Nat) (T : List Int) (u n : Nat) : List (Int × Int) := (List.range n).map fun s => ((toN K N u s : Int), labN K T u s)
theorem arrL_len (K N : Nat) (T : List Int) (u n : Nat) : (arrL K N T u n).length = n := by simp [arrL]
theorem arrL_succ (K N : Nat) (T : List Int) (u n : Nat) : arrL K N T u (n + 1) = arrL K N T u n ++ [((toN K N u n : Int), labN K T u n)] := by simp [arrL, List.range_succ]
/-- While they are written: all of the first k nodes, and the next node's first j. -/
def arrTo (K N : Nat) (T : List Int) (k j : Nat) (u : Nat) : List (Int × Int) := if u < k then arrL K N T u K else if u = k then arrL K N T u j else []
theorem arrTo_zero (K N : Nat) (T : List Int) : arrTo K N T 0 0 = fun _ => [] := by
  funext u; unfold arrTo
  rw [if_neg (by omega)]
  split
  · simp [arrL]
  · rfl
theorem arrTo_next (K N : Nat) (T : List Int) (k : Nat) : arrTo K N T k K = arrTo K N T (k + 1) 0 := by
  funext u; unfold arrTo
  by_cases h : u < k
  · rw [if_pos h, if_pos (by omega)]
  · rw [if_neg h]
    by_cases e : u = k
    · rw [if_pos e, if_pos (by omega)]
    · rw [if_neg e, if_neg (by omega)]
      split
      · simp [arrL]
      · rfl
theorem arrTo_at (K N : Nat) (T : List Int) (k j : Nat) : arrTo K N T k j k = arrL K N T k j := by unfold arrTo; rw [if_neg (by omega), if_pos rfl]
theorem arrTo_step (K N : Nat) (T : List Int) (k j : Nat) : updN (arrTo K N T k j) k (arrL K N T k (j + 1)) = arrTo K N T k (j + 1) := by
  funext u
  by_cases e : u = k
  · subst e; rw [updN_same, arrTo_at]
  · rw [updN_other _ _ _ e]; unfold arrTo
    by_cases h : u < k
    · rw [if_pos h, if_pos h]
    · rw [if_neg h, if_neg h, if_neg e, if_neg e]

theorem twoArrow : TwoInts 74 76 := twoInts_mk (by kernel_rfl) (by kernel_rfl)
theorem oneArrows : OneCell 72 74 (.slice none 0 0) 24 := ⟨by kernel_rfl, by kernel_rfl, rfl, by decide, fun _ => by kernel_rfl⟩
/-- What the names name: the outer row, the nodes' arrows. -/
structure AN (f : Names) (ov : Value) (vals : List Value) (n : Nat) (F : Nat → List (Int × Int)) : Prop where
  outer : f (1, 0) = some (rowV 74 ov vals)
  len : vals.length = n
  rows : ∀ u, u < n → f (2, u) = some ⟨76, 2, vAt vals u, (F u).length, flat2 (F u)⟩
section
variable {B : Nat} {w : World} {f : Names} {ov : Value} {vals : List Value} {n : Nat} {F : Nat → List (Int × Int)}
def nils2 (n : Nat) : Names := fun i => if i.1 = 2 ∧ i.2 < n then some ⟨76, 2, .slice none 0 0, 0, []⟩ else none
theorem rows_nils2 (B : Nat) (w : World) (n : Nat) : Rows B w (nils2 n) := by
  refine ⟨fun i r hi => ?_, fun i j r s hi _ _ => ?_⟩
  · unfold nils2 at hi
    split at hi
    · injection hi with hi; subst hi; exact World.ownsRow_nil w B _ 2
    · cases hi
  · left
    unfold nils2 at hi
    split at hi
    · injection hi with hi; subst hi; rfl
    · cases hi
theorem AN.made {w1 : World} (n : Nat) (hb : Below w.heap.size w w1) (hB : B ≤ w.heap.size) (ho : OwnV 74 w.heap.size w1 ov (List.replicate n (.slice none 0 0))) :
    ∃ f, Rows B w1 f ∧ AN f ov (List.replicate n (.slice none 0 0)) n (fun _ => []) := by
  refine ⟨_, (rows_nils2 B w n).add (i := (1, 0)) (r' := rowV 74 ov (List.replicate n (.slice none 0 0))) hb (ho.mono hB) (fun k hk => (ho.lt k hk).1), ⟨upd_same _ _ _, by simp, fun u hu => ?_⟩⟩
  rw [upd_ne _ _ (by simp)]
  show nils2 n (2, u) = _
  unfold nils2
  rw [if_pos ⟨rfl, hu⟩]
  simp [vAt, List.getD, hu, flat2]
/-- out[u] = append(out[u], arrow). -/
theorem AN.app (h : AN f ov vals n F) (hr : Rows B w f) {w1 : World} {u g c : Nat} (hu : u < n) (x y : Int)
    (ho : w1.ownsRow B 76 2 (.slice (some ⟨g, 0, none⟩) ((F u).length + 1) c) ((F u).length + 1) (flat2 (F u) ++ [.int .i64 x, .int .i64 y]))
    (hal : ((vAt vals u).ownBlock = some g ∧ w.grownBy w1 (vAt vals u).ownBlock) ∨ (w.heap.size ≤ g ∧ w.grownBy w1 none)) :
    w1.cell? (valAt ov u) = some (vAt vals u) ∧ w1.frozen? (valAt ov u) = false ∧ B ≤ (valAt ov u).block ∧
    ∃ f' vals', Rows B (w1.setCell (valAt ov u) (.slice (some ⟨g, 0, none⟩) ((F u).length + 1) c)) f' ∧ AN f' ov vals' n (updN F u (F u ++ [(x, y)])) := by
  have hrow := h.rows u hu
  have hg : w.grownBy w1 (vAt vals u).ownBlock := grown_via (hal.imp (·.2) (·.2))
  have hob : (Value.slice (some ⟨g, 0, none⟩) ((F u).length + 1) c).ownBlock = (vAt vals u).ownBlock ∨ ∃ k, (Value.slice (some ⟨g, 0, none⟩) ((F u).length + 1) c).ownBlock = some k ∧ w.heap.size ≤ k := by
    rcases hal with ⟨q, _⟩ | ⟨q, _⟩
    · exact .inl q.symm
    · exact .inr ⟨g, rfl, q⟩
  have h1 := hr.grown (r' := ⟨76, 2, .slice (some ⟨g, 0, none⟩) ((F u).length + 1) c, (F u).length + 1, flat2 (F u) ++ [Value.int .i64 x, Value.int .i64 y]⟩) hrow hg (show Row.own B w1 ⟨_, _, _, _, _⟩ from ho) hob
  have ho' : upd f (2, u) (some ⟨76, 2, .slice (some ⟨g, 0, none⟩) ((F u).length + 1) c, (F u).length + 1, flat2 (F u) ++ [Value.int .i64 x, Value.int .i64 y]⟩) (1, 0) = some (rowV 74 ov vals) := by rw [upd_ne _ _ (by simp)]; exact h.outer
  have hl : u < vals.length := by rw [h.len]; exact hu
  have hO := h1.ownV ho'
  refine ⟨hO.at.cellV u hl, hO.frz u hl, (hO.blkB u hl).2, _, _, h1.setV ho' u hl _, ⟨upd_same _ _ _, by simpa using h.len, fun t ht => ?_⟩⟩
  rw [upd_ne _ _ (by simp)]
  by_cases e : t = u
  · subst e
    rw [upd_same, vAt_set_same hl, updN_same, flat2_snoc]; simp
  · rw [upd_ne _ _ (by simpa using e), vAt_set_ne e, updN_other _ _ _ e]
    exact h.rows t ht
end
/-- v reads each node's arrows. -/
def ArrowsAt (w : World) (v : Value) (K N : Nat) (T : List Int) : Prop :=
  ∃ vs, ValsAt w v vs ∧ vs.length = N ∧ ∀ u, u < N → ∃ g c, vAt vs u = .slice (some ⟨g, 0, none⟩) K c ∧ K ≤ c ∧ ∀ s, s < K → w.cell? ⟨g, s * 2, none⟩ = some (.int .i64 (toN K N u s)) ∧ w.cell? ⟨g, s * 2 + 1, none⟩ = some (.int .i64 (labN K T u s))
theorem ArrowsAt.below {w w' : World} {v : Value} {K N : Nat} {T : List Int} (h : ArrowsAt w v K N T) (hb : Below w.heap.size w w') : ArrowsAt w' v K N T := by
  obtain ⟨vs, h1, h2, h3⟩ := h
  refine ⟨vs, h1.below hb, h2, fun u hu => ?_⟩
  obtain ⟨g, c, e, hc, h4⟩ := h3 u hu
  exact ⟨g, c, e, hc, fun s hs => ⟨cell_keep hb (h4 s hs).1, cell_keep hb (h4 s hs).2⟩⟩
theorem AN.reads {B : Nat} {w : World} {f : Names} {ov : Value} {vals : List Value} {K N : Nat} {T : List Int} (hK : 1 ≤ K) (h : AN f ov vals N (arrTo K N T N 0)) (hr : Rows B w f) : ArrowsAt w ov K N T := by
  refine ⟨vals, (hr.ownV h.outer).at, h.len, fun u hu => ?_⟩
  have hrow := h.rows u hu
  have hF : arrTo K N T N 0 u = arrL K N T u K := by unfold arrTo; rw [if_pos hu]
  rw [hF, arrL_len] at hrow
  obtain ⟨g, c, e, hc⟩ := row_shape (hr.1 _ _ hrow) hK
  refine ⟨g, c, e, hc, fun s hs => ?_⟩
  have c0 := hr.cell hrow (g := g) (cap := c) e (s * 2) (by simp; omega)
  have c1 := hr.cell hrow (g := g) (cap := c) e (s * 2 + 1) (by simp; omega)
  have := flat2_get (arrL K N T u K) s (by rw [arrL_len]; exact hs)
  have ea : (arrL K N T u K)[s]'(by rw [arrL_len]; exact hs) = ((toN K N u s : Int), labN K T u s) := by simp [arrL]
  rw [ea] at this
  exact ⟨c0.trans this.1, c1.trans this.2⟩

set_option maxHeartbeats 2000000 in
theorem arrows_any (r : Nat → Addr) (K R : Nat) (va : Option Addr) (vn vc : Nat) (T : List Int) (w : World) (hg : Glob r w) (h : IntsAt w (.slice va vn vc) T) (hok : RuleOk K R T) (hl : T.length ≤ 256) :
    Calls Tryd.prog 45 #[.agg #[.int .i64 K, .int .i64 R, .slice va vn vc]] w (Ret1 (fun x w' => ArrowsAt w' x K (T.length / K) T) w) := by
  have b0 := belowAlloc w (.cells #[.int .i64 K, .int .i64 R, .slice va vn vc] 24)
  have q : Box3 (w.alloc (.cells #[.int .i64 K, .int .i64 R, .slice va vn vc] 24)) w.heap.size (.int .i64 K) (.int .i64 R) (.slice va vn vc) := by simp [Box3, go_sem]
  have hk1 := hok.k1
  have hk4 := hok.k4
  have hN0 : T.length / K ≤ 256 := Nat.le_trans (Nat.div_le_self _ _) hl
  have hEdge := fun (u s : Nat) (w' : World) (hgl : Glob r w') (hT : IntsAt w' (.slice va vn vc) T) (hu : u < T.length / K) (hs : s < K) => over_Edge r K R va vn vc T u s w' hgl hT hok hl hu hs
  have hNodes := fun (w' : World) (hgl : Glob r w') (hT : IntsAt w' (.slice va vn vc) T) => over_Nodes r K R va vn vc T w' hgl hT hok hl
  generalize T.length / K = N at *
  replace hEdge := Lib.hid hEdge
  replace hNodes := Lib.hid hNodes
  replace hg := Lib.hid (hg.below b0)
  replace h := Lib.hid (h.below b0)
  replace hok := Lib.hid hok
  go_enter Tryd.func45, Tryd.ntmps45
  go_wp2_with fail
  refine (hNodes.out _ hg.out h.out).mono ?_
  rintro e w1 ⟨x, y, rfl, b1, rfl, rfl⟩
  have q1 := q.below b1
  have b01 := Below.step b0 b1
  have hg1 := hg.out.below b1
  have hT1 := h.out.below b1
  clear q
  go_wp2_with fail
  obtain ⟨ov, w2, mk, ho, hb2⟩ := run_makeW oneArrows (N : Int) N w1 rfl (by omega)
  obtain ⟨f1, hr1, h1⟩ := AN.made N hb2 (Nat.le_refl _) ho
  obtain ⟨oa, on, oc, rfl⟩ := ho.shape
  have lo := fun w' => (ho.at).len oneArrows 3 w'
  rw [List.length_replicate] at lo
  rw [mk]
  simp only [Result.andThen]
  rw [← arrTo_zero K N T] at h1
  replace hr1 := Lib.hid hr1
  replace ho := Lib.hid ho
  replace q1 := Lib.hid q1
  replace hg1 := Lib.hid hg1
  replace hT1 := Lib.hid hT1
  clear mk
  go_wp2_with fail
  clear lo
  go_loopw [20] (fun kv wr => ∃ (k : Nat) (f : Names) (vals : List Value), k ≤ N ∧ kv = .int .i64 k ∧ Rows w1.heap.size wr f ∧ Below w1.heap.size w1 wr ∧ AN f (.slice oa on oc) vals N (arrTo K N T k 0)) (fun kv _ => N - (intOf kv).toNat)
  case atStart => exact ⟨0, f1, _, by omega, rfl, hr1.out, hb2, h1⟩
  case round =>
    clear h1 ho hr1 hb2
    obtain ⟨k, f2, vals, hk, rfl, hr2, b2, h2⟩ := hrel
    obtain ⟨wo, rfl⟩ : ∃ wo : World, wo = wr := ⟨_, rfl⟩
    by_cases hlt : k < N
    · have z0 := (q1.out.below b2).1.1
      replace hr2 := Lib.hid hr2
      go_wp2_with fail
      clear z0
      go_loopw [25] (fun jv wr => ∃ (j : Nat) (f : Names) (vals : List Value), j ≤ K ∧ jv = .int .i64 j ∧ Rows w1.heap.size wr f ∧ Below w1.heap.size w1 wr ∧ AN f (.slice oa on oc) vals N (arrTo K N T k j)) (fun jv _ => K - (intOf jv).toNat)
      case atStart => exact ⟨0, f2, vals, by omega, rfl, hr2.out, b2, h2⟩
      case round =>
        clear hr2 h2 b2
        obtain ⟨j, f3, vals, hj, rfl, hr3, b3, h3⟩ := hrel
        obtain ⟨wo, rfl⟩ : ∃ wo : World, wo = wr := ⟨_, rfl⟩
        by_cases hjl : j < K
        · obtain ⟨z0, z1, z2⟩ := (q1.out.below b3).1
          replace hr3 := Lib.hid hr3
          go_wp2_with fail
          refine (hEdge.out k j _ (hg1.out.below b3) (hT1.out.below b3) hlt hjl).mono ?_
          rintro e w4 ⟨x, y, z, rfl, b4, rfl, rfl, rfl⟩
          have hr4 := hr3.out.below b4
          have b34 := Below.trans b3 (b4.mono b3.size)
          clear z0 z1 z2
          have hOV := (hr4.ownV h3.outer).at
          have iO := fun w' => hOV.idx oneArrows k (by rw [h3.len]; exact hlt) w'
          have cO := hOV.cellV k (by rw [h3.len]; exact hlt)
          have hT := hr4.1 _ _ (h3.rows k hlt)
          have hB4 : w1.heap.size ≤ w4.heap.size := b34.size
          have happ := fun (w5 : World) (g c : Nat) => h3.app hr4 (w1 := w5) (g := g) (c := c) hlt (toN K N k j) (labN K T k j)
          rw [arrTo_at, ← arrL_succ, arrTo_step] at happ
          rw [arrTo_at] at hT
          unfold Row.own at hT
          simp only [arrL_len] at hT
          generalize vAt vals k = tv at *
          generalize valAt (.slice oa on oc) k = ua at *
          obtain ⟨X, hX⟩ : ∃ X, toN K N k j = X := ⟨_, rfl⟩
          obtain ⟨Y, hY⟩ : ∃ Y, labN K T k j = Y := ⟨_, rfl⟩
          rw [hX, hY] at happ ⊢
          replace happ := Lib.hid happ
          replace hr4 := Lib.hid hr4
          replace hOV := Lib.hid hOV
          replace hX := Lib.hid hX
          replace hY := Lib.hid hY
          go_wp2_with (at_builtin; go_loud (refine wpl_app2 twoArrow rfl _ _ rfl w1.heap.size tv j (flat2 (arrL K N T k j)) X Y _ hT rfl rfl (by simp) (by omega) hB4 ?_))
          intro g c w7 ho7 hal7
          obtain ⟨y1, y2, y3, f8, vals8, hr8, h8⟩ := happ.out w7 g c (by rw [arrL_len]; exact ho7) hal7
          rw [arrL_len] at hr8
          replace hr8 := Lib.hid hr8
          replace ho7 := Lib.hid ho7
          have b7 : Below w1.heap.size w4 w7 := by
            rcases hal7 with ⟨hv, hgr⟩ | ⟨_, hgr⟩
            · exact (Below.refl _ _).grown hgr hB4 (fun m hm => (World.ownsRow.lt hT m hm).1)
            · exact (Below.refl _ _).grown hgr hB4 (fun m hm => by cases hm)
          clear hal7 hT cO
          go_wp2
          go_roundw
          case measure => simp [intOf]; omega
          case rel => exact ⟨j + 1, f8, vals8, by omega, by go_num, hr8.out, (b34.trans b7).setCell y3 _, h8⟩
        · obtain rfl : j = K := by omega
          rw [arrTo_next] at h3
          replace hr3 := Lib.hid hr3
          go_wp2
          go_roundw
          case measure => simp [intOf]; omega
          case rel => exact ⟨k + 1, f3, vals, by omega, by go_num, hr3.out, b3, h3⟩
    · obtain rfl : k = N := by omega
      have hA := h2.reads hk1 hr2
      replace hA := Lib.hid hA
      replace hr2 := Lib.hid hr2
      have bE := Below.step b01 b2
      go_wp2
      go_ret
      exact ⟨_, rfl, bE, hA.out⟩
end Go.Proofs.YtmhiambkfdkkbaaDoor

namespace Go.Proofs.YtmhiambkfdkkbaaDoor

/-- Of the first m places those that are the first or differ from the place before. -/
def ded (zs : List Int) : Nat → List Int
  | 0 => []
  | m + 1 => ded zs m ++ if m = 0 ∨ zs.getD m 0 ≠ zs.getD (m - 1) 0 then [zs.getD m 0] else []
theorem ded_len (zs : List Int) : ∀ m, (ded zs m).length ≤ m
  | 0 => Nat.le_refl _
  | m + 1 => by
    have := ded_len zs m
    rw [ded, List.length_append]
    split <;> simp <;> omega
theorem sorted_getD {zs : List Int} (h : zs.Pairwise (· ≤ ·)) {i j : Nat} (hij : i ≤ j) (hj : j < zs.length) : zs.getD i 0 ≤ zs.getD j 0 := by
  simp only [List.getD_eq_getElem?_getD, List.getElem?_eq_getElem hj, List.getElem?_eq_getElem (show i < zs.length by omega), Option.getD_some]
  by_cases e : i = j
  · subst e; exact Int.le_refl _
  · exact List.pairwise_iff_getElem.1 h i j (by omega) hj (by omega)
theorem ded_spec {zs : List Int} (h : zs.Pairwise (· ≤ ·)) : ∀ m, m ≤ zs.length → (ded zs m).Pairwise (· < ·) ∧ (∀ x, x ∈ ded zs m ↔ x ∈ zs.take m)
  | 0, _ => by simp [ded]
  | m + 1, hm => by
    obtain ⟨h1, h2⟩ := ded_spec h m (by omega)
    have ht : zs.take (m + 1) = zs.take m ++ [zs.getD m 0] := by
      rw [List.take_add_one, List.getElem?_eq_getElem (show m < zs.length by omega)]
      simp [List.getD, show m < zs.length by omega]
    have top : ∀ x ∈ zs.take m, m ≠ 0 ∧ x ≤ zs.getD (m - 1) 0 := fun x hx => by
      obtain ⟨i, hi, e⟩ := List.mem_iff_getElem.1 hx
      have hi' : i < m := by rw [List.length_take] at hi; omega
      have := sorted_getD h (show i ≤ m - 1 by omega) (by omega)
      rw [List.getElem_take] at e
      rw [List.getD_eq_getElem?_getD, List.getElem?_eq_getElem (show i < zs.length by omega), Option.getD_some, e] at this
      exact ⟨by omega, this⟩
    rw [ded, ht]
    by_cases c : m = 0 ∨ zs.getD m 0 ≠ zs.getD (m - 1) 0
    · rw [if_pos c]
      refine ⟨List.pairwise_append.2 ⟨h1, by simp, fun a ha b hb => ?_⟩, fun x => by simp [h2]⟩
      rw [List.mem_singleton] at hb
      subst hb
      obtain ⟨t1, t2⟩ := top a ((h2 a).1 ha)
      have := sorted_getD h (show m - 1 ≤ m by omega) (by omega)
      rcases c with c | c <;> omega
    · rw [if_neg c, List.append_nil]
      refine ⟨h1, fun x => ?_⟩
      rw [h2, List.mem_append, List.mem_singleton]
      constructor
      · exact .inl
      · rintro (q | q)
        · exact q
        · have c2 : m ≠ 0 ∧ zs.getD m 0 = zs.getD (m - 1) 0 := by
            refine ⟨fun e => c (.inl e), ?_⟩
            apply Classical.byContradiction
            intro e; exact c (.inr e)
          rw [q, c2.2, List.mem_iff_getElem]
          refine ⟨m - 1, by rw [List.length_take]; omega, ?_⟩
          rw [List.getElem_take]
          simp [List.getD, show m - 1 < zs.length by omega]
theorem sorted_eqI : ∀ {L M : List Int}, L.Pairwise (· < ·) → M.Pairwise (· < ·) → (∀ v, v ∈ L ↔ v ∈ M) → L = M
  | [], [], _, _, _ => rfl
  | [], b :: M, _, _, h => absurd ((h b).2 List.mem_cons_self) (by simp)
  | a :: L, [], _, _, h => absurd ((h a).1 List.mem_cons_self) (by simp)
  | a :: L, b :: M, hL, hM, h => by
    obtain ⟨a1, a2⟩ := List.pairwise_cons.1 hL
    obtain ⟨b1, b2⟩ := List.pairwise_cons.1 hM
    have hab : a = b := by
      rcases List.mem_cons.1 ((h a).1 List.mem_cons_self) with e | e
      · exact e
      · rcases List.mem_cons.1 ((h b).2 List.mem_cons_self) with e2 | e2
        · exact e2.symm
        · have := b1 a e; have := a1 b e2; omega
    subst hab
    rw [sorted_eqI a2 b2 fun v => ?_]
    have := h v
    simp only [List.mem_cons] at this
    constructor
    · intro hv
      rcases this.1 (.inr hv) with e | e
      · subst e; exact absurd (a1 v hv) (Int.lt_irrefl _)
      · exact e
    · intro hv
      rcases this.2 (.inr hv) with e | e
      · subst e; exact absurd (b1 v hv) (Int.lt_irrefl _)
      · exact e
/-- Sorted, the doubles gone: the ascending list of what leads there. -/
theorem ded_pair {K N : Nat} {T : List Int} (hN : 0 < N) {p : Nat} {zs : List Int} (hs : zs.Pairwise (· ≤ ·)) (hm : ∀ x, x ∈ zs ↔ x ∈ (rawP K N T (p / N) (p % N) K).map fun (n : Nat) => (n : Int)) :
    ded zs zs.length = (pairL K N T p).map fun (n : Nat) => (n : Int) := by
  obtain ⟨h1, h2⟩ := ded_spec hs zs.length (Nat.le_refl _)
  refine sorted_eqI h1 (List.pairwise_map.2 ((pairL_sorted K N T p).imp fun h => by omega)) fun v => ?_
  rw [h2, List.take_length, hm]
  simp only [List.mem_map]
  constructor
  · rintro ⟨q, hq, rfl⟩; exact ⟨q, (mem_pairL hN).2 (mem_rawP.1 hq), rfl⟩
  · rintro ⟨q, hq, rfl⟩; exact ⟨q, mem_rawP.2 ((mem_pairL hN).1 hq), rfl⟩
end Go.Proofs.YtmhiambkfdkkbaaDoor

namespace Go.Proofs.YtmhiambkfdkkbaaDoor
open Go.RowKit Go.Shelf
set_option maxRecDepth 100000

def Tryd.laysCompact_ren : Go.Shelf.Ren := ⟨fun | 20 => 47 | n => n, fun | 22 => 22 | 3 => 3 | 4 => 4 | 0 => 0 | n => n, fun | n => n⟩
theorem Tryd.laysCompact : Go.Proofs.Lays2.n20 Tryd.prog Tryd.laysCompact_ren := {
  mixed := by kernel_rfl
  f20 := Tryd.func47.trans (congrArg some (by kernel_rfl))
  t0 := Tryd.underlying0
  a0 := Tryd.isAgg0
  z0 := Tryd.sizeOf0
  v0 := Tryd.zeroValue0
  t3 := Tryd.underlying3
  a3 := Tryd.isAgg3
  z3 := Tryd.sizeOf3
  v3 := Tryd.zeroValue3
  t4 := Tryd.underlying4
  a4 := Tryd.isAgg4
  z4 := Tryd.sizeOf4
  v4 := Tryd.zeroValue4
  t22 := Tryd.underlying22
  a22 := Tryd.isAgg22
  z22 := Tryd.sizeOf22
  v22 := Tryd.zeroValue22
  i3 := by kernel_rfl }

theorem compact_ded (zs : List Int) : Lib.compact zs = ded zs zs.length := by
  have : ∀ m, m ≤ zs.length → Lib.compactUpTo zs.toArray m = ded zs m := by
    intro m
    induction m with
    | zero => intro _; rfl
    | succ m ih =>
      intro hm
      rw [Lib.compactUpTo_succ, ih (by omega), ded]
      have e1 : zs.toArray[m]! = zs.getD m 0 := by
        rw [getElem!_pos zs.toArray m (by simp; omega)]; simp [List.getD, show m < zs.length by omega]
      have e2 : zs.toArray[m - 1]! = zs.getD (m - 1) 0 := by
        rw [getElem!_pos zs.toArray (m - 1) (by simp; omega)]; simp [List.getD, show m - 1 < zs.length by omega]
      unfold Lib.keeps
      rw [e1, e2]
      by_cases c : m = 0 ∨ zs.getD m 0 ≠ zs.getD (m - 1) 0
      · rw [if_pos c, if_pos (by simpa using c)]
      · rw [if_neg c, if_neg (by simpa using c)]
  exact this _ (Nat.le_refl _)
/-- One's own slice, cut at its front. -/
theorem OwnI.cutTo {B : Nat} {w : World} {a : Option Addr} {n c : Nat} {xs : List Int} (h : OwnI B w (.slice a n c) xs) (m : Nat) (hm : m ≤ xs.length) : OwnI B w (.slice a m c) (xs.take m) := by
  rcases h.2 with ⟨e, e2⟩ | ⟨g, cap, cur, e, hB, hg, hn, hcm, hs, ht⟩
  · injection e with e1 e3 e4
    subst e1 e4
    obtain rfl := List.length_eq_zero_iff.1 e2
    obtain rfl : m = 0 := by simpa using hm
    exact OwnI.nil B w
  · injection e with e1 e3 e4
    subst e1 e4
    have hl : (xs.take m).length = m := by simp; omega
    refine ⟨by simp, .inr ⟨g, c, cur, by rw [hl], hB, hg, by rw [hl]; omega, hcm, hs, ?_⟩⟩
    rw [hl, List.map_take, ← ht, List.take_take]
    congr 1
    omega
/-- slices.Compact at a list of one's own. -/
theorem compact_own (B : Nat) (v : Value) (xs : List Int) (w : World) (h : OwnI B w v xs) (hl : xs.length ≤ 9223372036854775807) :
    Calls Tryd.prog 47 #[v] w fun e w' => ∃ x, e = .returned x ∧ x.ownBlock = v.ownBlock ∧ OwnI B w' x (ded xs xs.length) ∧ Below B w w' := by
  rcases h.2 with ⟨rfl, hn⟩ | ⟨g, cap, cur, rfl, hb, hg, hn, hm, hs, ht⟩
  · obtain rfl := List.length_eq_zero_iff.1 hn
    refine Calls.mono (Any.slices_Compact_int_empty Tryd.laysCompact none 0 w) ?_
    rintro e w' ⟨rfl, rfl⟩
    exact ⟨_, rfl, rfl, h, Below.refl _ _⟩
  · refine Calls.mono (Any.slices_Compact_int_cells Tryd.laysCompact g 0 xs.length cap xs w (Nat.le_refl _) hl hn (fun j hj => ?_) (fun j hj => ?_)) ?_
    · have := h.at.cellD j hj
      rw [valAt_row] at this
      simpa using this
    · have := h.frz j hj
      rw [valAt_row] at this
      simpa using this
    · rintro e w' ⟨rfl, q, rfl⟩
      rw [List.take_length, compact_ded]
      have hd := ded_len xs xs.length
      have hL : (ded xs xs.length ++ List.replicate (xs.length - (ded xs xs.length).length) (0 : Int)).length = xs.length := by simp; omega
      have := setCells_own (w0 := w) (ded xs xs.length ++ List.replicate (xs.length - (ded xs xs.length).length) 0) 0 xs (w.drewN q) rfl (by rw [hL]; omega) (h.drewN q) (below_drewN (Below.refl _ _) q)
      rw [hL, List.take_zero, List.nil_append, Nat.zero_add, List.drop_length, List.append_nil] at this
      have ho := this.1.cutTo (ded xs xs.length).length (by rw [hL]; exact hd)
      rw [List.take_left'  rfl] at ho
      exact ⟨_, rfl, rfl, ho, this.2⟩
end Go.Proofs.YtmhiambkfdkkbaaDoor

namespace Go.Proofs.YtmhiambkfdkkbaaDoor
open Go.RowKit
set_option maxRecDepth 100000

theorem lenArr (g K c : Nat) (w : World) : (Builtin.len_ #[74] 3 #[.slice (some ⟨g, 0, none⟩) K c]).run Tryd.prog w = .ok (.int .i64 K) w := by
  rw [run_len_slice _ _ _ _ _ _ (by kernel_rfl)]; rfl
theorem idxArr (g K c s : Nat) (hs : s < K) (w : World) : (Instr.indexAt 74 (.slice (some ⟨g, 0, none⟩) K c) (.int .i64 s)).run Tryd.prog w = .ok (.pointer (some ⟨g, s * 2, none⟩)) w := by
  have e : Tryd.prog.elem 74 = 76 := by kernel_rfl
  have hz : ∀ w : World, (sizeOf 76).run Tryd.prog w = .ok 2 w := fun w => by kernel_rfl
  rw [run_indexAt_slice _ _ _ _ _ _ _ (by rw [e]; kernel_rfl), if_pos (by omega), e, hz]
  simp only [Result.andThen, Addr.add, Int.toNat_natCast]
  by_cases e : s * 2 = 0
  · rw [if_pos e]
    simp only [e]
  · rw [if_neg e]
    simp
/-- While the lists are written. -/
def pairTo (K N : Nat) (T : List Int) (k p : Nat) : List Int := if p < k then castI (pairL K N T p) else []
theorem pairTo_zero (K N : Nat) (T : List Int) : pairTo K N T 0 = fun _ => [] := by funext p; unfold pairTo; rw [if_neg (by omega)]
theorem pairTo_step (K N : Nat) (T : List Int) (k : Nat) : updN (pairTo K N T k) k (castI (pairL K N T k)) = pairTo K N T (k + 1) := by
  funext p
  unfold pairTo
  by_cases e : p = k
  · subst e; rw [updN_same, if_pos (by omega)]
  · rw [updN_other _ _ _ e]
    by_cases h : p < k
    · rw [if_pos h, if_pos (by omega)]
    · rw [if_neg h, if_neg (by omega)]
/-- The graph of pairs. -/
def pairG (K N : Nat) (T : List Int) : List (List Int) := rowsOf (N * N) fun p => castI (pairL K N T p)
theorem castI_append (a b : List Nat) : castI (a ++ b) = castI a ++ castI b := by simp [castI]

theorem cell_grown {w w' : World} {row : Option Nat} {p : Addr} {v : Value} (hg : w.grownBy w' row) (h : w.cell? p = some v) (hne : row ≠ some p.block) : w'.cell? p = some v :=
  (World.cell?_of_block (hg.block _ (World.block_lt_of_cell? _ _ h) (fun e => hne e.symm))).trans h
theorem Rows.monoB {B B' : Nat} {w : World} {f : Names} (h : Rows B w f) (hB : B' ≤ B) : Rows B' w f :=
  ⟨fun i r hi => by
    have ho := h.1 i r hi
    refine ⟨ho.1, ?_⟩
    rcases ho.2 with h2 | ⟨g, cap, cur, e, hb, r⟩
    · exact .inl h2
    · exact .inr ⟨g, cap, cur, e, Nat.le_trans hB hb, r⟩, h.2⟩

set_option maxHeartbeats 1000000 in
theorem pgraph_ok (r : Nat → Addr) (K R : Nat) (va : Option Addr) (vn vc : Nat) (T : List Int) (w : World) (hg : Glob r w) (h : IntsAt w (.slice va vn vc) T) (hr : RuleOk K R T) (hl : T.length ≤ 256) :
    Calls Tryd.prog 17 #[.agg #[.int .i64 K, .int .i64 R, .slice va vn vc]] w (Ret2 (fun x y w' => y = .nilIface ∧ ∃ f vals, Rows w.heap.size w' f ∧ WN f x vals (pw K (2 * wkR R) * pw K (2 * wkR R)) (fun p => castI (pairL K (pw K (2 * wkR R)) (wkT K R T) p))) w) := by
  have b0 := belowAlloc w (.cells #[.int .i64 K, .int .i64 R, .slice va vn vc] 24)
  have q : Box3 (w.alloc (.cells #[.int .i64 K, .int .i64 R, .slice va vn vc] 24)) w.heap.size (.int .i64 K) (.int .i64 R) (.slice va vn vc) := by simp [Box3, go_sem]
  have hk1 := hr.k1
  have hk4 := hr.k4
  have hokW := wk_ok hr
  have hlW := wk_small hr hl
  have hRW := wk_pos R
  have hN81 := nodes_le hokW hRW hlW
  obtain ⟨hdiv, hlen⟩ := hokW.half
  have hN1 := pw_pos (K := K) (2 * wkR R) hk1
  have hwork := fun (w' : World) (hgl : Glob r w') (hT : IntsAt w' (.slice va vn vc) T) => working_ok r K R va vn vc T w' hgl hT hr hl
  have harr := fun (a : Option Addr) (n c : Nat) (w' : World) (hgl : Glob r w') (hT : IntsAt w' (.slice a n c) (wkT K R T)) => arrows_any r K (wkR R) a n c (wkT K R T) w' hgl hT hokW hlW
  rw [hdiv] at harr
  generalize pw K (2 * wkR R) = N at *
  generalize wkT K R T = T' at *
  generalize wkR R = R' at *
  replace hwork := Lib.hid hwork
  replace harr := Lib.hid harr
  replace hg := Lib.hid (hg.below b0)
  replace h := Lib.hid (h.below b0)
  replace hokW := Lib.hid hokW
  replace hr := Lib.hid hr
  replace hdiv := Lib.hid hdiv
  replace hlen := Lib.hid hlen
  go_enter Tryd.func17, Tryd.ntmps17
  go_wp2_with fail
  refine (hwork.out _ hg.out h.out).mono ?_
  rintro e w1 ⟨x, y, rfl, b1, rfl, a, n, c, rfl, hT1⟩
  have b01 := Below.step b0 b1
  have ba := belowAlloc w1 (.cells #[.int .i64 K, .int .i64 R', .slice a n c] 24)
  have q1 : Box3 (w1.alloc (.cells #[.int .i64 K, .int .i64 R', .slice a n c] 24)) w1.heap.size (.int .i64 K) (.int .i64 R') (.slice a n c) := by simp [Box3, go_sem]
  have b02 := Below.step b01 ba
  have b12 := Below.step b1 ba
  have hT2 := hT1.below ba
  clear q
  replace hT1 := Lib.hid hT1
  replace hT2 := Lib.hid hT2
  go_wp2_with fail
  refine (harr.out a n c _ (hg.out.below b12) hT2.out).mono ?_
  rintro e w3 ⟨lv, rfl, b3, hA⟩
  have b03 := Below.step b02 b3
  clear q1
  obtain ⟨vs, hvs, hvl, hrows⟩ := hA
  obtain ⟨la, ln, lc, rfl⟩ := hvs.shape
  have ll := fun w' => hvs.len oneArrows 3 w'
  rw [hvl] at ll
  have hNN : (N : Int) * (N : Int) = ((N * N : Nat) : Int) := by simp
  have hM6 : N * N ≤ 6561 := Nat.mul_le_mul hN81 hN81
  have hNz1 : ¬ (N : Int) = 0 := by omega
  have hNz2 : ((N : Int) == 0) = false := by rw [beq_eq_false_iff_ne]; omega
  have hNz3 : (0 : Int) < N := by omega
  have hNz4 : ¬ N = 0 := by omega
  obtain ⟨M, hM⟩ : ∃ M, N * N = M := ⟨_, rfl⟩
  rw [hM] at hNN hM6
  have hwM : IntKind.i64.wrap (M : Int) = M := wrapK (by omega) (by omega)
  obtain ⟨ov, w4, mk, ho, hb4⟩ := run_makeW oneLists (M : Int) M w3 rfl (by omega)
  obtain ⟨f1, hr1, h1⟩ := WN.made M hb4 (Nat.le_refl _) ho
  obtain ⟨oa, on, oc, rfl⟩ := ho.shape
  have lo := fun w' => (ho.at).len oneLists 3 w'
  rw [List.length_replicate] at lo
  rw [← pairTo_zero K N T'] at h1
  replace hvs := Lib.hid hvs
  replace hrows := Lib.hid hrows
  replace hr1 := Lib.hid hr1
  replace ho := Lib.hid ho
  replace hM := Lib.hid hM
  go_wp2_with fail
  clear mk lo ll
  go_loopw [33] (fun kv wr => ∃ (k : Nat) (f : Names) (vals : List Value), k ≤ M ∧ kv = .int .i64 k ∧ Rows w3.heap.size wr f ∧ Below w3.heap.size w3 wr ∧ WN f (.slice oa on oc) vals M (pairTo K N T' k)) (fun kv _ => M - (intOf kv).toNat)
  case atStart => exact ⟨0, f1, _, by omega, rfl, hr1.out, hb4, h1⟩
  case round =>
    clear h1 ho hr1 hb4
    obtain ⟨k, f2, vals, hk, rfl, hr2, b2, h2⟩ := hrel
    obtain ⟨wo, rfl⟩ : ∃ wo : World, wo = wr := ⟨_, rfl⟩
    by_cases hlt : k < M
    · obtain ⟨u, hu⟩ : ∃ u, k / N = u := ⟨_, rfl⟩
      obtain ⟨v, hv⟩ : ∃ v, k % N = v := ⟨_, rfl⟩
      have hun : u < N := by rw [← hu]; exact div_lt_of (by rw [hM.out]; exact hlt)
      have hvn : v < N := by rw [← hv]; exact Nat.mod_lt _ (by omega)
      have hqu : (k : Int) / (N : Int) = (u : Int) := by rw [← hu]; simp
      have hqv : (k : Int) % (N : Int) = (v : Int) := by rw [← hv]; simp
      have hqu2 : (k : Int).tdiv (N : Int) = (u : Int) := by rw [Int.tdiv_eq_ediv_of_nonneg (by omega)]; exact hqu
      have hqv2 : (k : Int).tmod (N : Int) = (v : Int) := by rw [Int.tmod_eq_emod_of_nonneg (by omega)]; exact hqv
      have hwu : IntKind.i64.wrap (u : Int) = u := wrapK (by omega) (by omega)
      have hwv : IntKind.i64.wrap (v : Int) = v := wrapK (by omega) (by omega)
      obtain ⟨gu, cu, eu, hcu, hcellU⟩ := hrows.out u hun
      obtain ⟨gv, cv, ev, hcv, hcellV⟩ := hrows.out v hvn
      have iU := fun w' => hvs.out.idx oneArrows u (by omega) w'
      have iV := fun w' => hvs.out.idx oneArrows v (by omega) w'
      have cU3 := hvs.out.cellV u (by omega)
      have cV3 := hvs.out.cellV v (by omega)
      rw [eu] at cU3
      rw [ev] at cV3
      have cU := (b2.cell (World.block_lt_of_cell? _ _ cU3)).trans cU3
      generalize valAt (.slice la ln lc) u = ua at *
      have lenU := lenArr gu K cu
      have lenV := lenArr gv K cv
      have idxU := fun s (hs : s < K) w' => idxArr gu K cu s hs w'
      have idxV := fun s (hs : s < K) w' => idxArr gv K cv s hs w'
      have hcU := fun (w' : World) (hb : Below w3.heap.size w3 w') s (hs : s < K) => (⟨cell_keep hb (hcellU s hs).1, cell_keep hb (hcellU s hs).2⟩ : w'.cell? ⟨gu, s * 2, none⟩ = some (.int .i64 (toN K N u s)) ∧ w'.cell? ⟨gu, s * 2 + 1, none⟩ = some (.int .i64 (labN K T' u s)))
      have hcV := fun (w' : World) (hb : Below w3.heap.size w3 w') s (hs : s < K) => (⟨cell_keep hb (hcellV s hs).1, cell_keep hb (hcellV s hs).2⟩ : w'.cell? ⟨gv, s * 2, none⟩ = some (.int .i64 (toN K N v s)) ∧ w'.cell? ⟨gv, s * 2 + 1, none⟩ = some (.int .i64 (labN K T' v s)))
      have cVk := fun (w' : World) (hb : Below w3.heap.size w3 w') => (hb.cell (World.block_lt_of_cell? _ _ cV3)).trans cV3
      generalize valAt (.slice la ln lc) v = va' at *
      replace hcU := Lib.hid hcU
      replace hcV := Lib.hid hcV
      replace cVk := Lib.hid cVk
      replace idxU := Lib.hid idxU
      replace idxV := Lib.hid idxV
      replace hcellU := Lib.hid hcellU
      replace hcellV := Lib.hid hcellV
      replace hr2 := Lib.hid hr2
      replace hu := Lib.hid hu
      replace hv := Lib.hid hv
      replace eu := Lib.hid eu
      replace ev := Lib.hid ev
      clear cU3 cV3
      go_wp2_with fail
      clear cU iU
      go_loopw [10, 43] (fun tv sv wr => ∃ (s : Nat) (tw : Value), s ≤ K ∧ sv = .int .i64 s ∧ tw = tv ∧ OwnI wo.heap.size wr tw (castI (rawP K N T' u v s)) ∧ Below wo.heap.size wo wr) (fun _ sv _ => K - (intOf sv).toNat)
      case atStart => exact ⟨0, _, by omega, rfl, rfl, OwnI.nil _ _, Below.refl _ _⟩
      case round =>
        obtain ⟨s, tv, hs, rfl, rfl, hoT, bT⟩ := hrel
        obtain ⟨wt, rfl⟩ : ∃ wt : World, wt = wr := ⟨_, rfl⟩
        by_cases hsl : s < K
        · have b3t := b2.trans (bT.mono b2.size)
          have iS := fun w' => idxU.out s hsl w'
          obtain ⟨cS0, cS1⟩ := hcU.out wt b3t s hsl
          obtain ⟨X, hX⟩ : ∃ X, toN K N u s = X := ⟨_, rfl⟩
          obtain ⟨Y, hY⟩ : ∃ Y, labN K T' u s = Y := ⟨_, rfl⟩
          rw [hX] at cS0
          rw [hY] at cS1
          have hXN : X < N := by rw [← hX]; exact toN_lt (by omega)
          have bA := belowAlloc wt (.cells #[.int .i64 X, .int .i64 Y] 76)
          have bTA := bT.trans (bA.mono bT.size)
          have b3A := b3t.trans (bA.mono b3t.size)
          have cA0 : (wt.alloc (.cells #[.int .i64 X, .int .i64 Y] 76)).cell? ⟨wt.heap.size, 0, none⟩ = some (.int .i64 X) := by simp [go_sem]
          have cA1 : (wt.alloc (.cells #[.int .i64 X, .int .i64 Y] 76)).cell? ⟨wt.heap.size, 1, none⟩ = some (.int .i64 Y) := by simp [go_sem]
          have cV := cVk.out _ b3A
          have hoA := hoT.below bA
          have hneT : tv.ownBlock ≠ some wt.heap.size := fun e => by have := (hoT.lt _ e).2; omega
          replace hoT := Lib.hid hoT
          replace hoA := Lib.hid hoA
          replace hX := Lib.hid hX
          replace hY := Lib.hid hY
          replace cA0 := Lib.hid cA0
          replace cA1 := Lib.hid cA1
          go_wp2_with fail
          obtain ⟨wa, hwa⟩ : ∃ wa : World, wa = wt.alloc (.cells #[.int .i64 X, .int .i64 Y] 76) := ⟨_, rfl⟩
          rw [← hwa] at bA bTA b3A cA0 cA1 cV hoA ⊢
          replace hwa := Lib.hid hwa
          go_loopw [10, 54] (fun tv' jv wr => ∃ (j : Nat) (tw : Value), j ≤ K ∧ jv = .int .i64 j ∧ tw = tv' ∧ OwnI wo.heap.size wr tw (castI (rawP K N T' u v s ++ rawS K N T' u v s j)) ∧ Below wo.heap.size wo wr ∧ tw.ownBlock ≠ some wt.heap.size ∧ wr.cell? ⟨wt.heap.size, 0, none⟩ = some (.int .i64 X) ∧ wr.cell? ⟨wt.heap.size, 1, none⟩ = some (.int .i64 Y)) (fun _ jv _ => K - (intOf jv).toNat)
          case atStart => exact ⟨0, _, by omega, rfl, rfl, by simpa [rawS] using hoA.out, bTA, hneT, cA0.out, cA1.out⟩
          case round =>
            obtain ⟨j, tj, hj, rfl, rfl, hoJ, bJ, hne, y0, y1⟩ := hrel
            obtain ⟨wj, rfl⟩ : ∃ wj : World, wj = wr := ⟨_, rfl⟩
            by_cases hjl : j < K
            · have b3j := b2.trans (bJ.mono b2.size)
              have iJ := fun w' => idxV.out j hjl w'
              obtain ⟨cJ0, cJ1⟩ := hcV.out wj b3j j hjl
              obtain ⟨X2, hX2⟩ : ∃ X, toN K N v j = X := ⟨_, rfl⟩
              obtain ⟨Y2, hY2⟩ : ∃ Y, labN K T' v j = Y := ⟨_, rfl⟩
              rw [hX2] at cJ0
              rw [hY2] at cJ1
              have hXN2 : X2 < N := by rw [← hX2]; exact toN_lt (by omega)
              have bA2 := belowAlloc wj (.cells #[.int .i64 X2, .int .i64 Y2] 76)
              have y0' := cell_keep bA2 y0
              have y1' := cell_keep bA2 y1
              have bJA := bJ.trans (bA2.mono bJ.size)
              have hoJA := hoJ.below bA2
              have hsz := bJA.size
              have hwt : wt.heap.size < wj.heap.size := World.block_lt_of_cell? _ _ y0
              have hlenJ : (castI (rawP K N T' u v s ++ rawS K N T' u v s j)).length ≤ 100 := by
                rw [castI_len, List.length_append]
                have e1 := rawP_len K N T' u v s
                have e2 := rawS_len K N T' u v s j
                have e3 := Nat.mul_le_mul hs hk4
                omega
              replace hoJ := Lib.hid hoJ
              replace hX2 := Lib.hid hX2
              replace hY2 := Lib.hid hY2
              have cB0 : (wj.alloc (.cells #[.int .i64 X2, .int .i64 Y2] 76)).cell? ⟨wj.heap.size, 0, none⟩ = some (.int .i64 X2) := by simp [go_sem]
              have cB1 : (wj.alloc (.cells #[.int .i64 X2, .int .i64 Y2] 76)).cell? ⟨wj.heap.size, 1, none⟩ = some (.int .i64 Y2) := by simp [go_sem]
              go_upto_region 17 with fail
              obtain ⟨wb, hwb⟩ : ∃ wb : World, wb = wj.alloc (.cells #[.int .i64 X2, .int .i64 Y2] 76) := ⟨_, rfl⟩
              rw [← hwb] at bA2 y0' y1' bJA hoJA hsz cB0 cB1 ⊢
              have hszb : wj.heap.size < wb.heap.size := World.block_lt_of_cell? _ _ cB0
              replace hszb := Lib.hid hszb
              replace hwb := Lib.hid hwb
              by_cases hYY : Y = Y2
              · have hYq : (Y == Y2) = true := by rw [beq_iff_eq]; exact hYY
                have hraw : rawS K N T' u v s (j + 1) = rawS K N T' u v s j ++ [X * N + X2] := by
                  rw [rawS_succ]; unfold rawT
                  rw [hY.out, hY2.out, hX.out, hX2.out, if_pos hYY]
                obtain ⟨m, hm⟩ : ∃ m, X * N = m := ⟨_, rfl⟩
                have hm1 : (X : Int) * (N : Int) = (m : Int) := by rw [← hm]; simp
                have hml : m ≤ 6561 := by rw [← hm]; exact Nat.le_trans (Nat.mul_le_mul (show X ≤ 81 by omega) hN81) (by decide)
                have hwm : IntKind.i64.wrap (m : Int) = m := wrapK (by omega) (by omega)
                have hsum : (m : Int) + (X2 : Int) = ((m + X2 : Nat) : Int) := by simp
                rw [hm] at hraw
                obtain ⟨z, hz⟩ : ∃ z, m + X2 = z := ⟨_, rfl⟩
                rw [hz] at hsum hraw
                have hzl : z ≤ 7000 := by omega
                have hwz : IntKind.i64.wrap (z : Int) = z := wrapK (by omega) (by omega)
                replace hraw := Lib.hid hraw
                replace hm := Lib.hid hm
                replace hz := Lib.hid hz
                replace hYY := Lib.hid hYY
                go_wp2_with (at_builtin; go_loud (refine wpl_app1 rfl _ _ rfl wo.heap.size tj _ z hoJA rfl rfl (by omega) hsz ?_))
                intro v' w7 ho7 b7 hal
                have hne' : v'.ownBlock ≠ some wt.heap.size := by
                  rcases hal with ⟨q1, _⟩ | ⟨m, q1, q2, _⟩
                  · rw [ownBlock_eq hoJA ho7 q1]; exact hne
                  · rw [q1]; intro e; injection e with e; have := hszb.out; omega
                have y07 : w7.cell? ⟨wt.heap.size, 0, none⟩ = some (.int .i64 X) ∧ w7.cell? ⟨wt.heap.size, 1, none⟩ = some (.int .i64 Y) := by
                  rcases hal with ⟨_, q2⟩ | ⟨_, _, _, q2⟩
                  · exact ⟨cell_grown q2 y0' hne, cell_grown q2 y1' hne⟩
                  · exact ⟨cell_grown q2 y0' (by simp), cell_grown q2 y1' (by simp)⟩
                obtain ⟨ta, tn, tc, rfl⟩ := ho7.at.shape
                replace ho7 := Lib.hid ho7
                replace y07 := Lib.hid y07
                clear hal
                go_wp2
                go_roundw
                case measure => simp [intOf]; omega
                case rel => exact ⟨j + 1, _, by omega, by go_num, rfl, by rw [hraw.out, ← List.append_assoc, castI_snoc]; exact ho7.out, bJA.trans b7, hne', y07.out.1, y07.out.2⟩
              · have hYq : (Y == Y2) = false := by rw [beq_eq_false_iff_ne]; exact hYY
                have hraw : rawS K N T' u v s (j + 1) = rawS K N T' u v s j := by
                  rw [rawS_succ]; unfold rawT
                  rw [hY.out, hY2.out, if_neg hYY, List.append_nil]
                replace hraw := Lib.hid hraw
                replace hoJA := Lib.hid hoJA
                replace hYY := Lib.hid hYY
                go_wp2
                go_roundw
                case measure => simp [intOf]; omega
                case rel => exact ⟨j + 1, _, by omega, by go_num, rfl, by rw [hraw.out]; exact hoJA.out, bJA, hne, y0', y1'⟩
            · obtain rfl : j = K := by omega
              rw [← rawP_succ] at hoJ
              replace hoJ := Lib.hid hoJ
              go_wp2
              go_roundw
              case measure => simp [intOf]; omega
              case rel => exact ⟨s + 1, _, by omega, by go_num, rfl, hoJ.out, bJ⟩
        · obtain rfl : s = K := by omega
          have hlT : (castI (rawP s N T' u v s)).length ≤ 17592186044416 := by
            rw [castI_len]
            have e1 := rawP_len s N T' u v s
            have e3 := Nat.mul_le_mul hk4 hk4
            omega
          have hsz := bT.size
          replace hoT := Lib.hid hoT
          go_wp2_with fail
          refine (sort_own wo.heap.size tv _ wt hoT.out hlT hsz).mono ?_
          rintro e w8 ⟨rfl, ho8, b8⟩
          have bT8 := bT.trans b8
          replace ho8 := Lib.hid ho8
          go_wp2_with fail
          refine (compact_own wo.heap.size tv _ w8 ho8.out (by rw [srt_length]; omega)).mono ?_
          rintro e w9 ⟨x, rfl, _, ho9, b9⟩
          have bT9 := bT8.trans b9
          have hded : ded (srt (castI (rawP s N T' u v s))) (srt (castI (rawP s N T' u v s))).length = castI (pairL s N T' k) := by
            refine ded_pair (by omega) (srt_sorted _) (fun x => ?_)
            rw [srt_mem, hu.out, hv.out]; rfl
          rw [hded] at ho9
          have hnew := h2.new hr2.out k bT9 b2.size ho9
          obtain ⟨y1, y2, y3, f8, hr8, h8, _⟩ := h2.put hlt hnew
          rw [pairTo_step] at h8
          have iO := fun w' => ((hr2.out.ownV h2.outer).at).idx oneLists k (by rw [h2.len]; exact hlt) w'
          generalize valAt (.slice oa on oc) k = ka at *
          obtain ⟨xa, xn, xc, rfl⟩ := ho9.at.shape
          have b39 := b2.trans (bT9.mono b2.size)
          replace hr8 := Lib.hid hr8
          replace ho9 := Lib.hid ho9
          replace hded := Lib.hid hded
          replace hnew := Lib.hid hnew
          go_wp2
          go_roundw
          case measure => simp [intOf]; omega
          case rel => exact ⟨k + 1, f8, _, by omega, by go_num, hr8.out, b39.setCell y3 _, h8⟩
    · obtain rfl : k = M := by omega
      have hR := hr2.monoB (Nat.le_trans b03.size (Nat.le_refl _))
      have hW : WN f2 (.slice oa on oc) vals (N * N) (fun p => castI (pairL K N T' p)) := by
        rw [hM.out]
        exact ⟨h2.outer, h2.len, fun u hu => by rw [h2.rows u hu]; unfold pairTo; rw [if_pos hu]⟩
      have bE := Below.step b03 b2
      replace hR := Lib.hid hR
      replace hr2 := Lib.hid hr2
      go_wp2
      go_ret2
      exact ⟨_, _, rfl, bE, rfl, _, _, hR.out, hW⟩
end Go.Proofs.YtmhiambkfdkkbaaDoor

namespace Go.Proofs.YtmhiambkfdkkbaaDoor
open Go.RowKit
set_option maxRecDepth 100000

theorem Rows.void (B : Nat) (w : World) : Rows B w (fun _ => Option.none) := by
  refine ⟨?_, ?_⟩
  · intro i r h; cases h
  · intro i j r s h; cases h
theorem Rows.push {B : Nat} {w w1 : World} {f : Names} {i : Nat × Nat} {v v' : Value} {xs : List Int} (h : Rows B w f) (hi : f i = some (rowI v xs)) (x : Int) (ho : OwnI B w1 v' (xs ++ [x]))
    (hg : w.grownBy w1 v.ownBlock) (hal : v'.ownBlock = v.ownBlock ∨ ∃ k, v'.ownBlock = some k ∧ w.heap.size ≤ k) : Rows B w1 (upd f i (some (rowI v' (xs ++ [x])))) :=
  h.grown (r' := rowI v' (xs ++ [x])) hi hg ho hal
theorem alongW_snoc (K m : Nat) (F : Nat → Nat) (l : List Nat) (p : Nat) (hl : l ≠ []) : alongW K m F (l ++ [p]) = alongW K m F l ++ [((F p % K : Nat) : Int)] := by
  cases l with
  | nil => exact absurd rfl hl
  | cons a l => simp [alongW, List.getD]
theorem alongW_one (K m : Nat) (F : Nat → Nat) (p : Nat) : alongW K m F [p] = digs K m (F p) := by simp [alongW, List.getD]

/-- pairs.wrong. -/
theorem pairs_wrong (r : Nat → Addr) (at_ n : Int) (w : World) (hg : Glob r w) (h1 : 1 ≤ n) (h2 : n ≤ 11) :
    Calls Tryd.prog 49 #[.int .i64 at_, .int .i64 n] w (Ret1 (fun v w' => ErrIs r w' (fresh sPairs at_ n) v) w) := by
  go_enter Tryd.func49, Tryd.ntmps49
  go_wp2_with fail
  refine (new_any r _ at_ n w hg h1 h2).mono ?_
  rintro e w' ⟨v, rfl, hb, he⟩
  go_wp2
  go_ret
  exact ⟨_, rfl, hb, he⟩

theorem pwords_bad (r : Nat → Addr) (k R : Int) (va : Option Addr) (vn vc : Nat) (T : List Int) (u : Value) (t : Int × List (ByteArray × Int)) (w : World) (hg : Glob r w) (h : IntsAt w (.slice va vn vc) T) (hc : smallP k R T = some t) :
    Calls Tryd.prog 20 #[.agg #[.int .i64 k, .int .i64 R, .slice va vn vc], u] w (Ret3 (fun x y z w' => x = .slice none 0 0 ∧ y = .slice none 0 0 ∧ ErrIs r w' (under sPairs 0 (some t)) z) w) := by
  have b0 := belowAlloc w (.cells #[.int .i64 k, .int .i64 R, .slice va vn vc] 24)
  replace hg := Lib.hid (hg.below b0)
  replace h := Lib.hid (h.below b0)
  replace hc := Lib.hid hc
  go_enter Tryd.func20, Tryd.ntmps20
  go_wp2_with fail
  refine (working_bad r k R va vn vc T t _ hg.out h.out hc.out).mono ?_
  rintro e w1 ⟨x, y, rfl, b1, rfl, hy⟩
  obtain ⟨T2, a2, rfl⟩ : ∃ T a, y = .iface T (.pointer (some a)) := by
    unfold under at hy
    exact ErrIs.some_shape hy
  have ba := belowAlloc w1 (.cells #[.int .i64 0, .int .i64 0, .slice none 0 0] 24)
  have hy2 := hy.below ba
  replace hy := Lib.hid hy
  replace hy2 := Lib.hid hy2
  go_wp2
  go_ret3
  exact ⟨_, _, _, rfl, Below.step b0 (Below.step b1 ba), rfl, rfl, hy2.out⟩

/-- Is it a list of vertices? -/
def WayOk (N : Nat) (way : List Int) : Prop := way ≠ [] ∧ ∀ p ∈ way, 0 ≤ p ∧ p < ((N * N : Nat) : Int)
def AllFit (K N : Nat) (T : List Int) (ns : List Nat) : Prop := ∀ i, i + 1 < ns.length → StepFits K N T (ns.getD i 0) (ns.getD (i + 1) 0)
theorem WayOk.nat {N : Nat} {way : List Int} (h : WayOk N way) : ∃ ns : List Nat, way = castI ns ∧ ns ≠ [] ∧ ∀ p ∈ ns, p < N * N := by
  refine ⟨way.map Int.toNat, ?_, by simpa using h.1, fun p hp => ?_⟩
  · unfold castI
    rw [List.map_map]
    refine (List.map_id _).symm.trans (List.map_congr_left fun p hp => ?_)
    have := h.2 p hp
    show p = ((p.toNat : Nat) : Int)
    omega
  · obtain ⟨q, hq, rfl⟩ := List.mem_map.1 hp
    have := h.2 q hq
    omega

set_option maxHeartbeats 1000000 in
theorem pwords_odd (r : Nat → Addr) (K R : Nat) (va : Option Addr) (vn vc : Nat) (T : List Int) (u : Value) (way : List Int) (w : World) (hg : Glob r w) (h : IntsAt w (.slice va vn vc) T) (hr : RuleOk K R T) (hl : T.length ≤ 256) (hu : IntsAt w u way) (hno : ¬ WayOk (pw K (2 * wkR R)) way) :
    Calls Tryd.prog 20 #[.agg #[.int .i64 K, .int .i64 R, .slice va vn vc], u] w (Ret3 (fun x y z w' => x = .slice none 0 0 ∧ y = .slice none 0 0 ∧ ErrIs r w' (fresh sPairs 1 3) z) w) := by
  have b0 := belowAlloc w (.cells #[.int .i64 K, .int .i64 R, .slice va vn vc] 24)
  have hk1 := hr.k1
  have hokW := wk_ok hr
  have hlW := wk_small hr hl
  have hRW := wk_pos R
  have hN81 := nodes_le hokW hRW hlW
  obtain ⟨hdiv, hlen⟩ := hokW.half
  have hwork := fun (w' : World) (hgl : Glob r w') (hT : IntsAt w' (.slice va vn vc) T) => working_ok r K R va vn vc T w' hgl hT hr hl
  have hNodes := fun (a : Option Addr) (n c : Nat) (w' : World) (hgl : Glob r w') (hT : IntsAt w' (.slice a n c) (wkT K R T)) => over_Nodes r K (wkR R) a n c (wkT K R T) w' hgl hT hokW hlW
  rw [hdiv] at hNodes
  generalize pw K (2 * wkR R) = N at *
  generalize wkT K R T = T' at *
  generalize wkR R = R' at *
  have lu := hu.len
  obtain ⟨ua, un, uc, rfl⟩ := hu.shape
  replace hwork := Lib.hid hwork
  replace hNodes := Lib.hid hNodes
  replace hg := Lib.hid (hg.below b0)
  replace h := Lib.hid (h.below b0)
  replace hu := Lib.hid (hu.below b0)
  replace hokW := Lib.hid hokW
  replace hr := Lib.hid hr
  replace hdiv := Lib.hid hdiv
  replace hlen := Lib.hid hlen
  go_enter Tryd.func20, Tryd.ntmps20
  go_wp2_with fail
  refine (hwork.out _ hg.out h.out).mono ?_
  rintro e w1 ⟨x, y, rfl, b1, rfl, a, n, c, rfl, hT1⟩
  have ba := belowAlloc w1 (.cells #[.int .i64 K, .int .i64 R', .slice a n c] 24)
  have b12 := Below.step b1 ba
  have hT2 := hT1.below ba
  replace hT1 := Lib.hid hT1
  replace hT2 := Lib.hid hT2
  go_wp2_with fail
  refine (hNodes.out a n c _ (hg.out.below b12) hT2.out).mono ?_
  rintro e w3 ⟨x, y, rfl, b3, rfl, rfl⟩
  have bb := belowAlloc w3 (.cells #[.int .i64 N] 3)
  have b14 := Below.step b12 (Below.step b3 bb)
  have cN : (w3.alloc (.cells #[.int .i64 N] 3)).cell? ⟨w3.heap.size, 0, none⟩ = some (.int .i64 N) := by simp [go_sem]
  have hcf := containsFunc_any (.slice ua un uc) (.pointer (some ⟨w3.heap.size, 0, none⟩)) 53 way (odd1 ((N * N : Nat) : Int)) _ (hu.out.below b14) eg_words1 (fun x _ => words1_any x w3.heap.size N _ (by omega) cN)
  replace hcf := Lib.hid hcf
  replace cN := Lib.hid cN
  have hg4 := hg.out.below b14
  replace hg4 := Lib.hid hg4
  by_cases hw : way = []
  · subst hw
    go_wp2_with fail
    refine (pairs_wrong r _ _ _ hg4.out (by decide) (by decide)).mono ?_
    rintro e w5 ⟨x, rfl, b5, he⟩
    go_wp2
    go_ret3
    exact ⟨_, _, _, rfl, Below.step b0 (Below.step b14 b5), rfl, rfl, he⟩
  · have hl0 : ¬ way.length = 0 := fun e => hw (List.length_eq_zero_iff.1 e)
    have hl1 : ((way.length : Int) == 0) = false := by rw [beq_eq_false_iff_ne]; omega
    have hhit : decide (0 ≤ idxOf (odd1 ((N * N : Nat) : Int)) way) = true := by
      rw [decide_eq_true_iff]
      rcases idxOf_cases (odd1 ((N * N : Nat) : Int)) way with ⟨_, q⟩ | ⟨k, q, _⟩
      · exact absurd ⟨hw, fun p hp => odd1_false.1 (q p hp)⟩ hno
      · rw [q]; omega
    replace hw := Lib.hid hw
    replace hhit := Lib.hid hhit
    go_wp2_with fail
    refine hcf.out.mono ?_
    rintro e w5 ⟨rfl, rfl⟩
    rw [hhit.out]
    go_wp2_with fail
    refine (pairs_wrong r _ _ _ hg4.out (by decide) (by decide)).mono ?_
    rintro e w5 ⟨x, rfl, b5, he⟩
    go_wp2
    go_ret3
    exact ⟨_, _, _, rfl, Below.step b0 (Below.step b14 b5), rfl, rfl, he⟩
end Go.Proofs.YtmhiambkfdkkbaaDoor
