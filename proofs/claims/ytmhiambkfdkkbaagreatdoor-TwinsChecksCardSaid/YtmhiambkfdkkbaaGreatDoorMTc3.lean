/-
  Plain mathematics: the document's sides, mirrored rule and preimages with given ends are the program's.
  Plain mathematics: the sides of mirrored, renamed and composed rules.
  Plain mathematics: graphs: what leads where; Tarjan's search and the parts that it tells.
  Plain mathematics of layer 13: pairs of nodes, their arrows; words and the nodes along them.
  Plain mathematics of layer 15: twins, and the ways from a pair of equal nodes through pairs that are apart to a pair of equal nodes.
  Plain mathematics: the image and the twins of a mirrored rule.
  Plain mathematics: a rule with a greater radius.
  Plain mathematics of layer 14: words of any length that differ in the middle and have one image; the theorem of the garden of Eden, one half.
  Walks: forms.symbol, forms.behind$1.
  Walk: permut.Left.
  Walk: forms.made, with a function that holds two things.
  Walks: forms.behind, forms.check, forms.wrong, forms.Compose.
-/
import Derived.Test.YtmhiambkfdkkbaaGreatDoorMTc2
namespace Go.Proofs.YtmhiambkfdkkbaaGreatDoor

theorem numW_cons (K : Nat) (s : Int) (u : List Int) : numW K (s :: u) = s.toNat * pw K u.length + numW K u := by
  have := numW_append K [s] u
  simpa [numW] using this

theorem digs_numW {K : Nat} (hK : 1 ≤ K) (w : List Int) (h : Syms K w) : digs K w.length (numW K w) = w := by
  induction hn : w.length generalizing w with
  | zero => obtain rfl := List.eq_nil_of_length_eq_zero hn; rfl
  | succ n ih =>
    have hne : w ≠ [] := by intro e; subst e; simp at hn
    obtain ⟨b, x, rfl⟩ : ∃ b x, w = b ++ [x] := ⟨w.dropLast, w.getLast hne, (List.dropLast_concat_getLast hne).symm⟩
    have hb : b.length = n := by simpa using hn
    have hx := h x (by simp)
    have hxn : x.toNat < K := by omega
    have := ih b (fun y hy => h y (by simp [hy])) hb
    rw [digs, numW_snoc]
    rw [show (numW K b * K + x.toNat) / K = numW K b by rw [Nat.mul_comm, Nat.mul_add_div (by omega), Nat.div_eq_of_lt hxn, Nat.add_zero], this,
      show (numW K b * K + x.toNat) % K = x.toNat by rw [Nat.mul_comm, Nat.mul_add_mod, Nat.mod_eq_of_lt hxn]]
    congr 2
    omega

/-- The mirrored table. -/
def mirT (K n : Nat) (T : List Int) : List Int := (List.range T.length).map fun i => T.getD (numW K (digs K n i).reverse) 0
theorem mirT_length (K n : Nat) (T : List Int) : (mirT K n T).length = T.length := by simp [mirT]
theorem mirT_syms {K : Nat} (hK : 1 ≤ K) (n : Nat) {T : List Int} (h : Syms K T) : Syms K (mirT K n T) := by
  intro y hy
  obtain ⟨i, _, rfl⟩ := List.mem_map.1 hy
  exact h.getD (by omega) _
theorem mirT_at {K n : Nat} (hK : 1 ≤ K) {T : List Int} (hT : T.length = pw K n) (w : List Int) (hw : Syms K w) (hl : w.length = n) : (mirT K n T).getD (numW K w) 0 = T.getD (numW K w.reverse) 0 := by
  have hlt := numW_lt w hw
  rw [hl, ← hT] at hlt
  have : (mirT K n T).getD (numW K w) 0 = T.getD (numW K (digs K n (numW K w)).reverse) 0 := by simp [mirT, List.getD, hlt]
  rw [this, ← hl, digs_numW hK w hw]
theorem mirT_ok {K R : Nat} {T : List Int} (h : RuleOk K R T) : RuleOk K R (mirT K (2 * R + 1) T) :=
  ⟨h.k1, h.k4, h.r3, by rw [mirT_length]; exact h.len, mirT_syms h.k1 _ h.syms⟩

/-- edenref19.right's answer. -/
def rightR (K : Nat) (T : List Int) : Bool := decide (∀ i, i < T.length → ∀ j, j < T.length → i < j → j / K = i / K → T.getD i 0 ≠ T.getD j 0)
theorem rightR_false {K : Nat} {T : List Int} (i j : Nat) (hj : j < T.length) (h : i < j) (hq : j / K = i / K) (e : T.getD i 0 = T.getD j 0) : rightR K T = false := by
  rw [rightR, decide_eq_false_iff_not]
  intro hh
  exact hh i (by omega) j hj h hq e
theorem rightR_true {K : Nat} {T : List Int} (h : ∀ i, i < T.length → ∀ j, j < T.length → i < j → j / K = i / K → T.getD i 0 ≠ T.getD j 0) : rightR K T = true := by
  rw [rightR, decide_eq_true_iff]; exact h

theorem bits2 : ∀ a b : Fin 2, ((0 ||| 2 ^ a.val) ||| 2 ^ b.val == 2 ^ 2 - 1) = decide (a ≠ b) := by decide
theorem bits3 : ∀ a b c : Fin 3, (((0 ||| 2 ^ a.val) ||| 2 ^ b.val) ||| 2 ^ c.val == 2 ^ 3 - 1) = decide (a ≠ b ∧ a ≠ c ∧ b ≠ c) := by decide
theorem bits4 : ∀ a b c d : Fin 4, ((((0 ||| 2 ^ a.val) ||| 2 ^ b.val) ||| 2 ^ c.val) ||| 2 ^ d.val == 2 ^ 4 - 1) = decide (a ≠ b ∧ a ≠ c ∧ a ≠ d ∧ b ≠ c ∧ b ≠ d ∧ c ≠ d) := by decide +kernel

theorem fullP_iff {K : Nat} (h1 : 1 ≤ K) (h4 : K ≤ 4) {T : List Int} (hT : Syms K T) (W i : Nat) :
    fullP K T W i = true ↔ ∀ s t, s < t → t < K → T.getD (i + s * W) 0 ≠ T.getD (i + t * W) 0 := by
  have hx : ∀ s, ∃ a : Fin K, T.getD (i + s * W) 0 = (a.val : Int) := fun s => by
    have := hT.getD (by omega) (i + s * W)
    exact ⟨⟨(T.getD (i + s * W) 0).toNat, by omega⟩, by simp only []; omega⟩
  have hk : K = 1 ∨ K = 2 ∨ K = 3 ∨ K = 4 := by omega
  unfold fullP
  rcases hk with rfl | rfl | rfl | rfl
  · obtain ⟨a, ha⟩ := hx 0
    simp only [seenP, ha, Int.toNat_natCast]
    have : a.val = 0 := by omega
    rw [this]
    exact ⟨fun _ s t h h' => by omega, fun _ => rfl⟩
  · obtain ⟨a, ha⟩ := hx 0
    obtain ⟨b, hb⟩ := hx 1
    simp only [seenP, ha, hb, Int.toNat_natCast, bits2, decide_eq_true_iff]
    constructor
    · intro h s t hst ht
      obtain rfl : s = 0 := by omega
      obtain rfl : t = 1 := by omega
      rw [ha, hb]
      intro e; exact h (Fin.ext (by omega))
    · intro h e
      have := h 0 1 (by omega) (by omega)
      rw [ha, hb, e] at this; exact this rfl
  · obtain ⟨a, ha⟩ := hx 0
    obtain ⟨b, hb⟩ := hx 1
    obtain ⟨c, hc⟩ := hx 2
    simp only [seenP, ha, hb, hc, Int.toNat_natCast, bits3, decide_eq_true_iff]
    constructor
    · rintro ⟨n1, n2, n3⟩ s t hst ht
      have : (s = 0 ∧ t = 1) ∨ (s = 0 ∧ t = 2) ∨ (s = 1 ∧ t = 2) := by omega
      rcases this with ⟨rfl, rfl⟩ | ⟨rfl, rfl⟩ | ⟨rfl, rfl⟩
      · rw [ha, hb]; intro e; exact n1 (Fin.ext (by omega))
      · rw [ha, hc]; intro e; exact n2 (Fin.ext (by omega))
      · rw [hb, hc]; intro e; exact n3 (Fin.ext (by omega))
    · intro h
      refine ⟨fun e => ?_, fun e => ?_, fun e => ?_⟩
      · have := h 0 1 (by omega) (by omega); rw [ha, hb, e] at this; exact this rfl
      · have := h 0 2 (by omega) (by omega); rw [ha, hc, e] at this; exact this rfl
      · have := h 1 2 (by omega) (by omega); rw [hb, hc, e] at this; exact this rfl
  · obtain ⟨a, ha⟩ := hx 0
    obtain ⟨b, hb⟩ := hx 1
    obtain ⟨c, hc⟩ := hx 2
    obtain ⟨d, hd⟩ := hx 3
    simp only [seenP, ha, hb, hc, hd, Int.toNat_natCast, bits4, decide_eq_true_iff]
    constructor
    · rintro ⟨n1, n2, n3, n4, n5, n6⟩ s t hst ht
      have : (s = 0 ∧ t = 1) ∨ (s = 0 ∧ t = 2) ∨ (s = 0 ∧ t = 3) ∨ (s = 1 ∧ t = 2) ∨ (s = 1 ∧ t = 3) ∨ (s = 2 ∧ t = 3) := by omega
      rcases this with ⟨rfl, rfl⟩ | ⟨rfl, rfl⟩ | ⟨rfl, rfl⟩ | ⟨rfl, rfl⟩ | ⟨rfl, rfl⟩ | ⟨rfl, rfl⟩
      · rw [ha, hb]; intro e; exact n1 (Fin.ext (by omega))
      · rw [ha, hc]; intro e; exact n2 (Fin.ext (by omega))
      · rw [ha, hd]; intro e; exact n3 (Fin.ext (by omega))
      · rw [hb, hc]; intro e; exact n4 (Fin.ext (by omega))
      · rw [hb, hd]; intro e; exact n5 (Fin.ext (by omega))
      · rw [hc, hd]; intro e; exact n6 (Fin.ext (by omega))
    · intro h
      refine ⟨fun e => ?_, fun e => ?_, fun e => ?_, fun e => ?_, fun e => ?_, fun e => ?_⟩
      · have := h 0 1 (by omega) (by omega); rw [ha, hb, e] at this; exact this rfl
      · have := h 0 2 (by omega) (by omega); rw [ha, hc, e] at this; exact this rfl
      · have := h 0 3 (by omega) (by omega); rw [ha, hd, e] at this; exact this rfl
      · have := h 1 2 (by omega) (by omega); rw [hb, hc, e] at this; exact this rfl
      · have := h 1 3 (by omega) (by omega); rw [hb, hd, e] at this; exact this rfl
      · have := h 2 3 (by omega) (by omega); rw [hc, hd, e] at this; exact this rfl

theorem unlikeP_iff {K : Nat} {T : List Int} {W : Nat} : unlikeP K T W = true ↔ ∀ i, i < T.length → i / W % K = 0 → fullP K T W i = true :=
  ⟨fun h i => unlikeP_full h i, unlikeP_true⟩

theorem mul_add_lt {K q s m : Nat} (hs : s < K) (hq : q < m) : q * K + s < m * K := by
  have := Nat.mul_le_mul_right K (show q + 1 ≤ m from hq)
  rw [Nat.succ_mul] at this
  omega
theorem div_mk {K q s : Nat} (hs : s < K) : (q * K + s) / K = q := by
  rw [Nat.mul_comm, Nat.mul_add_div (by omega), Nat.div_eq_of_lt hs, Nat.add_zero]
theorem mod_mk {K q s : Nat} (hs : s < K) : (q * K + s) % K = s := by
  rw [Nat.mul_comm, Nat.mul_add_mod, Nat.mod_eq_of_lt hs]

/-- The last place permutes: the program's test is the document's. -/
theorem unlike_right {K R : Nat} {T : List Int} (h : RuleOk K R T) : unlikeP K T 1 = rightR K T := by
  have h1 := h.k1
  have hl := h.half.2
  rw [Bool.eq_iff_iff, unlikeP_iff, rightR, decide_eq_true_iff]
  constructor
  · intro hu i hi j hj hij hq
    have e1 := Nat.div_add_mod' i K
    have e2 := Nat.div_add_mod' j K
    have m1 := Nat.mod_lt i (show K > 0 by omega)
    have m2 := Nat.mod_lt j (show K > 0 by omega)
    rw [hq] at e2
    have := (fullP_iff h1 h.k4 h.syms 1 (i / K * K)).1 (hu _ (by omega) (by rw [Nat.div_one, Nat.mul_mod_left])) (i % K) (j % K) (by omega) m2
    rwa [Nat.mul_one, Nat.mul_one, e1, e2] at this
  · intro hr i hi hm
    rw [Nat.div_one] at hm
    obtain ⟨q, rfl⟩ : ∃ q, i = q * K := ⟨i / K, by have := Nat.div_add_mod' i K; omega⟩
    have hq : q < pw K (2 * R) := Nat.lt_of_mul_lt_mul_right (a := K) (by rw [← hl]; exact hi)
    refine (fullP_iff h1 h.k4 h.syms 1 _).2 fun s t hst ht => ?_
    have l2 := mul_add_lt ht hq
    rw [← hl] at l2
    have := hr (q * K + s) (by omega) (q * K + t) l2 (by omega) (by rw [div_mk ht, div_mk (by omega)])
    rwa [Nat.mul_one, Nat.mul_one]

theorem digs_snoc {K : Nat} (n x : Nat) : digs K (n + 1) x = digs K n (x / K) ++ [((x % K : Nat) : Int)] := rfl

/-- The first place permutes just if the mirrored rule's last does. -/
theorem unlike_left {K R : Nat} {T : List Int} (h : RuleOk K R T) : unlikeP K T (T.length / K) = rightR K (mirT K (2 * R + 1) T) := by
  have h1 := h.k1
  obtain ⟨hW, hl⟩ := h.half
  have hMl := mirT_length K (2 * R + 1) T
  have hp := pw_pos (K := K) (2 * R) h1
  rw [hW, Bool.eq_iff_iff, unlikeP_iff, rightR, decide_eq_true_iff, hMl]
  have key : ∀ q s, q < pw K (2 * R) → s < K → (mirT K (2 * R + 1) T).getD (q * K + s) 0 = T.getD (numW K (digs K (2 * R) q).reverse + s * pw K (2 * R)) 0 := by
    intro q s hq hs
    have hsy : Syms K (digs K (2 * R) q ++ [(s : Int)]) := by
      intro y hy
      rcases List.mem_append.1 hy with hy | hy
      · exact digs_syms h1 _ _ y hy
      · rw [List.mem_singleton] at hy; subst hy; omega
    have := mirT_at h1 h.len (digs K (2 * R) q ++ [(s : Int)]) hsy (by simp [digs_length])
    rw [numW_snoc, numW_digs h1 _ _ hq, Int.toNat_natCast, List.reverse_append, List.reverse_singleton, List.singleton_append, numW_cons, Int.toNat_natCast, List.length_reverse, digs_length, Nat.add_comm (s * _)] at this
    exact this
  have rsy : ∀ q, Syms K (digs K (2 * R) q).reverse := fun q y hy => digs_syms h1 _ _ y (List.mem_reverse.1 hy)
  have rlt : ∀ q, numW K (digs K (2 * R) q).reverse < pw K (2 * R) := fun q => by
    have := numW_lt _ (rsy q)
    rwa [List.length_reverse, digs_length] at this
  constructor
  · intro hu i hi j hj hij hq
    have e1 := Nat.div_add_mod' i K
    have e2 := Nat.div_add_mod' j K
    have m1 := Nat.mod_lt i (show K > 0 by omega)
    have m2 := Nat.mod_lt j (show K > 0 by omega)
    rw [hq] at e2
    have hqi : i / K < pw K (2 * R) := by rw [Nat.div_lt_iff_lt_mul (by omega), ← hl]; exact hi
    have a1 := key (i / K) (i % K) hqi m1
    have a2 := key (i / K) (j % K) hqi m2
    rw [e1] at a1
    rw [e2] at a2
    rw [a1, a2]
    have lt := rlt (i / K)
    refine (fullP_iff h1 h.k4 h.syms (pw K (2 * R)) _).1 (hu _ ?_ ?_) (i % K) (j % K) (by omega) m2
    · rw [hl]; have := Nat.mul_le_mul_left (pw K (2 * R)) h1; omega
    · rw [Nat.div_eq_of_lt lt, Nat.zero_mod]
  · intro hr i hi hm
    have hiW : i < pw K (2 * R) := by
      have hdl : i / pw K (2 * R) < K := by rw [Nat.div_lt_iff_lt_mul (by omega), Nat.mul_comm, ← hl]; exact hi
      rw [Nat.mod_eq_of_lt hdl] at hm
      have := Nat.div_add_mod i (pw K (2 * R))
      have := Nat.mod_lt i (show pw K (2 * R) > 0 by omega)
      rw [hm] at *
      omega
    refine (fullP_iff h1 h.k4 h.syms (pw K (2 * R)) i).2 fun s t hst ht => ?_
    have hq := rlt i
    have a1 := key _ s hq (by omega)
    have a2 := key _ t hq ht
    have back : numW K (digs K (2 * R) (numW K (digs K (2 * R) i).reverse)).reverse = i := by
      have := digs_numW h1 _ (rsy i)
      rw [List.length_reverse, digs_length] at this
      rw [this, List.reverse_reverse, numW_digs h1 _ _ hiW]
    rw [back] at a1 a2
    rw [← a1, ← a2]
    have l2 := mul_add_lt ht hq
    rw [← hl] at l2
    exact hr _ (by omega) _ l2 (by omega) (by rw [div_mk ht, div_mk (by omega)])

/-- The symbols to the right, and the node behind them: the last 2 R symbols. -/
theorem num_shift {K : Nat} {u : List Int} {s : Int} (h : Syms K (u ++ [s])) : numW K ((u ++ [s]).drop 1) = numW K (u ++ [s]) % pw K u.length := by
  have hl : ((u ++ [s]).drop 1).length = u.length := by simp
  have := numW_mod (K := K) (u := (u ++ [s]).take 1) (v := (u ++ [s]).drop 1) (fun y hy => h y (List.mem_of_mem_drop hy))
  rw [List.take_append_drop, hl] at this
  exact this.symm
theorem rightP_syms {K : Nat} (hK : 1 ≤ K) (T : List Int) (node : Nat) (w : List Int) : Syms K (rightP K T node w) := by
  induction w generalizing node with
  | nil => intro y hy; cases hy
  | cons x w ih =>
    intro y hy
    rw [rightP, List.mem_cons] at hy
    rcases hy with rfl | hy
    · have := fit_lt hK T (node * K) 1 x; omega
    · exact ih _ y hy
theorem on_front {K R : Nat} {T : List Int} (hK : 1 ≤ K) (hW : T.length / K = pw K (2 * R)) (zs ys : List Int) (hz : Syms K zs) (hl : zs.length = 2 * R) :
    numW K ((zs ++ rightP K T (numW K zs) ys).drop ys.length) = rightN K T (numW K zs) ys := by
  induction hn : ys.length generalizing ys with
  | zero => obtain rfl := List.eq_nil_of_length_eq_zero hn; simp [rightP, rightN]
  | succ n ih =>
    have hne : ys ≠ [] := by intro e; subst e; simp at hn
    obtain ⟨b, x, rfl⟩ : ∃ b x, ys = b ++ [x] := ⟨ys.dropLast, ys.getLast hne, (List.dropLast_concat_getLast hne).symm⟩
    have hb : b.length = n := by simpa using hn
    have ih' := ih b hb
    rw [rightP_snoc, rightN_snoc, ← List.append_assoc, ← ih', hW]
    have hPl := rightP_length K T (numW K zs) b
    have hs := fit_lt hK T (numW K ((zs ++ rightP K T (numW K zs) b).drop n) * K) 1 x
    generalize fit K T (numW K ((zs ++ rightP K T (numW K zs) b).drop n) * K) 1 x = s at *
    have hu : Syms K (zs ++ rightP K T (numW K zs) b) := by
      intro y hy
      rcases List.mem_append.1 hy with hy | hy
      · exact hz y hy
      · exact rightP_syms hK _ _ _ y hy
    have hul : (zs ++ rightP K T (numW K zs) b).length = 2 * R + n := by simp [hPl, hl, hb]
    generalize zs ++ rightP K T (numW K zs) b = u at *
    have e : (u ++ [(s : Int)]).drop (n + 1) = (u.drop n ++ [(s : Int)]).drop 1 := by
      rw [← List.drop_drop, List.drop_append_of_le_length (by omega)]
    have hdl : (u.drop n).length = 2 * R := by simp; omega
    rw [e, num_shift, numW_snoc, hdl, Int.toNat_natCast]
    intro y hy
    rcases List.mem_append.1 hy with hy | hy
    · exact hu y (List.mem_of_mem_drop hy)
    · rw [List.mem_singleton] at hy; subst hy; omega

theorem fitP_congr {T M : List Int} {r1 W1 r2 W2 : Nat} (image : Int) (n s : Nat) (h : ∀ t, t < s + n → T.getD (r1 + t * W1) 0 = M.getD (r2 + t * W2) 0) : fitP T r1 W1 image n s = fitP M r2 W2 image n s := by
  induction n generalizing s with
  | zero => rfl
  | succ n ih => rw [fitP, fitP, h s (by omega), ih (s + 1) (fun t ht => h t (by omega))]

/-- The symbols to the left are those to the right by the mirrored rule, mirrored. -/
theorem left_mirror {K R : Nat} {T : List Int} (h : RuleOk K R T) (zs ys : List Int) (hz : Syms K zs) (hl : zs.length = 2 * R) :
    ∃ u, u.length = 2 * R ∧ Syms K u ∧ (leftS K T (numW K zs) ys).1 = numW K u ∧ rightN K (mirT K (2 * R + 1) T) (numW K zs.reverse) ys.reverse = numW K u.reverse ∧
      (leftS K T (numW K zs) ys).2 = (rightP K (mirT K (2 * R + 1) T) (numW K zs.reverse) ys.reverse).reverse := by
  have h1 := h.k1
  obtain ⟨hW, hlen⟩ := h.half
  have hMW : (mirT K (2 * R + 1) T).length / K = pw K (2 * R) := by rw [mirT_length]; exact hW
  induction ys with
  | nil => exact ⟨zs, hl, hz, rfl, rfl, rfl⟩
  | cons x w ih =>
    obtain ⟨u, hul, hu, e1, e2, e3⟩ := ih
    have hf : fit K T (numW K u) (T.length / K) x = fit K (mirT K (2 * R + 1) T) (numW K u.reverse * K) 1 x := by
      refine fitP_congr x K 0 fun t ht => ?_
      have hsy : Syms K (u.reverse ++ [(t : Int)]) := by
        intro y hy
        rcases List.mem_append.1 hy with hy | hy
        · exact hu y (List.mem_reverse.1 hy)
        · rw [List.mem_singleton] at hy; subst hy; omega
      have := mirT_at h1 h.len (u.reverse ++ [(t : Int)]) hsy (by simp [hul])
      rw [numW_snoc, Int.toNat_natCast, List.reverse_append, List.reverse_singleton, List.singleton_append, List.reverse_reverse, numW_cons, Int.toNat_natCast, hul] at this
      rw [hW, Nat.mul_one, this, Nat.add_comm]
    have hs := fit_lt h1 T (numW K u) (T.length / K) x
    have es : (leftS K T (numW K zs) (x :: w)) = ((fit K T (numW K u) (T.length / K) x * (T.length / K) + numW K u) / K, (fit K T (numW K u) (T.length / K) x : Int) :: (leftS K T (numW K zs) w).2) := by
      rw [leftS, e1]
    rw [es, List.reverse_cons, rightP_snoc, rightN_snoc, e2, ← hf, e3, hMW]
    rw [hW] at hf hs es ⊢
    generalize fit K T (numW K u) (pw K (2 * R)) x = s at *
    have hsu : Syms K ((s : Int) :: u) := by
      intro y hy
      rcases List.mem_cons.1 hy with rfl | hy
      · omega
      · exact hu y hy
    have hne : ((s : Int) :: u) ≠ [] := by simp
    have hcat := List.dropLast_concat_getLast hne
    have hv : Syms K ((s : Int) :: u).dropLast := fun y hy => hsu y (List.dropLast_subset _ hy)
    refine ⟨((s : Int) :: u).dropLast, by simp [hul], hv, ?_, ?_, ?_⟩
    · have e := numW_cons K s u
      rw [Int.toNat_natCast, hul] at e
      show (s * pw K (2 * R) + numW K u) / K = _
      rw [← e, ← hcat, numW_snoc, hcat, div_mk]
      have := hsu _ (List.getLast_mem hne)
      omega
    · have e : (u.reverse ++ [(s : Int)]).drop 1 = ((s : Int) :: u).dropLast.reverse := by
        rw [List.dropLast_eq_take, List.reverse_take]
        simp
      have hr : Syms K (u.reverse ++ [(s : Int)]) := by
        intro y hy
        apply hsu
        simpa [or_comm] using hy
      rw [← e, num_shift hr, numW_snoc, List.length_reverse, hul, Int.toNat_natCast]
    · simp
end Go.Proofs.YtmhiambkfdkkbaaGreatDoor

namespace Go.Proofs.YtmhiambkfdkkbaaGreatDoor

theorem syms_cons {K : Nat} {s : Int} {u : List Int} (h0 : 0 ≤ s) (h1 : s < K) (hu : Syms K u) : Syms K (s :: u) := by
  intro y hy
  rcases List.mem_cons.1 hy with rfl | hy
  · exact ⟨h0, h1⟩
  · exact hu y hy
theorem syms_snoc {K : Nat} {s : Int} {u : List Int} (h0 : 0 ≤ s) (h1 : s < K) (hu : Syms K u) : Syms K (u ++ [s]) := by
  intro y hy
  rcases List.mem_append.1 hy with hy | hy
  · exact hu y hy
  · rw [List.mem_singleton] at hy; subst hy; exact ⟨h0, h1⟩
theorem syms_rev {K : Nat} {u : List Int} (hu : Syms K u) : Syms K u.reverse := fun y hy => hu y (List.mem_reverse.1 hy)

/-- The first symbol of the window permutes. -/
def LeftW (K m : Nat) (T : List Int) : Prop := ∀ u, Syms K u → u.length = m → ∀ s t : Int, 0 ≤ s → s < K → 0 ≤ t → t < K → s ≠ t → T.getD (numW K (s :: u)) 0 ≠ T.getD (numW K (t :: u)) 0
/-- The last one does. -/
def RightW (K m : Nat) (T : List Int) : Prop := ∀ u, Syms K u → u.length = m → ∀ s t : Int, 0 ≤ s → s < K → 0 ≤ t → t < K → s ≠ t → T.getD (numW K (u ++ [s])) 0 ≠ T.getD (numW K (u ++ [t])) 0

theorem unlike_leftW {K R : Nat} {T : List Int} (h : RuleOk K R T) : unlikeP K T (T.length / K) = true ↔ LeftW K (2 * R) T := by
  have h1 := h.k1
  obtain ⟨hW, hl⟩ := h.half
  have hp := pw_pos (K := K) (2 * R) h1
  rw [hW, unlikeP_iff]
  constructor
  · intro hu u hsy hul s t hs0 hs1 ht0 ht1 hne
    have hlt := numW_lt u hsy
    rw [hul] at hlt
    have hf := hu (numW K u) (by rw [hl]; have := Nat.mul_le_mul_left (pw K (2 * R)) h1; omega) (by rw [Nat.div_eq_of_lt hlt, Nat.zero_mod])
    have hf := (fullP_iff h1 h.k4 h.syms (pw K (2 * R)) _).1 hf
    rw [numW_cons, numW_cons, hul, Nat.add_comm (s.toNat * _), Nat.add_comm (t.toNat * _)]
    rcases Nat.lt_or_ge s.toNat t.toNat with hst | hst
    · exact hf _ _ hst (by omega)
    · exact (hf t.toNat s.toNat (by omega) (by omega)).symm
  · intro hw i hi hm
    have hiW : i < pw K (2 * R) := by
      have hdl : i / pw K (2 * R) < K := by rw [Nat.div_lt_iff_lt_mul (by omega), Nat.mul_comm, ← hl]; exact hi
      rw [Nat.mod_eq_of_lt hdl] at hm
      have := Nat.div_add_mod i (pw K (2 * R))
      have := Nat.mod_lt i (show pw K (2 * R) > 0 by omega)
      rw [hm] at *
      omega
    refine (fullP_iff h1 h.k4 h.syms (pw K (2 * R)) i).2 fun s t hst ht => ?_
    have := hw (digs K (2 * R) i) (digs_syms h1 _ _) (digs_length ..) s t (by omega) (by omega) (by omega) (by omega) (by omega)
    rwa [numW_cons, numW_cons, digs_length, numW_digs h1 _ _ hiW, Int.toNat_natCast, Int.toNat_natCast, Nat.add_comm (s * _), Nat.add_comm (t * _)] at this

theorem unlike_rightW {K R : Nat} {T : List Int} (h : RuleOk K R T) : unlikeP K T 1 = true ↔ RightW K (2 * R) T := by
  have h1 := h.k1
  obtain ⟨hW, hl⟩ := h.half
  rw [unlikeP_iff]
  constructor
  · intro hu u hsy hul s t hs0 hs1 ht0 ht1 hne
    have hlt := numW_lt u hsy
    rw [hul] at hlt
    have hf := hu (numW K u * K) (by rw [hl]; exact Nat.mul_lt_mul_of_pos_right hlt (by omega)) (by rw [Nat.div_one, Nat.mul_mod_left])
    have hf := (fullP_iff h1 h.k4 h.syms 1 _).1 hf
    rw [numW_snoc, numW_snoc]
    rcases Nat.lt_or_ge s.toNat t.toNat with hst | hst
    · have := hf _ _ hst (by omega); rwa [Nat.mul_one, Nat.mul_one] at this
    · have := (hf t.toNat s.toNat (by omega) (by omega)).symm; rwa [Nat.mul_one, Nat.mul_one] at this
  · intro hw i hi hm
    rw [Nat.div_one] at hm
    obtain ⟨q, rfl⟩ : ∃ q, i = q * K := ⟨i / K, by have := Nat.div_add_mod' i K; omega⟩
    have hq : q < pw K (2 * R) := Nat.lt_of_mul_lt_mul_right (a := K) (by rw [← hl]; exact hi)
    refine (fullP_iff h1 h.k4 h.syms 1 _).2 fun s t hst ht => ?_
    have := hw (digs K (2 * R) q) (digs_syms h1 _ _) (digs_length ..) s t (by omega) (by omega) (by omega) (by omega) (by omega)
    rwa [numW_snoc, numW_snoc, numW_digs h1 _ _ hq, Int.toNat_natCast, Int.toNat_natCast, ← Nat.mul_one s, ← Nat.mul_one t] at this

/-- Mirrored: the other sides. -/
theorem mir_leftW {K R : Nat} {T : List Int} (h : RuleOk K R T) : LeftW K (2 * R) (mirT K (2 * R + 1) T) ↔ RightW K (2 * R) T := by
  have e : ∀ (u : List Int) (s : Int), Syms K u → u.length = 2 * R → 0 ≤ s → s < K → (mirT K (2 * R + 1) T).getD (numW K (s :: u)) 0 = T.getD (numW K (u.reverse ++ [s])) 0 := fun u s hu hl h0 h1 => by
    have := mirT_at h.k1 h.len (s :: u) (syms_cons h0 h1 hu) (by simp [hl])
    rwa [List.reverse_cons] at this
  constructor
  · intro hw u hu hl s t a b c d hne
    have := hw u.reverse (syms_rev hu) (by simpa using hl) s t a b c d hne
    rwa [e _ _ (syms_rev hu) (by simpa using hl) a b, e _ _ (syms_rev hu) (by simpa using hl) c d, List.reverse_reverse] at this
  · intro hw u hu hl s t a b c d hne
    rw [e _ _ hu hl a b, e _ _ hu hl c d]
    exact hw u.reverse (syms_rev hu) (by simpa using hl) s t a b c d hne
theorem mir_rightW {K R : Nat} {T : List Int} (h : RuleOk K R T) : RightW K (2 * R) (mirT K (2 * R + 1) T) ↔ LeftW K (2 * R) T := by
  have e : ∀ (u : List Int) (s : Int), Syms K u → u.length = 2 * R → 0 ≤ s → s < K → (mirT K (2 * R + 1) T).getD (numW K (u ++ [s])) 0 = T.getD (numW K (s :: u.reverse)) 0 := fun u s hu hl h0 h1 => by
    have := mirT_at h.k1 h.len (u ++ [s]) (syms_snoc h0 h1 hu) (by simp [hl])
    rwa [List.reverse_append, List.reverse_singleton, List.singleton_append] at this
  constructor
  · intro hw u hu hl s t a b c d hne
    have := hw u.reverse (syms_rev hu) (by simpa using hl) s t a b c d hne
    rwa [e _ _ (syms_rev hu) (by simpa using hl) a b, e _ _ (syms_rev hu) (by simpa using hl) c d, List.reverse_reverse] at this
  · intro hw u hu hl s t a b c d hne
    rw [e _ _ hu hl a b, e _ _ hu hl c d]
    exact hw u.reverse (syms_rev hu) (by simpa using hl) s t a b c d hne
theorem mir_sides {K R : Nat} {T : List Int} (h : RuleOk K R T) :
    unlikeP K (mirT K (2 * R + 1) T) ((mirT K (2 * R + 1) T).length / K) = unlikeP K T 1 ∧ unlikeP K (mirT K (2 * R + 1) T) 1 = unlikeP K T (T.length / K) := by
  constructor
  · rw [Bool.eq_iff_iff, unlike_leftW (mirT_ok h), unlike_rightW h, mir_leftW h]
  · rw [Bool.eq_iff_iff, unlike_rightW (mirT_ok h), unlike_leftW h, mir_rightW h]

/-- One rule behind another. -/
theorem imgP_cons {K R : Nat} {T : List Int} {x : Int} {w : List Int} (h : 2 * R ≤ w.length) : imgP K R T (x :: w) = T.getD (numW K (x :: w.take (2 * R))) 0 :: imgP K R T w := by
  unfold imgP
  rw [show (x :: w).length - 2 * R = (w.length - 2 * R) + 1 by simp; omega, List.range_succ_eq_map, List.map_cons, List.map_map]
  congr 1
theorem behindT_length (K R1 : Nat) (T1 : List Int) (R2 : Nat) (T2 : List Int) : (behindT K R1 T1 R2 T2).length = pw K (2 * (R1 + R2) + 1) := by simp [behindT]
theorem behindT_at {K R1 R2 : Nat} {T1 T2 : List Int} (hK : 1 ≤ K) (w : List Int) (hw : Syms K w) (hl : w.length = 2 * (R1 + R2) + 1) : (behindT K R1 T1 R2 T2).getD (numW K w) 0 = T1.getD (numW K (imgP K R2 T2 w)) 0 := by
  have hlt := numW_lt w hw
  rw [hl] at hlt
  have : (behindT K R1 T1 R2 T2).getD (numW K w) 0 = T1.getD (numW K (imgP K R2 T2 (digs K (2 * (R1 + R2) + 1) (numW K w)))) 0 := by simp [behindT, List.getD, hlt]
  rw [this, ← hl, digs_numW hK w hw]
theorem behindT_ok {K R1 R2 : Nat} {T1 T2 : List Int} (h1 : RuleOk K R1 T1) (hR : R1 + R2 ≤ 3) : RuleOk K (R1 + R2) (behindT K R1 T1 R2 T2) :=
  ⟨h1.k1, h1.k4, hR, behindT_length .., fun y hy => by
    obtain ⟨i, _, rfl⟩ := List.mem_map.1 hy
    exact h1.syms.getD (by have := h1.k1; omega) _⟩
theorem behind_left {K R1 R2 : Nat} {T1 T2 : List Int} (h1 : RuleOk K R1 T1) (h2 : RuleOk K R2 T2) (w1 : LeftW K (2 * R1) T1) (w2 : LeftW K (2 * R2) T2) : LeftW K (2 * (R1 + R2)) (behindT K R1 T1 R2 T2) := by
  intro u hu hl s t a b c d hne
  have hk := h1.k1
  rw [behindT_at hk _ (syms_cons a b hu) (by simp [hl]), behindT_at hk _ (syms_cons c d hu) (by simp [hl]), imgP_cons (by omega), imgP_cons (by omega)]
  have htk : Syms K (u.take (2 * R2)) := fun y hy => hu y (List.mem_of_mem_take hy)
  have hne2 := w2 (u.take (2 * R2)) htk (by simp; omega) s t a b c d hne
  have s1 := h2.syms.getD (by omega) (numW K (s :: u.take (2 * R2)))
  have s2 := h2.syms.getD (by omega) (numW K (t :: u.take (2 * R2)))
  exact w1 (imgP K R2 T2 u) (imgP_syms hk h2.syms) (by rw [imgP_length]; omega) _ _ s1.1 s1.2 s2.1 s2.2 hne2
theorem behind_right {K R1 R2 : Nat} {T1 T2 : List Int} (h1 : RuleOk K R1 T1) (h2 : RuleOk K R2 T2) (w1 : RightW K (2 * R1) T1) (w2 : RightW K (2 * R2) T2) : RightW K (2 * (R1 + R2)) (behindT K R1 T1 R2 T2) := by
  intro u hu hl s t a b c d hne
  have hk := h1.k1
  have win : ∀ x : Int, 0 ≤ x → x < K → imgP K R2 T2 (u ++ [x]) = imgP K R2 T2 u ++ [T2.getD (numW K (u.drop (u.length - 2 * R2) ++ [x])) 0] := fun x x0 x1 => by
    rw [imgP_snoc h2.len (syms_snoc x0 x1 hu), if_pos (by omega)]
    have hdl : (u.drop (u.length - 2 * R2) ++ [x]).length = 2 * R2 + 1 := by simp; omega
    have := numW_mod (K := K) (u := u.take (u.length - 2 * R2)) (v := u.drop (u.length - 2 * R2) ++ [x]) (syms_snoc x0 x1 fun y hy => hu y (List.mem_of_mem_drop hy))
    rw [← List.append_assoc, List.take_append_drop, hdl, ← h2.len] at this
    rw [this]
  rw [behindT_at hk _ (syms_snoc a b hu) (by simp [hl]), behindT_at hk _ (syms_snoc c d hu) (by simp [hl]), win s a b, win t c d]
  have hdk : Syms K (u.drop (u.length - 2 * R2)) := fun y hy => hu y (List.mem_of_mem_drop hy)
  have hne2 := w2 (u.drop (u.length - 2 * R2)) hdk (by simp; omega) s t a b c d hne
  have s1 := h2.syms.getD (by omega) (numW K (u.drop (u.length - 2 * R2) ++ [s]))
  have s2 := h2.syms.getD (by omega) (numW K (u.drop (u.length - 2 * R2) ++ [t]))
  exact w1 (imgP K R2 T2 u) (imgP_syms hk h2.syms) (by rw [imgP_length]; omega) _ _ s1.1 s1.2 s2.1 s2.2 hne2
theorem behind_sides {K R1 R2 : Nat} {T1 T2 : List Int} (h1 : RuleOk K R1 T1) (h2 : RuleOk K R2 T2) (hR : R1 + R2 ≤ 3) :
    (unlikeP K T1 (T1.length / K) = true → unlikeP K T2 (T2.length / K) = true → unlikeP K (behindT K R1 T1 R2 T2) ((behindT K R1 T1 R2 T2).length / K) = true) ∧
    (unlikeP K T1 1 = true → unlikeP K T2 1 = true → unlikeP K (behindT K R1 T1 R2 T2) 1 = true) := by
  have hb := behindT_ok (T2 := T2) h1 hR
  rw [unlike_leftW h1, unlike_leftW h2, unlike_leftW hb, unlike_rightW h1, unlike_rightW h2, unlike_rightW hb]
  exact ⟨behind_left h1 h2, behind_right h1 h2⟩
end Go.Proofs.YtmhiambkfdkkbaaGreatDoor

namespace Go.Proofs.YtmhiambkfdkkbaaGreatDoor

/-- There is a way. -/
inductive Goes (adj : Nat → List Nat) : Nat → Nat → Prop
  | refl (x : Nat) : Goes adj x x
  | step {x y z : Nat} (h : Goes adj x y) (hz : z ∈ adj y) : Goes adj x z
theorem Goes.one {adj : Nat → List Nat} {x y : Nat} (h : y ∈ adj x) : Goes adj x y := .step (.refl x) h
theorem Goes.trans {adj : Nat → List Nat} {x y z : Nat} (h : Goes adj x y) (h2 : Goes adj y z) : Goes adj x z := by
  induction h2 with
  | refl => exact h
  | step _ hz ih => exact .step ih hz
theorem Goes.closed {adj : Nat → List Nat} {P : Nat → Prop} (hP : ∀ x, P x → ∀ t ∈ adj x, P t) {x y : Nat} (h : Goes adj x y) (hx : P x) : P y := by
  induction h with
  | refl => exact hx
  | step _ hz ih => exact hP _ ih _ hz

/-- A function with one value changed. -/
def updN {α : Type} (f : Nat → α) (v : Nat) (a : α) : Nat → α := fun x => if x = v then a else f x
theorem updN_same {α : Type} (f : Nat → α) (v : Nat) (a : α) : updN f v a v = a := by simp [updN]
theorem updN_other {α : Type} (f : Nat → α) (v : Nat) (a : α) {x : Nat} (h : x ≠ v) : updN f v a x = f x := by simp [updN, h]
theorem updN_self {α : Type} (f : Nat → α) (v : Nat) : updN f v (f v) = f := by funext x; by_cases h : x = v <;> simp [updN, h]

/-- The search's state: tops at the head. -/
structure TS where
  time : Nat
  low : Nat → Nat
  found : Nat → Nat
  idx : Nat → Nat
  opn : List Nat
  part : Nat → Int
  calls : List Nat

def enterS (S : TS) (v : Nat) : TS := { S with time := S.time + 1, low := updN S.low v (S.time + 1), found := updN S.found v (S.time + 1), idx := updN S.idx v 0, opn := v :: S.opn, calls := v :: S.calls }
/-- A part is closed: the stack's vertices down to v. -/
def closeS (v : Nat) : List Nat → (Nat → Int) → List Nat × (Nat → Int)
  | [], p => ([], p)
  | t :: r, p => if t = v then (r, updN p t v) else closeS v r (updN p t v)
def lowS (low : Nat → Nat) (v : Nat) : List Nat → Nat → Nat
  | [] => low
  | u :: _ => updN low u (min (low u) (low v))
def leaveS (S : TS) (v : Nat) (r : List Nat) : TS :=
  if lowS S.low v r v = S.found v then { S with low := lowS S.low v r, calls := r, opn := (closeS v S.opn S.part).1, part := (closeS v S.opn S.part).2 }
  else { S with low := lowS S.low v r, calls := r }
/-- One round of the search. -/
def stepS (adj : Nat → List Nat) (S : TS) : TS :=
  match S.calls with
  | [] => S
  | v :: r =>
    if S.idx v = (adj v).length then leaveS S v r
    else
      let t := (adj v).getD (S.idx v) 0
      let S1 := { S with idx := updN S.idx v (S.idx v + 1) }
      if S.found t = 0 then enterS S1 t
      else if S.part t < 0 then { S1 with low := updN S.low v (min (S.low v) (S.found t)) }
      else S1

theorem stepS_nil {adj : Nat → List Nat} {S : TS} (hc : S.calls = []) : stepS adj S = S := by
  cases S; simp only at hc; subst hc; rfl
theorem stepS_cons {adj : Nat → List Nat} {S : TS} {v : Nat} {r : List Nat} (hc : S.calls = v :: r) : stepS adj S =
    if S.idx v = (adj v).length then leaveS S v r
    else if S.found ((adj v).getD (S.idx v) 0) = 0 then enterS { S with idx := updN S.idx v (S.idx v + 1) } ((adj v).getD (S.idx v) 0)
    else if S.part ((adj v).getD (S.idx v) 0) < 0 then { S with idx := updN S.idx v (S.idx v + 1), low := updN S.low v (min (S.low v) (S.found ((adj v).getD (S.idx v) 0))) }
    else { S with idx := updN S.idx v (S.idx v + 1) } := by
  cases S; simp only at hc; subst hc; rfl

/-- The weights of the vertices not yet found. -/
def wsum (c found : Nat → Nat) : Nat → Nat
  | 0 => 0
  | n + 1 => wsum c found n + if found n = 0 then c n else 0
theorem wsum_upd (c found : Nat → Nat) (t a : Nat) (ha : a ≠ 0) (ht : found t = 0) (n : Nat) :
    wsum c (updN found t a) n + (if t < n then c t else 0) = wsum c found n := by
  induction n with
  | zero => simp [wsum]
  | succ n ih =>
    simp only [wsum]
    by_cases e : n = t
    · subst e
      rw [if_neg (Nat.lt_irrefl n)] at ih
      rw [updN_same, if_neg ha, if_pos ht, if_pos (by omega)]; omega
    · rw [updN_other _ _ _ e]
      by_cases h : t < n
      · rw [if_pos h] at ih; rw [if_pos (show t < n + 1 by omega)]; omega
      · rw [if_neg h] at ih; rw [if_neg (show ¬ t < n + 1 by omega)]; omega

structure TInv (n : Nat) (adj : Nat → List Nat) (S : TS) : Prop where
  adjLt : ∀ v, v < n → ∀ t ∈ adj v, t < n
  seenLt : ∀ v, S.found v ≠ 0 → v < n
  leTime : ∀ v, S.found v ≤ S.time
  count : S.time + wsum (fun _ => 1) S.found n = n
  inj : ∀ x y, S.found x = S.found y → S.found x ≠ 0 → x = y
  opnIff : ∀ v, v ∈ S.opn ↔ S.found v ≠ 0 ∧ S.part v < 0
  opnSorted : S.opn.Pairwise (fun a b => S.found b < S.found a)
  callsSorted : S.calls.Pairwise (fun a b => S.found b < S.found a)
  callsOpen : ∀ c ∈ S.calls, c ∈ S.opn
  idxLe : ∀ v, v ∈ S.opn → S.idx v ≤ (adj v).length
  idxDone : ∀ v, v ∈ S.opn → v ∉ S.calls → S.idx v = (adj v).length
  partSeen : ∀ v, 0 ≤ S.part v → S.found v ≠ 0
  partLow : ∀ v, -1 ≤ S.part v
  A : ∀ c ∈ S.calls, ∀ x ∈ S.opn, S.found c ≤ S.found x → Goes adj c x
  B : ∀ x ∈ S.opn, ∃ c ∈ S.calls, S.found c ≤ S.found x ∧ Goes adj x c
  C : ∀ x, 0 ≤ S.part x → ∀ t ∈ adj x, 0 ≤ S.part t
  D : ∀ x ∈ S.opn, ∀ j < S.idx x, ∀ t, (adj x)[j]? = some t → S.found t ≠ 0
  E : ∀ x ∈ S.opn, ∀ j < S.idx x, ∀ t ∈ S.opn, (adj x)[j]? = some t → ∀ c ∈ S.calls, S.found c ≤ S.found x →
        (∀ d ∈ S.calls, S.found d ≤ S.found x → S.found d ≤ S.found c) → S.low c ≤ S.found t
  F : ∀ c ∈ S.calls, S.low c ≤ S.found c
  G : ∀ c ∈ S.calls, ∃ z ∈ S.opn, S.found z = S.low c ∧ Goes adj c z
  P1 : ∀ x, 0 ≤ S.part x → ∃ p : Nat, S.part x = p ∧ 0 ≤ S.part p ∧ Goes adj x p ∧ Goes adj p x
  P2 : ∀ x y, 0 ≤ S.part x → 0 ≤ S.part y → Goes adj x y → Goes adj y x → S.part x = S.part y

variable {n : Nat} {adj : Nat → List Nat} {S : TS}

theorem TInv.callsSeen (h : TInv n adj S) {c : Nat} (hc : c ∈ S.calls) : S.found c ≠ 0 ∧ S.part c < 0 := (h.opnIff c).1 (h.callsOpen c hc)
/-- Nothing is open when nothing is called. -/
theorem TInv.opn_nil (h : TInv n adj S) (hc : S.calls = []) : S.opn = [] := by
  cases e : S.opn with
  | nil => rfl
  | cons x l =>
    obtain ⟨c, hm, _⟩ := h.B x (by rw [e]; exact List.mem_cons_self)
    rw [hc] at hm; cases hm

/-- A root is begun. -/
theorem TInv.enterRoot (h : TInv n adj S) (hc : S.calls = []) {v : Nat} (hv : v < n) (hw : S.found v = 0) : TInv n adj (enterS S v) := by
  have ho := h.opn_nil hc
  have hp : S.part v < 0 := by
    by_cases hp : S.part v < 0
    · exact hp
    · exact absurd hw (h.partSeen v (by omega))
  have hcnt := wsum_upd (fun _ => 1) S.found v (S.time + 1) (by omega) hw n
  rw [if_pos hv] at hcnt
  have hcl : ∀ x, 0 ≤ S.part x → x ≠ v := fun x hx e => by subst e; omega
  constructor
  case adjLt => exact h.adjLt
  case seenLt =>
    intro x hx
    by_cases e : x = v
    · omega
    · simp only [enterS, updN_other _ _ _ e] at hx; exact h.seenLt x hx
  case leTime =>
    intro x
    simp only [enterS]
    by_cases e : x = v
    · subst e; rw [updN_same]; omega
    · rw [updN_other _ _ _ e]; have := h.leTime x; omega
  case count => simp only [enterS]; have := h.count; omega
  case inj =>
    intro x y hxy hx
    simp only [enterS] at hxy hx
    by_cases ex : x = v <;> by_cases ey : y = v
    · omega
    · subst ex; rw [updN_same, updN_other _ _ _ ey] at hxy; have := h.leTime y; omega
    · subst ey; rw [updN_same, updN_other _ _ _ ex] at hxy; have := h.leTime x; omega
    · rw [updN_other _ _ _ ex, updN_other _ _ _ ey] at hxy; rw [updN_other _ _ _ ex] at hx; exact h.inj x y hxy hx
  case opnIff =>
    intro x
    simp only [enterS, ho, List.mem_singleton]
    by_cases e : x = v
    · subst e; rw [updN_same]; exact ⟨fun _ => ⟨by omega, hp⟩, fun _ => rfl⟩
    · rw [updN_other _ _ _ e]
      refine ⟨fun h1 => absurd h1 e, fun h1 => ?_⟩
      have := (h.opnIff x).2 h1; rw [ho] at this; cases this
  case opnSorted => simp only [enterS, ho]; exact List.pairwise_singleton _ _
  case callsSorted => simp only [enterS, hc]; exact List.pairwise_singleton _ _
  case callsOpen => intro c hc2; simp only [enterS, hc, ho] at hc2 ⊢; exact hc2
  case idxLe =>
    intro x hx; simp only [enterS, ho, List.mem_singleton] at hx ⊢; subst hx; rw [updN_same]; omega
  case idxDone => intro x hx hx2; simp only [enterS, hc, ho] at hx hx2; exact absurd hx hx2
  case partSeen =>
    intro x hx; simp only [enterS] at hx ⊢; rw [updN_other _ _ _ (hcl x hx)]; exact h.partSeen x hx
  case partLow => exact h.partLow
  case A =>
    intro c hc2 x hx _
    simp only [enterS, hc, ho, List.mem_singleton] at hc2 hx
    subst hc2; subst hx; exact .refl _
  case B =>
    intro x hx
    simp only [enterS, ho, List.mem_singleton] at hx
    subst hx; exact ⟨x, by simp [enterS], Nat.le_refl _, .refl _⟩
  case C => exact h.C
  case D =>
    intro x hx j hj; simp only [enterS, ho, List.mem_singleton] at hx hj; subst hx; rw [updN_same] at hj; omega
  case E =>
    intro x hx j hj; simp only [enterS, ho, List.mem_singleton] at hx hj; subst hx; rw [updN_same] at hj; omega
  case F =>
    intro c hc2; simp only [enterS, hc, List.mem_singleton] at hc2 ⊢; subst hc2; rw [updN_same, updN_same]; exact Nat.le_refl _
  case G =>
    intro c hc2; simp only [enterS, hc, List.mem_singleton] at hc2 ⊢; subst hc2; exact ⟨c, List.mem_cons_self, by rw [updN_same, updN_same], .refl _⟩
  case P1 => exact h.P1
  case P2 => exact h.P2

/-- An arrow to a vertex not yet found. -/
theorem TInv.enterEdge (h : TInv n adj S) {v : Nat} {r : List Nat} (hc : S.calls = v :: r) {t : Nat} (ht : (adj v)[S.idx v]? = some t) (hw : S.found t = 0) :
    TInv n adj (enterS { S with idx := updN S.idx v (S.idx v + 1) } t) := by
  have hvc : v ∈ S.calls := by rw [hc]; exact List.mem_cons_self
  have hvo := h.callsOpen v hvc
  have hvs := h.callsSeen hvc
  have hvn := h.seenLt v hvs.1
  have htm : t ∈ adj v := List.mem_of_getElem? ht
  have htn := h.adjLt v hvn t htm
  have hil : S.idx v < (adj v).length := by
    by_cases q : S.idx v < (adj v).length
    · exact q
    · rw [List.getElem?_eq_none (by omega)] at ht; cases ht
  have hp : S.part t < 0 := by
    by_cases hp : S.part t < 0
    · exact hp
    · exact absurd hw (h.partSeen t (by omega))
  have hcnt := wsum_upd (fun _ => 1) S.found t (S.time + 1) (by omega) hw n
  rw [if_pos htn] at hcnt
  have hcl : ∀ x, 0 ≤ S.part x → x ≠ t := fun x hx e => by subst e; omega
  have hop : ∀ x, x ∈ S.opn → x ≠ t := fun x hx e => by subst e; exact ((h.opnIff x).1 hx).1 hw
  have hca : ∀ x, x ∈ S.calls → x ≠ t := fun x hx => hop x (h.callsOpen x hx)
  have fo : ∀ x, x ∈ S.opn → updN S.found t (S.time + 1) x = S.found x := fun x hx => updN_other _ _ _ (hop x hx)
  have fc : ∀ x, x ∈ S.calls → updN S.found t (S.time + 1) x = S.found x := fun x hx => updN_other _ _ _ (hca x hx)
  have lc : ∀ x, x ∈ S.calls → updN S.low t (S.time + 1) x = S.low x := fun x hx => updN_other _ _ _ (hca x hx)
  have ft : updN S.found t (S.time + 1) t = S.time + 1 := updN_same _ _ _
  have lt : updN S.low t (S.time + 1) t = S.time + 1 := updN_same _ _ _
  have hgt : ∀ c ∈ S.calls, Goes adj c t := fun c hcm => by
    refine .step (h.A c hcm v hvo ?_) htm
    have := h.callsSorted
    rw [hc] at this hcm
    rcases List.mem_cons.1 hcm with e | e
    · rw [e]; exact Nat.le_refl _
    · exact Nat.le_of_lt ((List.pairwise_cons.1 this).1 c e)
  have ix : ∀ x, x ∈ S.opn → ∀ j, j < updN (updN S.idx v (S.idx v + 1)) t 0 x → j < S.idx x ∨ (x = v ∧ j = S.idx v) := fun x hx j hj => by
    rw [updN_other _ _ _ (hop x hx)] at hj
    by_cases e : x = v
    · subst e; rw [updN_same] at hj; omega
    · rw [updN_other _ _ _ e] at hj; exact .inl hj
  have mono : ∀ x, S.found x ≠ 0 → updN S.found t (S.time + 1) x ≠ 0 := fun x hx => by
    by_cases e : x = t
    · subst e; exact absurd hw hx
    · rw [updN_other _ _ _ e]; exact hx
  constructor
  case adjLt => exact h.adjLt
  case seenLt =>
    intro x hx
    by_cases e : x = t
    · omega
    · simp only [enterS, updN_other _ _ _ e] at hx; exact h.seenLt x hx
  case leTime =>
    intro x
    simp only [enterS]
    by_cases e : x = t
    · subst e; rw [updN_same]; omega
    · rw [updN_other _ _ _ e]; have := h.leTime x; omega
  case count => simp only [enterS]; have := h.count; omega
  case inj =>
    intro x y hxy hx
    simp only [enterS] at hxy hx
    by_cases ex : x = t <;> by_cases ey : y = t
    · omega
    · subst ex; rw [updN_same, updN_other _ _ _ ey] at hxy; have := h.leTime y; omega
    · subst ey; rw [updN_same, updN_other _ _ _ ex] at hxy; have := h.leTime x; omega
    · rw [updN_other _ _ _ ex, updN_other _ _ _ ey] at hxy; rw [updN_other _ _ _ ex] at hx; exact h.inj x y hxy hx
  case opnIff =>
    intro x
    simp only [enterS, List.mem_cons]
    by_cases e : x = t
    · subst e; rw [updN_same]; exact ⟨fun _ => ⟨by omega, hp⟩, fun _ => .inl rfl⟩
    · rw [updN_other _ _ _ e, ← h.opnIff x]
      exact ⟨fun h1 => h1.resolve_left e, .inr⟩
  case opnSorted =>
    simp only [enterS]
    refine List.pairwise_cons.2 ⟨fun x hx => ?_, h.opnSorted.imp_of_mem fun ha hb hab => ?_⟩
    · rw [fo x hx, ft]; have := h.leTime x; omega
    · rw [fo _ ha, fo _ hb]; exact hab
  case callsSorted =>
    simp only [enterS]
    refine List.pairwise_cons.2 ⟨fun x hx => ?_, h.callsSorted.imp_of_mem fun ha hb hab => ?_⟩
    · rw [fc x hx, ft]; have := h.leTime x; omega
    · rw [fc _ ha, fc _ hb]; exact hab
  case callsOpen =>
    intro c hc2; simp only [enterS, List.mem_cons] at hc2 ⊢; exact hc2.imp id (h.callsOpen c)
  case idxLe =>
    intro x hx; simp only [enterS, List.mem_cons] at hx ⊢
    rcases hx with rfl | hx
    · rw [updN_same]; omega
    · rw [updN_other _ _ _ (hop x hx)]
      by_cases e : x = v
      · subst e; rw [updN_same]; omega
      · rw [updN_other _ _ _ e]; exact h.idxLe x hx
  case idxDone =>
    intro x hx hx2; simp only [enterS, List.mem_cons, not_or] at hx hx2 ⊢
    have hx3 := hx.resolve_left hx2.1
    rw [updN_other _ _ _ hx2.1, updN_other _ _ _ (fun e => hx2.2 (by rw [e]; exact hvc))]
    exact h.idxDone x hx3 hx2.2
  case partSeen =>
    intro x hx; simp only [enterS] at hx ⊢; rw [updN_other _ _ _ (hcl x hx)]; exact h.partSeen x hx
  case partLow => exact h.partLow
  case A =>
    intro c hc2 x hx hle
    simp only [enterS, List.mem_cons] at hc2 hx hle
    rcases hc2 with rfl | hc2
    · rcases hx with rfl | hx
      · exact .refl _
      · rw [ft, fo x hx] at hle; have := h.leTime x; omega
    · rcases hx with rfl | hx
      · exact hgt c hc2
      · rw [fo x hx, fc c hc2] at hle; exact h.A c hc2 x hx hle
  case B =>
    intro x hx
    simp only [enterS, List.mem_cons] at hx
    rcases hx with rfl | hx
    · exact ⟨x, by simp [enterS], Nat.le_refl _, .refl _⟩
    · obtain ⟨c, h1, h2, h3⟩ := h.B x hx
      refine ⟨c, by simp only [enterS, List.mem_cons]; exact .inr h1, ?_, h3⟩
      simp only [enterS]; rw [fo x hx, fc c h1]; exact h2
  case C => exact h.C
  case D =>
    intro x hx j hj t' ht'
    simp only [enterS, List.mem_cons] at hx hj ⊢
    rcases hx with rfl | hx
    · rw [updN_same] at hj; omega
    · rcases ix x hx j hj with hj | ⟨rfl, rfl⟩
      · exact mono _ (h.D x hx j hj t' ht')
      · rw [ht] at ht'; cases ht'; rw [ft]; omega
  case E =>
    intro x hx j hj t' hto ht' c hc2 hle htop
    simp only [enterS, List.mem_cons] at hx hj hto hc2 hle htop ⊢
    rcases hx with rfl | hx
    · rw [updN_same] at hj; omega
    · rcases hc2 with rfl | hc2
      · rw [ft, fo x hx] at hle; have := h.leTime x; omega
      · rw [fc c hc2, fo x hx] at hle
        rw [lc c hc2]
        rcases hto with rfl | hto
        · rw [ft]; have := h.F c hc2; have := h.leTime c; omega
        · rw [fo _ hto]
          rcases ix x hx j hj with hj | ⟨rfl, rfl⟩
          · refine h.E x hx j hj t' hto ht' c hc2 hle fun d hd hd2 => ?_
            have := htop d (.inr hd) (by rw [fc d hd, fo x hx]; exact hd2)
            rwa [fc d hd, fc c hc2] at this
          · rw [ht] at ht'; cases ht'; exact absurd rfl (hop _ hto)
  case F =>
    intro c hc2; simp only [enterS, List.mem_cons] at hc2 ⊢
    rcases hc2 with rfl | hc2
    · rw [updN_same, updN_same]; exact Nat.le_refl _
    · rw [lc c hc2, fc c hc2]; exact h.F c hc2
  case G =>
    intro c hc2; simp only [enterS, List.mem_cons] at hc2 ⊢
    rcases hc2 with rfl | hc2
    · exact ⟨c, .inl rfl, by rw [updN_same, updN_same], .refl _⟩
    · obtain ⟨z, h1, h2, h3⟩ := h.G c hc2
      exact ⟨z, .inr h1, by rw [lc c hc2, fo z h1]; exact h2, h3⟩
  case P1 => exact h.P1
  case P2 => exact h.P2

/-- An arrow to a vertex that is found already. -/
theorem TInv.edge (h : TInv n adj S) {v : Nat} {r : List Nat} (hc : S.calls = v :: r) {t : Nat} (ht : (adj v)[S.idx v]? = some t) (hw : S.found t ≠ 0) (lo : Nat → Nat)
    (hlo : ∀ c, c ≠ v → lo c = S.low c) (hle : lo v ≤ S.low v) (hlt : S.part t < 0 → lo v ≤ S.found t) (hlg : lo v = S.low v ∨ (S.part t < 0 ∧ lo v = S.found t)) :
    TInv n adj { S with idx := updN S.idx v (S.idx v + 1), low := lo } := by
  have hvc : v ∈ S.calls := by rw [hc]; exact List.mem_cons_self
  have hvo := h.callsOpen v hvc
  have htm : t ∈ adj v := List.mem_of_getElem? ht
  have hil : S.idx v < (adj v).length := by
    by_cases q : S.idx v < (adj v).length
    · exact q
    · rw [List.getElem?_eq_none (by omega)] at ht; cases ht
  have lol : ∀ c, lo c ≤ S.low c := fun c => by
    by_cases e : c = v
    · rw [e]; exact hle
    · rw [hlo c e]; exact Nat.le_refl _
  have ix : ∀ x, ∀ j, j < updN S.idx v (S.idx v + 1) x → j < S.idx x ∨ (x = v ∧ j = S.idx v) := fun x j hj => by
    by_cases e : x = v
    · subst e; rw [updN_same] at hj; omega
    · rw [updN_other _ _ _ e] at hj; exact .inl hj
  constructor
  case adjLt => exact h.adjLt
  case seenLt => exact h.seenLt
  case leTime => exact h.leTime
  case count => exact h.count
  case inj => exact h.inj
  case opnIff => exact h.opnIff
  case opnSorted => exact h.opnSorted
  case callsSorted => exact h.callsSorted
  case callsOpen => exact h.callsOpen
  case idxLe =>
    intro x hx
    show updN S.idx v (S.idx v + 1) x ≤ _
    by_cases e : x = v
    · subst e; rw [updN_same]; omega
    · rw [updN_other _ _ _ e]; exact h.idxLe x hx
  case idxDone =>
    intro x hx hx2
    show updN S.idx v (S.idx v + 1) x = _
    rw [updN_other _ _ _ (fun e => hx2 (by rw [e]; exact hvc))]
    exact h.idxDone x hx hx2
  case partSeen => exact h.partSeen
  case partLow => exact h.partLow
  case A => exact h.A
  case B => exact h.B
  case C => exact h.C
  case D =>
    intro x hx j hj t' ht'
    rcases ix x j hj with hj | ⟨rfl, rfl⟩
    · exact h.D x hx j hj t' ht'
    · rw [ht] at ht'; cases ht'; exact hw
  case E =>
    intro x hx j hj t' hto ht' c hc2 hcx htop
    show lo c ≤ _
    rcases ix x j hj with hj | ⟨rfl, rfl⟩
    · exact Nat.le_trans (lol c) (h.E x hx j hj t' hto ht' c hc2 hcx htop)
    · rw [ht] at ht'; cases ht'
      have e : c = x := by
        have h1 := htop x hvc (Nat.le_refl _)
        exact h.inj c x (by have h2 : S.found c ≤ S.found x := hcx; have h3 : S.found x ≤ S.found c := h1; omega) (h.callsSeen hc2).1
      subst e
      exact hlt ((h.opnIff t).1 hto).2
  case F => intro c hc2; exact Nat.le_trans (lol c) (h.F c hc2)
  case G =>
    intro c hc2
    show ∃ z ∈ S.opn, S.found z = lo c ∧ _
    by_cases e : c = v
    · subst e
      rcases hlg with e | ⟨e1, e2⟩
      · rw [e]; exact h.G c hc2
      · exact ⟨t, (h.opnIff t).2 ⟨hw, e1⟩, e2.symm, .one htm⟩
    · rw [hlo c e]; exact h.G c hc2
  case P1 => exact h.P1
  case P2 => exact h.P2

theorem TInv.low_eq (h : TInv n adj S) {v : Nat} {r : List Nat} (hc : S.calls = v :: r) : lowS S.low v r v = S.low v := by
  cases r with
  | nil => rfl
  | cons u r =>
    have := h.callsSorted
    rw [hc] at this
    have h1 := (List.pairwise_cons.1 this).1 u List.mem_cons_self
    exact updN_other _ _ _ (fun e => by subst e; omega)

/-- A vertex is left whose part begins lower. -/
theorem TInv.leaveN (h : TInv n adj S) {v : Nat} {r : List Nat} (hc : S.calls = v :: r) (hi : S.idx v = (adj v).length) (hl : S.low v ≠ S.found v) :
    TInv n adj { S with low := lowS S.low v r, calls := r } := by
  have hvc : v ∈ S.calls := by rw [hc]; exact List.mem_cons_self
  have hvo := h.callsOpen v hvc
  have hsrt := h.callsSorted
  rw [hc] at hsrt
  have hrl : ∀ c ∈ r, S.found c < S.found v := (List.pairwise_cons.1 hsrt).1
  have hsub : ∀ c ∈ r, c ∈ S.calls := fun c hm => by rw [hc]; exact List.mem_cons_of_mem _ hm
  have hcs : ∀ c ∈ S.calls, c = v ∨ c ∈ r := fun c hm => by rw [hc] at hm; exact List.mem_cons.1 hm
  have hF := h.F v hvc
  obtain ⟨z, hz1, hz2, hz3⟩ := h.G v hvc
  obtain ⟨g, hg1, hg2, hg3⟩ := h.B z hz1
  have hgr : g ∈ r := (hcs g hg1).resolve_left (fun e => by subst e; omega)
  obtain ⟨u, r', rfl⟩ : ∃ u r', r = u :: r' := by cases r with
    | nil => cases hgr
    | cons u r' => exact ⟨u, r', rfl⟩
  have hur : u ∈ u :: r' := List.mem_cons_self
  have huc := hsub u hur
  have hru : ∀ c ∈ u :: r', S.found c ≤ S.found u := fun c hm => by
    rcases List.mem_cons.1 hm with e | e
    · rw [e]; exact Nat.le_refl _
    · exact Nat.le_of_lt ((List.pairwise_cons.1 (List.pairwise_cons.1 hsrt).2).1 c e)
  have lol : ∀ c, lowS S.low v (u :: r') c ≤ S.low c := fun c => by
    show updN S.low u _ c ≤ _
    by_cases e : c = u
    · subst e; rw [updN_same]; omega
    · rw [updN_other _ _ _ e]; exact Nat.le_refl _
  have lou : lowS S.low v (u :: r') u = min (S.low u) (S.low v) := updN_same _ _ _
  have loc : ∀ c, c ≠ u → lowS S.low v (u :: r') c = S.low c := fun c e => updN_other _ _ _ e
  constructor
  case adjLt => exact h.adjLt
  case seenLt => exact h.seenLt
  case leTime => exact h.leTime
  case count => exact h.count
  case inj => exact h.inj
  case opnIff => exact h.opnIff
  case opnSorted => exact h.opnSorted
  case callsSorted => exact (List.pairwise_cons.1 hsrt).2
  case callsOpen => exact fun c hm => h.callsOpen c (hsub c hm)
  case idxLe => exact h.idxLe
  case idxDone =>
    intro x hx hx2
    show S.idx x = _
    by_cases e : x = v
    · rw [e]; exact hi
    · exact h.idxDone x hx (fun hm => (hcs x hm).elim e hx2)
  case partSeen => exact h.partSeen
  case partLow => exact h.partLow
  case A => exact fun c hm => h.A c (hsub c hm)
  case B =>
    intro x hx
    obtain ⟨c, h1, h2, h3⟩ := h.B x hx
    rcases hcs c h1 with rfl | hcr
    · refine ⟨g, hgr, ?_, h3.trans (hz3.trans hg3)⟩
      show S.found g ≤ S.found x
      omega
    · exact ⟨c, hcr, h2, h3⟩
  case C => exact h.C
  case D => exact h.D
  case E =>
    intro x hx j hj t hto ht c hc2 hcx htop
    have hcx : S.found c ≤ S.found x := hcx
    have htop : ∀ d ∈ u :: r', S.found d ≤ S.found x → S.found d ≤ S.found c := htop
    show lowS S.low v (u :: r') c ≤ S.found t
    by_cases hvx : S.found v ≤ S.found x
    · have hux := htop u hur (by have := hrl u hur; omega)
      have hcu := hru c hc2
      have e : c = u := h.inj c u (by omega) (h.callsSeen (hsub c hc2)).1
      rw [e, lou]
      have := h.E x hx j hj t hto ht v hvc hvx (fun d hd _ => by
        rcases hcs d hd with e | e
        · rw [e]; exact Nat.le_refl _
        · exact Nat.le_of_lt (hrl d e))
      omega
    · refine Nat.le_trans (lol c) (h.E x hx j hj t hto ht c (hsub c hc2) hcx fun d hd hdx => ?_)
      rcases hcs d hd with e | e
      · rw [e] at hdx; exact absurd hdx hvx
      · exact htop d e hdx
  case F => exact fun c hm => Nat.le_trans (lol c) (h.F c (hsub c hm))
  case G =>
    intro c hc2
    show ∃ z ∈ S.opn, S.found z = lowS S.low v (u :: r') c ∧ _
    by_cases e : c = u
    · subst e
      rw [lou]
      by_cases q : S.low v ≤ S.low c
      · rw [Nat.min_eq_right q]
        exact ⟨z, hz1, hz2, (h.A c huc v hvo (Nat.le_of_lt (hrl c hur))).trans hz3⟩
      · rw [Nat.min_eq_left (by omega)]; exact h.G c huc
    · rw [loc c e]; exact h.G c (hsub c hc2)
  case P1 => exact h.P1
  case P2 => exact h.P2

theorem closeS_spec (found : Nat → Nat) (v : Nat) : ∀ (l : List Nat) (p : Nat → Int), l.Pairwise (fun a b => found b < found a) → v ∈ l →
    (closeS v l p).1.Sublist l ∧ (∀ x, x ∈ (closeS v l p).1 ↔ x ∈ l ∧ found x < found v) ∧
    (∀ x, (x ∈ l ∧ found v ≤ found x) → (closeS v l p).2 x = (v : Int)) ∧ (∀ x, ¬ (x ∈ l ∧ found v ≤ found x) → (closeS v l p).2 x = p x) := by
  intro l
  induction l with
  | nil => intro p _ h; cases h
  | cons t r ih =>
    intro p hs hv
    have ⟨h1, h2⟩ := List.pairwise_cons.1 hs
    unfold closeS
    by_cases e : t = v
    · subst e
      rw [if_pos rfl]
      refine ⟨List.sublist_cons_self _ _, fun x => ?_, fun x ⟨hx, hf⟩ => ?_, fun x hx => ?_⟩
      · refine ⟨fun hx => ⟨List.mem_cons_of_mem _ hx, h1 x hx⟩, fun ⟨hx, hf⟩ => ?_⟩
        rcases List.mem_cons.1 hx with e | e
        · subst e; omega
        · exact e
      · rcases List.mem_cons.1 hx with e | e
        · subst e; exact updN_same _ _ _
        · have := h1 x e; omega
      · exact updN_other _ _ _ (fun e => hx (by rw [e]; exact ⟨List.mem_cons_self, Nat.le_refl _⟩))
    · rw [if_neg e]
      have hvr : v ∈ r := (List.mem_cons.1 hv).resolve_left (fun q => e q.symm)
      obtain ⟨i1, i2, i3, i4⟩ := ih (updN p t v) h2 hvr
      have htv := h1 v hvr
      refine ⟨i1.trans (List.sublist_cons_self _ _), fun x => ?_, fun x ⟨hx, hf⟩ => ?_, fun x hx => ?_⟩
      · rw [i2 x]
        refine ⟨fun ⟨a, b⟩ => ⟨List.mem_cons_of_mem _ a, b⟩, fun ⟨a, b⟩ => ⟨?_, b⟩⟩
        rcases List.mem_cons.1 a with e | e
        · subst e; omega
        · exact e
      · by_cases hxr : x ∈ r
        · exact i3 x ⟨hxr, hf⟩
        · rw [i4 x (fun q => hxr q.1)]
          rcases List.mem_cons.1 hx with e | e
          · subst e; exact updN_same _ _ _
          · exact absurd e hxr
      · rw [i4 x (fun q => hx ⟨List.mem_cons_of_mem _ q.1, q.2⟩)]
        exact updN_other _ _ _ (fun e => hx (by rw [e]; exact ⟨List.mem_cons_self, Nat.le_of_lt htv⟩))

/-- A vertex is left with which its part begins. -/
theorem TInv.leaveC (h : TInv n adj S) {v : Nat} {r : List Nat} (hc : S.calls = v :: r) (hi : S.idx v = (adj v).length) (hl : S.low v = S.found v) :
    TInv n adj { S with low := lowS S.low v r, calls := r, opn := (closeS v S.opn S.part).1, part := (closeS v S.opn S.part).2 } := by
  have hvc : v ∈ S.calls := by rw [hc]; exact List.mem_cons_self
  have hvo := h.callsOpen v hvc
  have hsrt := h.callsSorted
  rw [hc] at hsrt
  have hrl : ∀ c ∈ r, S.found c < S.found v := (List.pairwise_cons.1 hsrt).1
  have hsub : ∀ c ∈ r, c ∈ S.calls := fun c hm => by rw [hc]; exact List.mem_cons_of_mem _ hm
  have hcs : ∀ c ∈ S.calls, c = v ∨ c ∈ r := fun c hm => by rw [hc] at hm; exact List.mem_cons.1 hm
  have hlow : lowS S.low v r = S.low := by
    cases r with
    | nil => rfl
    | cons u r' =>
      have h1 := hrl u List.mem_cons_self
      have h2 := h.F u (hsub u List.mem_cons_self)
      show updN S.low u _ = _
      rw [Nat.min_eq_left (by omega), updN_self]
  rw [hlow]
  obtain ⟨k1, k2, k3, k4⟩ := closeS_spec S.found v S.opn S.part h.opnSorted hvo
  generalize (closeS v S.opn S.part).1 = O at *
  generalize (closeS v S.opn S.part).2 = P at *
  have seg : ∀ x, x ∈ S.opn → S.found v ≤ S.found x → Goes adj v x ∧ Goes adj x v := fun x hx hf => by
    refine ⟨h.A v hvc x hx hf, ?_⟩
    obtain ⟨c, h1, h2, h3⟩ := h.B x hx
    rcases hcs c h1 with e | e
    · rw [← e]; exact h3
    · exact h3.trans (h.A c h1 v hvo (Nat.le_of_lt (hrl c e)))
  have old : ∀ x, 0 ≤ S.part x → P x = S.part x := fun x hx => k4 x (fun q => by have := ((h.opnIff x).1 q.1).2; omega)
  have new : ∀ x, 0 ≤ P x → 0 ≤ S.part x ∨ (x ∈ S.opn ∧ S.found v ≤ S.found x) := fun x hx => by
    by_cases q : x ∈ S.opn ∧ S.found v ≤ S.found x
    · exact .inr q
    · rw [k4 x q] at hx; exact .inl hx
  have C2 : ∀ x, 0 ≤ P x → ∀ t ∈ adj x, 0 ≤ P t := fun x hx t ht => by
    rcases new x hx with hx | ⟨hxo, hxf⟩
    · have := h.C x hx t ht; rw [old t this]; exact this
    · obtain ⟨j, hj⟩ := List.mem_iff_getElem?.1 ht
      have hjl : j < (adj x).length := by
        by_cases q : j < (adj x).length
        · exact q
        · rw [List.getElem?_eq_none (by omega)] at hj; cases hj
      have hix : S.idx x = (adj x).length := by
        by_cases e : x = v
        · rw [e]; exact hi
        · refine h.idxDone x hxo (fun hm => ?_)
          rcases hcs x hm with q | q
          · exact e q
          · have := hrl x q; omega
      have hft := h.D x hxo j (by omega) t hj
      by_cases hp : 0 ≤ S.part t
      · rw [old t hp]; exact hp
      · have hto := (h.opnIff t).2 ⟨hft, by omega⟩
        have := h.E x hxo j (by omega) t hto hj v hvc hxf (fun d hd _ => by
          rcases hcs d hd with e | e
          · rw [e]; exact Nat.le_refl _
          · exact Nat.le_of_lt (hrl d e))
        rw [k3 t ⟨hto, by omega⟩]; omega
  constructor
  case adjLt => exact h.adjLt
  case seenLt => exact h.seenLt
  case leTime => exact h.leTime
  case count => exact h.count
  case inj => exact h.inj
  case opnIff =>
    intro x
    show x ∈ O ↔ S.found x ≠ 0 ∧ P x < 0
    rw [k2 x]
    constructor
    · rintro ⟨a, b⟩
      have := (h.opnIff x).1 a
      rw [k4 x (fun q => by omega)]; exact this
    · rintro ⟨a, b⟩
      by_cases q : x ∈ S.opn ∧ S.found v ≤ S.found x
      · rw [k3 x q] at b; omega
      · rw [k4 x q] at b
        have := (h.opnIff x).2 ⟨a, b⟩
        exact ⟨this, by have : ¬ S.found v ≤ S.found x := fun w => q ⟨this, w⟩; omega⟩
  case opnSorted => exact h.opnSorted.sublist k1
  case callsSorted => exact (List.pairwise_cons.1 hsrt).2
  case callsOpen => exact fun c hm => (k2 c).2 ⟨h.callsOpen c (hsub c hm), hrl c hm⟩
  case idxLe => exact fun x hx => h.idxLe x ((k2 x).1 hx).1
  case idxDone =>
    intro x hx hx2
    refine h.idxDone x ((k2 x).1 hx).1 (fun hm => ?_)
    rcases hcs x hm with e | e
    · have := ((k2 x).1 hx).2; subst e; omega
    · exact hx2 e
  case partSeen =>
    intro x hx
    rcases new x hx with q | q
    · exact h.partSeen x q
    · exact ((h.opnIff x).1 q.1).1
  case partLow =>
    intro x
    show -1 ≤ P x
    by_cases q : x ∈ S.opn ∧ S.found v ≤ S.found x
    · rw [k3 x q]; omega
    · rw [k4 x q]; exact h.partLow x
  case A => exact fun c hm x hx hf => h.A c (hsub c hm) x ((k2 x).1 hx).1 hf
  case B =>
    intro x hx
    have ⟨hx1, hx2⟩ := (k2 x).1 hx
    obtain ⟨c, h1, h2, h3⟩ := h.B x hx1
    rcases hcs c h1 with e | e
    · subst e; omega
    · exact ⟨c, e, h2, h3⟩
  case C => exact C2
  case D => exact fun x hx => h.D x ((k2 x).1 hx).1
  case E =>
    intro x hx j hj t hto ht c hc2 hcx htop
    have ⟨hx1, hx2⟩ := (k2 x).1 hx
    refine h.E x hx1 j hj t ((k2 t).1 hto).1 ht c (hsub c hc2) hcx fun d hd hdx => ?_
    rcases hcs d hd with e | e
    · subst e; omega
    · exact htop d e hdx
  case F => exact fun c hm => h.F c (hsub c hm)
  case G =>
    intro c hm
    obtain ⟨z, h1, h2, h3⟩ := h.G c (hsub c hm)
    have := h.F c (hsub c hm)
    have := hrl c hm
    exact ⟨z, (k2 z).2 ⟨h1, by omega⟩, h2, h3⟩
  case P1 =>
    intro x hx
    rcases new x hx with q | q
    · obtain ⟨p, a, b, c, d⟩ := h.P1 x q
      exact ⟨p, by show P x = _; rw [old x q]; exact a, by show 0 ≤ P p; rw [old _ b]; exact b, c, d⟩
    · have := seg x q.1 q.2
      exact ⟨v, k3 x q, by show 0 ≤ P v; rw [k3 v ⟨hvo, Nat.le_refl _⟩]; omega, this.2, this.1⟩
  case P2 =>
    intro x y hx hy hxy hyx
    show P x = P y
    rcases new x hx with q | q <;> rcases new y hy with q' | q'
    · rw [old x q, old y q']; exact h.P2 x y q q' hxy hyx
    · have := Goes.closed (P := fun z => 0 ≤ S.part z) h.C hxy q
      have := ((h.opnIff y).1 q'.1).2; omega
    · have := Goes.closed (P := fun z => 0 ≤ S.part z) h.C hyx q'
      have := ((h.opnIff x).1 q.1).2; omega
    · rw [k3 x q, k3 y q']

/-- A round keeps all that. -/
theorem TInv.leave (h : TInv n adj S) {v : Nat} {r : List Nat} (hc : S.calls = v :: r) (hi : S.idx v = (adj v).length) : TInv n adj (leaveS S v r) := by
  unfold leaveS
  rw [h.low_eq hc]
  split
  · next q => exact h.leaveC hc hi q
  · next q => exact h.leaveN hc hi q
theorem TInv.idx_get (h : TInv n adj S) {v : Nat} {r : List Nat} (hc : S.calls = v :: r) (hi : S.idx v ≠ (adj v).length) :
    S.idx v < (adj v).length ∧ (adj v)[S.idx v]? = some ((adj v).getD (S.idx v) 0) ∧ (adj v).getD (S.idx v) 0 < n := by
  have hvc : v ∈ S.calls := by rw [hc]; exact List.mem_cons_self
  have hvo := h.callsOpen v hvc
  have h1 : S.idx v < (adj v).length := by have := h.idxLe v hvo; omega
  have h2 : (adj v)[S.idx v]? = some ((adj v).getD (S.idx v) 0) := by simp [List.getD, List.getElem?_eq_getElem h1]
  exact ⟨h1, h2, h.adjLt v (h.seenLt v (h.callsSeen hvc).1) _ (List.mem_of_getElem? h2)⟩
theorem TInv.step (h : TInv n adj S) : TInv n adj (stepS adj S) := by
  cases hc : S.calls with
  | nil => rw [stepS_nil hc]; exact h
  | cons v r =>
    rw [stepS_cons hc]
    by_cases hi : S.idx v = (adj v).length
    · rw [if_pos hi]; exact h.leave hc hi
    · rw [if_neg hi]
      obtain ⟨_, h2, _⟩ := h.idx_get hc hi
      by_cases hf : S.found ((adj v).getD (S.idx v) 0) = 0
      · rw [if_pos hf]; exact h.enterEdge hc h2 hf
      · rw [if_neg hf]
        by_cases hp : S.part ((adj v).getD (S.idx v) 0) < 0
        · rw [if_pos hp]
          refine h.edge hc h2 hf (updN S.low v (min (S.low v) (S.found ((adj v).getD (S.idx v) 0)))) (fun c (hcv : c ≠ v) => updN_other S.low v _ hcv) ?_ (fun _ => ?_) ?_
          · rw [updN_same]; omega
          · rw [updN_same]; omega
          · rw [updN_same]
            by_cases q : S.low v ≤ S.found ((adj v).getD (S.idx v) 0)
            · exact .inl (Nat.min_eq_left q)
            · exact .inr ⟨hp, Nat.min_eq_right (by omega)⟩
        · rw [if_neg hp]
          exact h.edge hc h2 hf S.low (fun _ _ => rfl) (Nat.le_refl _) (fun q => absurd q hp) (.inl rfl)

/-- The stacks are short. -/
theorem sorted_len (found : Nat → Nat) : ∀ (l : List Nat) (b : Nat), l.Pairwise (fun a b => found b < found a) → (∀ x ∈ l, found x ≠ 0 ∧ found x ≤ b) → l.length ≤ b
  | [], b, _, _ => Nat.zero_le b
  | a :: l, b, hs, hb => by
    have ⟨h1, h2⟩ := List.pairwise_cons.1 hs
    have ha := hb a List.mem_cons_self
    have := sorted_len found l (found a - 1) h2 (fun x hx => ⟨(hb x (List.mem_cons_of_mem _ hx)).1, by have := h1 x hx; omega⟩)
    simp only [List.length_cons]; omega
theorem TInv.time_le (h : TInv n adj S) : S.time ≤ n := by have := h.count; omega
theorem TInv.calls_len (h : TInv n adj S) : S.calls.length ≤ n :=
  Nat.le_trans (sorted_len S.found S.calls S.time h.callsSorted (fun x hx => ⟨(h.callsSeen hx).1, h.leTime x⟩)) h.time_le
theorem TInv.opn_len (h : TInv n adj S) : S.opn.length ≤ n :=
  Nat.le_trans (sorted_len S.found S.opn S.time h.opnSorted (fun x hx => ⟨((h.opnIff x).1 hx).1, h.leTime x⟩)) h.time_le

/-- What is left to do. -/
def phi (n : Nat) (adj : Nat → List Nat) (S : TS) : Nat :=
  (S.calls.map fun v => 1 + ((adj v).length - S.idx v)).sum + wsum (fun v => 2 + (adj v).length) S.found n
theorem phi_calls (adj : Nat → List Nat) (l : List Nat) (f g : Nat → Nat) (h : ∀ v ∈ l, f v = g v) :
    (l.map fun v => 1 + ((adj v).length - f v)).sum = (l.map fun v => 1 + ((adj v).length - g v)).sum := by
  congr 1
  exact List.map_congr_left fun v hv => by rw [h v hv]
theorem TInv.phi_step (h : TInv n adj S) {v : Nat} {r : List Nat} (hc : S.calls = v :: r) : phi n adj (stepS adj S) < phi n adj S := by
  have hsrt := h.callsSorted
  rw [hc] at hsrt
  have hnd : ∀ c ∈ r, c ≠ v := fun c hm e => by have := (List.pairwise_cons.1 hsrt).1 c hm; subst e; omega
  have hbase : phi n adj S = (1 + ((adj v).length - S.idx v)) + (r.map fun v => 1 + ((adj v).length - S.idx v)).sum + wsum (fun v => 2 + (adj v).length) S.found n := by
    unfold phi; rw [hc]; simp
  have hbump : ∀ lo, phi n adj { S with idx := updN S.idx v (S.idx v + 1), low := lo } = (1 + ((adj v).length - (S.idx v + 1))) + (r.map fun v => 1 + ((adj v).length - S.idx v)).sum + wsum (fun v => 2 + (adj v).length) S.found n := fun lo => by
    unfold phi; rw [hc]; simp only [List.map_cons, List.sum_cons, updN_same]
    rw [phi_calls adj r _ S.idx (fun c hm => updN_other _ _ _ (hnd c hm))]
  rw [stepS_cons hc]
  by_cases hi : S.idx v = (adj v).length
  · rw [if_pos hi, hbase]
    unfold leaveS
    split <;> · unfold phi; dsimp only; omega
  · rw [if_neg hi]
    obtain ⟨h1, h2, h3⟩ := h.idx_get hc hi
    by_cases hf : S.found ((adj v).getD (S.idx v) 0) = 0
    · rw [if_pos hf, hbase]
      generalize (adj v).getD (S.idx v) 0 = t at *
      have hw := wsum_upd (fun v => 2 + (adj v).length) S.found t (S.time + 1) (by omega) hf n
      rw [if_pos h3] at hw
      have htc : ∀ c ∈ S.calls, c ≠ t := fun c hm e => by have := (h.callsSeen hm).1; rw [e] at this; exact this hf
      unfold phi enterS
      dsimp only
      rw [hc]
      simp only [List.map_cons, List.sum_cons, updN_same]
      rw [phi_calls adj r _ S.idx (fun c hm => by rw [updN_other _ _ _ (htc c (by rw [hc]; exact List.mem_cons_of_mem _ hm)), updN_other _ _ _ (hnd c hm)]),
        updN_other _ _ _ (htc v (by rw [hc]; exact List.mem_cons_self)), updN_same]
      omega
    · rw [if_neg hf]
      by_cases hp : S.part ((adj v).getD (S.idx v) 0) < 0
      · rw [if_pos hp, hbase]; have := hbump (updN S.low v (min (S.low v) (S.found ((adj v).getD (S.idx v) 0)))); omega
      · rw [if_neg hp, hbase]; have := hbump S.low; have e : ({ S with idx := updN S.idx v (S.idx v + 1), low := S.low } : TS) = { S with idx := updN S.idx v (S.idx v + 1) } := rfl
        rw [e] at this; omega
/-- The beginning. -/
def initS : TS := ⟨0, fun _ => 0, fun _ => 0, fun _ => 0, [], fun _ => -1, []⟩
theorem wsum_white (n : Nat) : wsum (fun _ => 1) (fun _ => 0) n = n := by
  induction n with
  | zero => rfl
  | succ n ih => simp [wsum, ih]
theorem TInv.init (n : Nat) (adj : Nat → List Nat) (ha : ∀ v, v < n → ∀ t ∈ adj v, t < n) : TInv n adj initS := by
  constructor
  case adjLt => exact ha
  case count => simp [initS, wsum_white]
  case C => intro x hx; simp [initS] at hx
  case P1 => intro x hx; simp [initS] at hx
  case P2 => intro x y hx; simp [initS] at hx
  all_goals simp [initS]

/-- Rounds one after another. -/
def iterS (adj : Nat → List Nat) : Nat → TS → TS
  | 0, S => S
  | k + 1, S => iterS adj k (stepS adj S)
theorem iterS_succ (adj : Nat → List Nat) (k : Nat) : ∀ S, iterS adj (k + 1) S = stepS adj (iterS adj k S) := by
  induction k with
  | zero => intro S; rfl
  | succ k ih => intro S; show iterS adj (k + 1) (stepS adj S) = _; rw [ih]; rfl
theorem TInv.iter (h : TInv n adj S) (k : Nat) : TInv n adj (iterS adj k S) := by
  induction k with
  | zero => exact h
  | succ k ih => rw [iterS_succ]; exact ih.step

/-- What was found stays found. -/
theorem keepsS (adj : Nat → List Nat) (S : TS) {x : Nat} (hx : S.found x ≠ 0) : (stepS adj S).found x = S.found x := by
  cases hc : S.calls with
  | nil => rw [stepS_nil hc]
  | cons v r =>
    rw [stepS_cons hc]
    split
    · unfold leaveS; split <;> rfl
    · split
      · next hf => exact updN_other _ _ _ (fun e => by rw [e] at hx; exact hx hf)
      · split <;> rfl

/-- At the end: all parts told: one number just where there are ways both ways. -/
theorem TInv.done (h : TInv n adj S) (hc : S.calls = []) (hall : ∀ v, v < n → S.found v ≠ 0) :
    (∀ v, v < n → 0 ≤ S.part v) ∧ ∀ x y, x < n → y < n → (S.part x = S.part y ↔ Goes adj x y ∧ Goes adj y x) := by
  have hp : ∀ v, v < n → 0 ≤ S.part v := fun v hv => by
    by_cases q : S.part v < 0
    · have := (h.opnIff v).2 ⟨hall v hv, q⟩; rw [h.opn_nil hc] at this; cases this
    · omega
  refine ⟨hp, fun x y hx hy => ⟨fun e => ?_, fun ⟨a, b⟩ => h.P2 x y (hp x hx) (hp y hy) a b⟩⟩
  obtain ⟨p, p1, _, p2, p3⟩ := h.P1 x (hp x hx)
  obtain ⟨q, q1, _, q2, q3⟩ := h.P1 y (hp y hy)
  have : p = q := by omega
  subst this
  exact ⟨p2.trans q3, q2.trans p3⟩

end Go.Proofs.YtmhiambkfdkkbaaGreatDoor

namespace Go.Proofs.YtmhiambkfdkkbaaGreatDoor

def sPairs : ByteArray := ⟨#[112, 97, 105, 114, 115]⟩
/-- Where a symbol leads from a node, and what is told. -/
def toN (K N u s : Nat) : Nat := (u * K + s) % N
def labN (K : Nat) (T : List Int) (u s : Nat) : Int := T.getD (u * K + s) 0
/-- The arrows of a pair as they are found. -/
def rawT (K N : Nat) (T : List Int) (u v s t : Nat) : List Nat := if labN K T u s = labN K T v t then [toN K N u s * N + toN K N v t] else []
def rawS (K N : Nat) (T : List Int) (u v s n : Nat) : List Nat := (List.range n).flatMap fun t => rawT K N T u v s t
def rawP (K N : Nat) (T : List Int) (u v n : Nat) : List Nat := (List.range n).flatMap fun s => rawS K N T u v s K
theorem rawS_succ (K N : Nat) (T : List Int) (u v s n : Nat) : rawS K N T u v s (n + 1) = rawS K N T u v s n ++ rawT K N T u v s n := by
  simp [rawS, List.range_succ]
theorem rawP_succ (K N : Nat) (T : List Int) (u v n : Nat) : rawP K N T u v (n + 1) = rawP K N T u v n ++ rawS K N T u v n K := by
  simp [rawP, List.range_succ]
theorem rawT_len (K N : Nat) (T : List Int) (u v s t : Nat) : (rawT K N T u v s t).length ≤ 1 := by unfold rawT; split <;> simp
theorem rawS_len (K N : Nat) (T : List Int) (u v s n : Nat) : (rawS K N T u v s n).length ≤ n := by
  induction n with
  | zero => simp [rawS]
  | succ n ih => rw [rawS_succ, List.length_append]; have := rawT_len K N T u v s n; omega
theorem rawP_len (K N : Nat) (T : List Int) (u v n : Nat) : (rawP K N T u v n).length ≤ n * K := by
  induction n with
  | zero => simp [rawP]
  | succ n ih => rw [rawP_succ, List.length_append, Nat.add_mul]; have := rawS_len K N T u v n K; omega
/-- Does an arrow lead from the pair u, v to the vertex q? -/
def Arr (K N : Nat) (T : List Int) (u v q : Nat) : Prop := ∃ s t, s < K ∧ t < K ∧ labN K T u s = labN K T v t ∧ q = toN K N u s * N + toN K N v t
theorem mem_rawP {K N : Nat} {T : List Int} {u v q : Nat} : q ∈ rawP K N T u v K ↔ Arr K N T u v q := by
  unfold rawP rawS rawT Arr
  simp only [List.mem_flatMap, List.mem_range]
  constructor
  · rintro ⟨s, hs, t, ht, h⟩
    split at h
    · rename_i e
      exact ⟨s, t, hs, ht, e, by simpa using h⟩
    · cases h
  · rintro ⟨s, t, hs, ht, e, h⟩
    exact ⟨s, hs, t, ht, by rw [if_pos e]; simpa using h⟩
theorem toN_lt {K N u s : Nat} (hN : 0 < N) : toN K N u s < N := Nat.mod_lt _ hN
theorem pair_lt {N a b : Nat} (ha : a < N) (hb : b < N) : a * N + b < N * N := by
  have := Nat.mul_le_mul_right N (show a + 1 ≤ N by omega)
  rw [Nat.add_mul] at this; omega
theorem pair_div {N a b : Nat} (hb : b < N) : (a * N + b) / N = a := div_mk hb
theorem pair_mod {N a b : Nat} (hb : b < N) : (a * N + b) % N = b := mod_mk hb
theorem pair_eq (p N : Nat) : p / N * N + p % N = p := by rw [Nat.mul_comm]; exact Nat.div_add_mod p N
theorem div_lt_of {p N : Nat} (h : p < N * N) : p / N < N := Nat.div_lt_of_lt_mul h
theorem Arr.lt {K N : Nat} {T : List Int} {u v q : Nat} (hN : 0 < N) (h : Arr K N T u v q) : q < N * N := by
  obtain ⟨s, t, _, _, _, rfl⟩ := h
  exact pair_lt (toN_lt hN) (toN_lt hN)
theorem Arr.swap {K N : Nat} {T : List Int} {u v q : Nat} (hN : 0 < N) (h : Arr K N T u v q) : Arr K N T v u (q % N * N + q / N) := by
  obtain ⟨s, t, hs, ht, e, rfl⟩ := h
  rw [pair_div (toN_lt hN), pair_mod (toN_lt hN)]
  exact ⟨t, s, ht, hs, e.symm, rfl⟩
/-- The vertices that arrows lead to, ascending. -/
def pairL (K N : Nat) (T : List Int) (p : Nat) : List Nat := (List.range (N * N)).filter fun q => decide (q ∈ rawP K N T (p / N) (p % N) K)
theorem pairL_sorted (K N : Nat) (T : List Int) (p : Nat) : (pairL K N T p).Pairwise (· < ·) := List.Pairwise.filter _ List.pairwise_lt_range
theorem mem_pairL {K N : Nat} {T : List Int} {p q : Nat} (hN : 0 < N) : q ∈ pairL K N T p ↔ Arr K N T (p / N) (p % N) q := by
  unfold pairL
  rw [List.mem_filter, List.mem_range, decide_eq_true_iff, mem_rawP]
  exact ⟨fun h => h.2, fun h => ⟨h.lt hN, h⟩⟩
theorem nodup_sub {α : Type} [DecidableEq α] : ∀ {l m : List α}, l.Nodup → l ⊆ m → l.length ≤ m.length
  | [], _, _, _ => by simp
  | a :: l, m, hn, hs => by
    obtain ⟨h1, h2⟩ := List.nodup_cons.1 hn
    have ha := hs List.mem_cons_self
    have := nodup_sub (l := l) (m := m.erase a) h2 (fun b hb => (List.mem_erase_of_ne (fun e => h1 (by rw [← e]; exact hb))).2 (hs (List.mem_cons_of_mem _ hb)))
    have hl := List.length_erase_of_mem ha
    have := List.length_pos_of_mem ha
    simp only [List.length_cons]; omega
theorem pairL_len (K N : Nat) (T : List Int) (p : Nat) : (pairL K N T p).length ≤ K * K := by
  have hn : (pairL K N T p).Nodup := (pairL_sorted K N T p).imp (fun h => Nat.ne_of_lt h)
  have hs : pairL K N T p ⊆ rawP K N T (p / N) (p % N) K := fun q hq => by
    unfold pairL at hq
    simpa using (List.mem_filter.1 hq).2
  exact Nat.le_trans (nodup_sub hn hs) (rawP_len ..)

/-- The node of a word at a place. -/
def nodeAt (K m : Nat) (x : List Int) (i : Nat) : Nat := numW K ((x.drop i).take m)
theorem win_snoc {x : List Int} {i m : Nat} (h : i + m < x.length) : (x.drop i).take (m + 1) = (x.drop i).take m ++ [x.getD (i + m) 0] := by
  rw [List.take_add_one, List.getElem?_drop]
  simp [List.getD, h]
theorem win_cons {x : List Int} {i m : Nat} : ((x.drop i).take (m + 1)).drop 1 = (x.drop (i + 1)).take m := by
  rw [List.drop_take]; simp
theorem syms_drop {K : Int} {x : List Int} (h : Syms K x) (i : Nat) : Syms K (x.drop i) := fun y hy => h y (List.mem_of_mem_drop hy)
theorem syms_take {K : Int} {x : List Int} (h : Syms K x) (i : Nat) : Syms K (x.take i) := fun y hy => h y (List.mem_of_mem_take hy)
theorem syms_at {K : Nat} {x : List Int} (h : Syms K x) {i : Nat} (hi : i < x.length) : 0 ≤ x.getD i 0 ∧ x.getD i 0 < K ∧ (x.getD i 0).toNat < K := by
  have := h (x[i]) (List.getElem_mem hi)
  simp only [List.getD_eq_getElem?_getD, List.getElem?_eq_getElem hi, Option.getD_some]
  omega
theorem win_num {K m : Nat} {x : List Int} {i : Nat} (h : i + m < x.length) : numW K ((x.drop i).take (m + 1)) = nodeAt K m x i * K + (x.getD (i + m) 0).toNat := by
  rw [win_snoc h, numW_snoc]; rfl
theorem node_lt {K m : Nat} {x : List Int} (hx : Syms K x) {i : Nat} (h : i + m ≤ x.length) : nodeAt K m x i < pw K m := by
  have := numW_lt _ (syms_take (syms_drop hx i) m)
  rwa [show ((x.drop i).take m).length = m by simp; omega] at this
theorem node_next {K m : Nat} {x : List Int} (hx : Syms K x) {i : Nat} (h : i + m < x.length) : nodeAt K m x (i + 1) = toN K (pw K m) (nodeAt K m x i) (x.getD (i + m) 0).toNat := by
  have hl : ((x.drop i).take m).length = m := by simp; omega
  have hs : Syms K ((x.drop i).take m ++ [x.getD (i + m) 0]) := by rw [← win_snoc h]; exact syms_take (syms_drop hx i) _
  have := num_shift hs
  rw [← win_snoc h, win_cons, hl, win_num h] at this
  exact this
theorem img_at {K R : Nat} {T x : List Int} {i : Nat} (h : i + 2 * R < x.length) : (imgP K R T x).getD i 0 = labN K T (nodeAt K (2 * R) x i) (x.getD (i + 2 * R) 0).toNat := by
  rw [imgP_getD _ _ _ _ _ (by omega), win_num h]; rfl
theorem img_eq {K R : Nat} {T x y : List Int} (hl : x.length = y.length) : imgP K R T x = imgP K R T y ↔
    ∀ i, i + 2 * R < x.length → labN K T (nodeAt K (2 * R) x i) (x.getD (i + 2 * R) 0).toNat = labN K T (nodeAt K (2 * R) y i) (y.getD (i + 2 * R) 0).toNat := by
  constructor
  · intro h i hi
    rw [← img_at hi, ← img_at (by omega), h]
  · intro h
    refine List.ext_getElem (by rw [imgP_length, imgP_length, hl]) fun i h1 h2 => ?_
    rw [imgP_length] at h1 h2
    have := h i (by omega)
    rw [← img_at (by omega), ← img_at (by omega)] at this
    simpa [List.getD_eq_getElem?_getD, imgP_length, h1, h2] using this

/-- The vertices along two words. -/
def wayW (K m : Nat) (x y : List Int) : List Nat := (List.range (x.length - m + 1)).map fun i => nodeAt K m x i * pw K m + nodeAt K m y i
theorem wayW_len (K m : Nat) (x y : List Int) : (wayW K m x y).length = x.length - m + 1 := by simp [wayW]
theorem wayW_get {K m : Nat} {x y : List Int} {i : Nat} (h : i ≤ x.length - m) : (wayW K m x y).getD i 0 = nodeAt K m x i * pw K m + nodeAt K m y i := by
  simp [wayW, List.getD, show i < x.length - m + 1 by omega]
theorem wayW_arr {K R : Nat} {T x y : List Int} (hx : Syms K x) (hy : Syms K y) (hl : x.length = y.length) (he : imgP K R T x = imgP K R T y) {i : Nat} (hi : i + 2 * R < x.length) :
    Arr K (pw K (2 * R)) T (nodeAt K (2 * R) x i) (nodeAt K (2 * R) y i) (nodeAt K (2 * R) x (i + 1) * pw K (2 * R) + nodeAt K (2 * R) y (i + 1)) :=
  ⟨_, _, (syms_at hx hi).2.2, (syms_at hy (by omega)).2.2, (img_eq hl).1 he i hi, by rw [node_next hx hi, node_next hy (by omega)]⟩

/-- Does a step of the way fit: the second vertex by the last symbols of its nodes? -/
def StepFits (K N : Nat) (T : List Int) (p q : Nat) : Prop :=
  toN K N (p / N) (q / N % K) = q / N ∧ toN K N (p % N) (q % N % K) = q % N ∧ labN K T (p / N) (q / N % K) = labN K T (p % N) (q % N % K)
instance (K N : Nat) (T : List Int) (p q : Nat) : Decidable (StepFits K N T p q) := by unfold StepFits; exact inferInstance
/-- The last symbol of the node that a symbol leads to is that symbol. -/
theorem toN_mod {K R u s : Nat} (_hK : 1 ≤ K) (hR : 1 ≤ R) (hs : s < K) : toN K (pw K (2 * R)) u s % K = s := by
  unfold toN
  have : K ∣ pw K (2 * R) := ⟨pw K (2 * R - 1), by rw [Nat.mul_comm K, ← pw_succ]; congr 1; omega⟩
  rw [Nat.mod_mod_of_dvd _ this, mod_mk hs]
theorem fits_iff {K R : Nat} {T : List Int} {p q : Nat} (hK : 1 ≤ K) (hR : 1 ≤ R) (hq : q < pw K (2 * R) * pw K (2 * R)) :
    StepFits K (pw K (2 * R)) T p q ↔ Arr K (pw K (2 * R)) T (p / pw K (2 * R)) (p % pw K (2 * R)) q := by
  have hN := pw_pos (K := K) (2 * R) hK
  constructor
  · rintro ⟨h1, h2, h3⟩
    exact ⟨_, _, Nat.mod_lt _ (by omega), Nat.mod_lt _ (by omega), h3, by rw [h1, h2, pair_eq]⟩
  · rintro ⟨s, t, hs, ht, e, rfl⟩
    unfold StepFits
    rw [pair_div (toN_lt (by omega)), pair_mod (toN_lt (by omega)), toN_mod hK hR hs, toN_mod hK hR ht]
    exact ⟨rfl, rfl, e⟩
/-- The word along a way of nodes. -/
def alongW (K m : Nat) (F : Nat → Nat) (way : List Nat) : List Int := digs K m (F (way.getD 0 0)) ++ (way.drop 1).map fun p => ((F p % K : Nat) : Int)
theorem alongW_len (K m : Nat) (F : Nat → Nat) (way : List Nat) : (alongW K m F way).length = m + (way.length - 1) := by simp [alongW, digs_length]
theorem alongW_syms {K m : Nat} (hK : 1 ≤ K) (F : Nat → Nat) (way : List Nat) : Syms K (alongW K m F way) := by
  intro y hy
  rcases List.mem_append.1 hy with hy | hy
  · exact digs_syms hK _ _ y hy
  · obtain ⟨p, _, rfl⟩ := List.mem_map.1 hy
    have := Nat.mod_lt (F p) (show 0 < K by omega); omega
theorem alongW_get {K m : Nat} {F : Nat → Nat} {way : List Nat} {i : Nat} (h : i + 1 < way.length) : (alongW K m F way).getD (i + m) 0 = ((F (way.getD (i + 1) 0) % K : Nat) : Int) := by
  unfold alongW
  rw [List.getD_eq_getElem?_getD, List.getElem?_append_right (by rw [digs_length]; omega), digs_length, Nat.add_sub_cancel, List.getElem?_map, List.getElem?_drop, Nat.add_comm 1 i]
  rw [List.getElem?_eq_getElem h]
  simp [List.getD, h]
/-- Along a way that fits the nodes are the way's. -/
theorem along_node {K m : Nat} (hK : 1 ≤ K) {F : Nat → Nat} {way : List Nat} (h0 : F (way.getD 0 0) < pw K m) (hs : ∀ i, i + 1 < way.length → toN K (pw K m) (F (way.getD i 0)) (F (way.getD (i + 1) 0) % K) = F (way.getD (i + 1) 0)) :
    ∀ i, i < way.length → nodeAt K m (alongW K m F way) i = F (way.getD i 0)
  | 0, _ => by
    unfold nodeAt alongW
    rw [List.drop_zero, List.take_append_of_le_length (by rw [digs_length]; omega), List.take_of_length_le (by rw [digs_length]; omega), numW_digs hK _ _ h0]
  | i + 1, hi => by
    have ih := along_node hK h0 hs i (by omega)
    rw [node_next (alongW_syms hK F way) (by rw [alongW_len]; omega), ih, alongW_get hi, Int.toNat_natCast]
    exact hs i hi
/-- The word along the nodes of a word is that word. -/
theorem along_word {K R : Nat} (hK : 1 ≤ K) (hR : 1 ≤ R) {F : Nat → Nat} {x : List Int} (hx : Syms K x) (hl : 2 * R ≤ x.length) {way : List Nat} (hw : way.length = x.length - 2 * R + 1)
    (hF : ∀ i, i < way.length → F (way.getD i 0) = nodeAt K (2 * R) x i) : alongW K (2 * R) F way = x := by
  have hN := pw_pos (K := K) (2 * R) hK
  refine List.ext_getElem (by rw [alongW_len]; omega) fun i h1 h2 => ?_
  by_cases hi : i < 2 * R
  · have e : digs K (2 * R) (F (way.getD 0 0)) = x.take (2 * R) := by
      rw [hF 0 (by omega)]
      have := digs_numW hK (x.take (2 * R)) (syms_take hx _)
      rw [show (x.take (2 * R)).length = 2 * R by simp; omega] at this
      simpa [nodeAt] using this
    simp only [alongW, e]
    rw [List.getElem_append_left (by simp; omega), List.getElem_take]
  · obtain ⟨j, rfl⟩ : ∃ j, i = j + 2 * R := ⟨i - 2 * R, by omega⟩
    have hj : j + 1 < way.length := by omega
    have := alongW_get (K := K) (m := 2 * R) (F := F) hj
    rw [hF (j + 1) hj, node_next hx (by omega), toN_mod hK hR (syms_at hx (by omega)).2.2] at this
    simp only [List.getD_eq_getElem?_getD, List.getElem?_eq_getElem h1, List.getElem?_eq_getElem h2, Option.getD_some] at this
    rw [this]
    have := (hx (x[j + 2 * R]) (List.getElem_mem _)).1
    omega
end Go.Proofs.YtmhiambkfdkkbaaGreatDoor

namespace Go.Proofs.YtmhiambkfdkkbaaGreatDoor

/-- Two words that differ, with the same 2 R symbols at both ends and one image. -/
structure IsTwins (K R : Nat) (T a b : List Int) : Prop where
  sa : Syms K a
  sb : Syms K b
  len : a.length = b.length
  ne : a ≠ b
  low : 2 * R ≤ a.length
  front : a.take (2 * R) = b.take (2 * R)
  back : a.drop (a.length - 2 * R) = b.drop (b.length - 2 * R)
  img : imgP K R T a = imgP K R T b
theorem IsTwins.symm {K R : Nat} {T a b : List Int} (h : IsTwins K R T a b) : IsTwins K R T b a :=
  ⟨h.sb, h.sa, h.len.symm, h.ne.symm, by rw [← h.len]; exact h.low, h.front.symm, h.back.symm, h.img.symm⟩
/-- Wherever one stands the other may stand. -/
theorem IsTwins.context {K R : Nat} {T a b : List Int} (h : IsTwins K R T a b) (u v : List Int) : imgP K R T (u ++ a ++ v) = imgP K R T (u ++ b ++ v) := by
  have hlen := h.len
  have hlow := h.low
  have fr : ∀ k, k < 2 * R → a[k]? = b[k]? := fun k hk => by
    have := congrArg (·[k]?) h.front
    simpa [List.getElem?_take, hk] using this
  have bk : ∀ k, a.length - 2 * R ≤ k → a[k]? = b[k]? := fun k hk => by
    have := congrArg (·[k - (a.length - 2 * R)]?) h.back
    simp only [List.getElem?_drop] at this
    rw [show a.length - 2 * R + (k - (a.length - 2 * R)) = k by omega, show b.length - 2 * R + (k - (a.length - 2 * R)) = k by omega] at this
    exact this
  have at_ : ∀ (c : List Int) (p : Nat), (u ++ c ++ v)[p]? = if p < u.length then u[p]? else if p < u.length + c.length then c[p - u.length]? else v[p - (u.length + c.length)]? := fun c p => by
    rw [List.getElem?_append]
    simp only [List.length_append, List.getElem?_append]
    split
    · split <;> rfl
    · split
      · omega
      · rfl
  refine List.ext_getElem (by rw [imgP_length, imgP_length]; simp [hlen]) fun i h1 h2 => ?_
  rw [imgP_length] at h1 h2
  have key : ((u ++ a ++ v).drop i).take (2 * R + 1) = ((u ++ b ++ v).drop i).take (2 * R + 1) ∨ (u.length ≤ i ∧ i + 2 * R < u.length + a.length) := by
    by_cases hin : u.length ≤ i ∧ i + 2 * R < u.length + a.length
    · exact .inr hin
    · left
      refine List.ext_getElem? fun j => ?_
      rw [List.getElem?_take, List.getElem?_take]
      split
      · rw [List.getElem?_drop, List.getElem?_drop, at_, at_, ← hlen]
        split
        · rfl
        · split
          · by_cases q : i < u.length
            · exact fr _ (by omega)
            · exact bk _ (by omega)
          · rfl
      · rfl
  have g1 := imgP_getD K R T (u ++ a ++ v) i h1
  have g2 := imgP_getD K R T (u ++ b ++ v) i h2
  simp only [List.getD_eq_getElem?_getD, List.getElem?_eq_getElem (show i < (imgP K R T (u ++ a ++ v)).length by rw [imgP_length]; exact h1), List.getElem?_eq_getElem (show i < (imgP K R T (u ++ b ++ v)).length by rw [imgP_length]; exact h2), Option.getD_some] at g1 g2
  rw [g1, g2]
  rcases key with key | ⟨k1, k2⟩
  · rw [key]
  · have win : ∀ (c : List Int), c.length = a.length → ((u ++ c ++ v).drop i).take (2 * R + 1) = (c.drop (i - u.length)).take (2 * R + 1) := fun c hc => by
      rw [List.append_assoc, List.drop_append, List.drop_eq_nil_of_le (show u.length ≤ i by omega), List.nil_append, List.drop_append_of_le_length (by omega), List.take_append_of_le_length (by simp; omega)]
    rw [win a rfl, win b hlen.symm]
    have e := congrArg (fun l => l.getD (i - u.length) 0) h.img
    rw [imgP_getD _ _ _ _ _ (by omega), imgP_getD _ _ _ _ _ (by omega)] at e
    simpa [List.getD_eq_getElem?_getD] using e

/-- The nodes of the pair are one. -/
def Diag (N p : Nat) : Prop := p / N = p % N
instance (N p : Nat) : Decidable (Diag N p) := by unfold Diag; exact inferInstance
theorem diag_mk {N u : Nat} (h : u < N) : Diag N (u * N + u) := by unfold Diag; rw [pair_div h, pair_mod h]
theorem Diag.eq {N p : Nat} (h : Diag N p) : p = p / N * N + p / N := by
  have := pair_eq p N
  rw [← h] at this; exact this.symm
/-- A way from a pair of equal nodes through pairs that are apart to a pair of equal nodes. -/
structure ApartWay (N : Nat) (adj : Nat → List Nat) (w : List Nat) : Prop where
  len : 3 ≤ w.length
  low : ∀ i, i < w.length → w.getD i 0 < N * N
  arr : ∀ i, i + 1 < w.length → w.getD (i + 1) 0 ∈ adj (w.getD i 0)
  fst : Diag N (w.getD 0 0)
  lst : Diag N (w.getD (w.length - 1) 0)
  inn : ∀ i, 0 < i → i + 1 < w.length → ¬ Diag N (w.getD i 0)
theorem last_diag {N : Nat} {W : Nat → Nat} (h0 : Diag N (W 0)) : ∀ i, ¬ Diag N (W i) → ∃ k, k < i ∧ Diag N (W k) ∧ ∀ j, k < j → j ≤ i → ¬ Diag N (W j)
  | 0, h => absurd h0 h
  | i + 1, h => by
    by_cases q : Diag N (W i)
    · exact ⟨i, by omega, q, fun j h1 h2 => by obtain rfl : j = i + 1 := by omega
                                               exact h⟩
    · obtain ⟨k, h1, h2, h3⟩ := last_diag h0 i q
      refine ⟨k, by omega, h2, fun j h4 h5 => ?_⟩
      by_cases e : j = i + 1
      · subst e; exact h
      · exact h3 j h4 (by omega)
theorem next_diag {N : Nat} {W : Nat → Nat} {i : Nat} (h : ¬ Diag N (W i)) : ∀ k, Diag N (W (i + k)) → ∃ m, i < m ∧ m ≤ i + k ∧ Diag N (W m) ∧ ∀ j, i ≤ j → j < m → ¬ Diag N (W j)
  | 0, hk => absurd hk h
  | k + 1, hk => by
    by_cases q : ∃ m, i < m ∧ m ≤ i + k ∧ Diag N (W m) ∧ ∀ j, i ≤ j → j < m → ¬ Diag N (W j)
    · obtain ⟨m, h1, h2, h3⟩ := q
      exact ⟨m, h1, by omega, h3⟩
    · refine ⟨i + (k + 1), by omega, Nat.le_refl _, hk, fun j h1 h2 hd => q ?_⟩
      obtain ⟨d, rfl⟩ : ∃ d, j = i + d := ⟨j - i, by omega⟩
      obtain ⟨m, m1, m2, m3⟩ := next_diag h d hd
      exact ⟨m, m1, by omega, m3⟩
theorem list_range_get (f : Nat → Nat) (n i : Nat) (h : i < n) : ((List.range n).map f).getD i 0 = f i := by simp [List.getD, h]
/-- Twins have such a way. -/
theorem IsTwins.way {K R : Nat} {T a b : List Int} (hK : 1 ≤ K) (hR : 1 ≤ R) (h : IsTwins K R T a b) : ∃ w, ApartWay (pw K (2 * R)) (pairL K (pw K (2 * R)) T) w ∧ 2 * R + (w.length - 1) ≤ a.length := by
  have hlen := h.len
  have hlow := h.low
  have hN := pw_pos (K := K) (2 * R) hK
  have na : ∀ i, i + 2 * R ≤ a.length → nodeAt K (2 * R) a i < pw K (2 * R) := fun i hi => node_lt h.sa hi
  have nb : ∀ i, i + 2 * R ≤ a.length → nodeAt K (2 * R) b i < pw K (2 * R) := fun i hi => node_lt h.sb (by omega)
  obtain ⟨W, hW⟩ : ∃ W : Nat → Nat, W = fun i => nodeAt K (2 * R) a i * pw K (2 * R) + nodeAt K (2 * R) b i := ⟨_, rfl⟩
  have hWi : ∀ i, W i = nodeAt K (2 * R) a i * pw K (2 * R) + nodeAt K (2 * R) b i := fun i => by rw [hW]
  have dg : ∀ i, i + 2 * R ≤ a.length → (Diag (pw K (2 * R)) (W i) ↔ nodeAt K (2 * R) a i = nodeAt K (2 * R) b i) := fun i hi => by
    unfold Diag; rw [hWi, pair_div (nb i hi), pair_mod (nb i hi)]
  have d0 : Diag (pw K (2 * R)) (W 0) := by
    rw [dg 0 (by omega)]; unfold nodeAt; rw [List.drop_zero, List.drop_zero, h.front]
  obtain ⟨n, hn⟩ : ∃ n, a.length = n + 2 * R := ⟨a.length - 2 * R, by omega⟩
  have dn : Diag (pw K (2 * R)) (W n) := by
    rw [dg n (by omega)]; unfold nodeAt
    have := h.back
    rw [← hlen, hn, Nat.add_sub_cancel] at this
    rw [this]
  have hex : ∃ i, i ≤ n ∧ ¬ Diag (pw K (2 * R)) (W i) := by
    apply Classical.byContradiction
    intro hno
    have hall : ∀ i, i ≤ n → nodeAt K (2 * R) a i = nodeAt K (2 * R) b i := fun i hi => (dg i (by omega)).1 (Classical.byContradiction fun q => hno ⟨i, hi, q⟩)
    apply h.ne
    have hget : ∀ i, i < n + 1 → ((List.range (n + 1)).map (nodeAt K (2 * R) a)).getD i 0 = nodeAt K (2 * R) a i := fun i hi => list_range_get _ _ _ hi
    have e1 := along_word (F := id) (way := (List.range (n + 1)).map (nodeAt K (2 * R) a)) hK hR h.sa h.low (by simp; omega) (fun i hi => hget i (by simpa using hi))
    have e2 := along_word (F := id) (way := (List.range (n + 1)).map (nodeAt K (2 * R) a)) hK hR h.sb (by omega) (by simp; omega) (fun i hi => by
      have hi : i < n + 1 := by simpa using hi
      show ((List.range (n + 1)).map (nodeAt K (2 * R) a)).getD i 0 = _
      rw [hget i hi, hall i (by omega)])
    rw [← e1, e2]
  obtain ⟨i, hi, hnd⟩ := hex
  obtain ⟨k, k1, k2, k3⟩ := last_diag d0 i hnd
  obtain ⟨m, m1, m2, m3, m4⟩ := next_diag hnd (n - i) (by rw [show i + (n - i) = n by omega]; exact dn)
  have hget : ∀ j, j < m - k + 1 → ((List.range (m - k + 1)).map fun j => W (k + j)).getD j 0 = W (k + j) := fun j hj => list_range_get _ _ _ hj
  refine ⟨(List.range (m - k + 1)).map fun j => W (k + j), ⟨by simp; omega, fun j hj => ?_, fun j hj => ?_, ?_, ?_, fun j j0 j1 => ?_⟩, by simp; omega⟩
  · rw [hget j (by simpa using hj), hWi]
    have : j < m - k + 1 := by simpa using hj
    exact pair_lt (na _ (by omega)) (nb _ (by omega))
  · have hj : j + 1 < m - k + 1 := by simpa using hj
    rw [hget j (by omega), hget (j + 1) hj, mem_pairL (by omega), hWi, hWi, pair_div (nb _ (by omega)), pair_mod (nb _ (by omega)), ← Nat.add_assoc]
    exact wayW_arr h.sa h.sb hlen h.img (by omega)
  · rw [hget 0 (by omega)]; exact k2
  · rw [List.length_map, List.length_range, Nat.add_sub_cancel, hget _ (by omega), show k + (m - k) = m by omega]; exact m3
  · have hj : j + 1 < m - k + 1 := by simpa using j1
    rw [hget j (by omega)]
    by_cases q : k + j ≤ i
    · exact k3 _ (by omega) q
    · exact m4 _ (by omega) (by omega)
/-- A way of pairs gives two words with one image. -/
theorem ways_words {K R : Nat} {T : List Int} {w : List Nat} (hK : 1 ≤ K) (hR : 1 ≤ R) (hw : 1 ≤ w.length) (low : ∀ i, i < w.length → w.getD i 0 < pw K (2 * R) * pw K (2 * R))
    (arr : ∀ i, i + 1 < w.length → w.getD (i + 1) 0 ∈ pairL K (pw K (2 * R)) T (w.getD i 0)) :
    (∀ i, i < w.length → nodeAt K (2 * R) (alongW K (2 * R) (· / pw K (2 * R)) w) i = w.getD i 0 / pw K (2 * R) ∧ nodeAt K (2 * R) (alongW K (2 * R) (· % pw K (2 * R)) w) i = w.getD i 0 % pw K (2 * R)) ∧
    imgP K R T (alongW K (2 * R) (· / pw K (2 * R)) w) = imgP K R T (alongW K (2 * R) (· % pw K (2 * R)) w) := by
  have hN := pw_pos (K := K) (2 * R) hK
  have fits : ∀ i, i + 1 < w.length → StepFits K (pw K (2 * R)) T (w.getD i 0) (w.getD (i + 1) 0) := fun i hi =>
    (fits_iff hK hR (low _ hi)).2 ((mem_pairL (by omega)).1 (arr i hi))
  have n1 := along_node (K := K) (m := 2 * R) (F := (· / pw K (2 * R))) (way := w) hK (div_lt_of (low 0 (by omega))) (fun i hi => (fits i hi).1)
  have n2 := along_node (K := K) (m := 2 * R) (F := (· % pw K (2 * R))) (way := w) hK (Nat.mod_lt _ (by omega)) (fun i hi => (fits i hi).2.1)
  refine ⟨fun i hi => ⟨n1 i hi, n2 i hi⟩, ?_⟩
  rw [img_eq (by rw [alongW_len, alongW_len])]
  intro i hi
  rw [alongW_len] at hi
  rw [n1 i (by omega), n2 i (by omega), alongW_get (by omega), alongW_get (by omega), Int.toNat_natCast, Int.toNat_natCast]
  exact (fits i (by omega)).2.2
/-- Such a way has twins. -/
theorem ApartWay.twins {K R : Nat} {T : List Int} {w : List Nat} (hK : 1 ≤ K) (hR : 1 ≤ R) (h : ApartWay (pw K (2 * R)) (pairL K (pw K (2 * R)) T) w) :
    IsTwins K R T (alongW K (2 * R) (· / pw K (2 * R)) w) (alongW K (2 * R) (· % pw K (2 * R)) w) := by
  have hN := pw_pos (K := K) (2 * R) hK
  have h3 := h.len
  obtain ⟨hn, hi⟩ := ways_words hK hR (by omega) h.low h.arr
  have la := alongW_len K (2 * R) (· / pw K (2 * R)) w
  have lb := alongW_len K (2 * R) (· % pw K (2 * R)) w
  have sa := alongW_syms (m := 2 * R) hK (· / pw K (2 * R)) w
  have sb := alongW_syms (m := 2 * R) hK (· % pw K (2 * R)) w
  generalize alongW K (2 * R) (· / pw K (2 * R)) w = a at *
  generalize alongW K (2 * R) (· % pw K (2 * R)) w = b at *
  have same : ∀ i, i < w.length → Diag (pw K (2 * R)) (w.getD i 0) → (a.drop i).take (2 * R) = (b.drop i).take (2 * R) := fun i hi hd => by
    obtain ⟨e1, e2⟩ := hn i hi
    have q1 := digs_numW hK _ (syms_take (syms_drop sa i) (2 * R))
    have q2 := digs_numW hK _ (syms_take (syms_drop sb i) (2 * R))
    rw [show ((a.drop i).take (2 * R)).length = 2 * R by simp; omega] at q1
    rw [show ((b.drop i).take (2 * R)).length = 2 * R by simp; omega] at q2
    rw [← q1, ← q2]
    show digs K (2 * R) (nodeAt K (2 * R) a i) = digs K (2 * R) (nodeAt K (2 * R) b i)
    rw [e1, e2, hd]
  refine ⟨sa, sb, by omega, fun e => ?_, by omega, ?_, ?_, hi⟩
  · subst e
    obtain ⟨e1, e2⟩ := hn 1 (by omega)
    exact h.inn 1 (by omega) (by omega) (e1.symm.trans e2)
  · have := same 0 (by omega) h.fst
    simpa using this
  · have := same (w.length - 1) (by omega) h.lst
    rw [List.take_of_length_le (by simp; omega), List.take_of_length_le (by simp; omega)] at this
    rw [show a.length - 2 * R = w.length - 1 by omega, show b.length - 2 * R = w.length - 1 by omega]
    exact this

/-- The least length of twins. -/
def TwinLen (K R : Nat) (T : List Int) (n : Nat) : Prop := (∃ a b, IsTwins K R T a b ∧ a.length = n) ∧ ∀ a b, IsTwins K R T a b → n ≤ a.length
theorem TwinLen.unique {K R : Nat} {T : List Int} {n m : Nat} (h : TwinLen K R T n) (k : TwinLen K R T m) : n = m := by
  obtain ⟨⟨a, b, h1, rfl⟩, h2⟩ := h
  obtain ⟨⟨c, d, k1, rfl⟩, k2⟩ := k
  exact Nat.le_antisymm (h2 _ _ k1) (k2 _ _ h1)
theorem way_twinLen {K R : Nat} {T : List Int} {w : List Nat} (hK : 1 ≤ K) (hR : 1 ≤ R) (h : ApartWay (pw K (2 * R)) (pairL K (pw K (2 * R)) T) w)
    (hm : ∀ u, ApartWay (pw K (2 * R)) (pairL K (pw K (2 * R)) T) u → w.length ≤ u.length) : TwinLen K R T (2 * R + (w.length - 1)) := by
  refine ⟨⟨_, _, h.twins hK hR, alongW_len ..⟩, fun a b hab => ?_⟩
  obtain ⟨u, hu, hl⟩ := hab.way hK hR
  have := hm u hu
  omega
theorem no_twins {K R : Nat} {T : List Int} (hK : 1 ≤ K) (hR : 1 ≤ R) (hm : ∀ u, ¬ ApartWay (pw K (2 * R)) (pairL K (pw K (2 * R)) T) u) (a b : List Int) : ¬ IsTwins K R T a b := fun h => by
  obtain ⟨u, hu, _⟩ := h.way hK hR
  exact hm u hu
end Go.Proofs.YtmhiambkfdkkbaaGreatDoor

namespace Go.Proofs.YtmhiambkfdkkbaaGreatDoor

theorem img_mir {K R : Nat} {T : List Int} (h : RuleOk K R T) {x : List Int} (hx : Syms K x) : imgP K R (mirT K (2 * R + 1) T) x = (imgP K R T x.reverse).reverse := by
  refine List.ext_getElem (by simp [imgP_length]) fun i h1 h2 => ?_
  have h1' := h1
  rw [imgP_length] at h1'
  have e1 := imgP_getD K R (mirT K (2 * R + 1) T) x i h1'
  rw [List.getD_eq_getElem?_getD, List.getElem?_eq_getElem h1, Option.getD_some] at e1
  rw [e1, List.getElem_reverse]
  have hj : (imgP K R T x.reverse).length - 1 - i < x.reverse.length - 2 * R := by simp only [imgP_length, List.length_reverse]; omega
  have e2 := imgP_getD K R T x.reverse _ hj
  rw [List.getD_eq_getElem?_getD, List.getElem?_eq_getElem (show (imgP K R T x.reverse).length - 1 - i < (imgP K R T x.reverse).length by rw [imgP_length] at hj ⊢; exact hj), Option.getD_some] at e2
  rw [e2, mirT_at h.k1 h.len _ (syms_take (syms_drop hx _) _) (by simp; omega)]
  congr 2
  rw [imgP_length, List.length_reverse]
  refine List.ext_getElem (by simp; omega) fun j a b => ?_
  simp only [List.length_reverse, List.length_take, List.length_drop] at a b
  simp only [List.getElem_reverse, List.getElem_take, List.getElem_drop, List.length_take, List.length_drop]
  congr 1
  omega
theorem twins_rev {K R : Nat} {T T' : List Int} (hi : ∀ x, Syms K x → imgP K R T' x = (imgP K R T x.reverse).reverse) {a b : List Int} (t : IsTwins K R T' a b) : IsTwins K R T a.reverse b.reverse := by
  have hl := t.len
  have hw := t.low
  refine ⟨syms_rev t.sa, syms_rev t.sb, by simpa using hl, fun e => t.ne (List.reverse_inj.1 e), by simpa using hw, ?_, ?_, ?_⟩
  · rw [List.take_reverse, List.take_reverse, t.back]
  · rw [List.drop_reverse, List.drop_reverse, List.length_reverse, List.length_reverse, show a.length - (a.length - 2 * R) = 2 * R by omega, show b.length - (b.length - 2 * R) = 2 * R by omega, t.front]
  · have := t.img
    rw [hi a t.sa, hi b t.sb] at this
    exact List.reverse_inj.1 this
theorem twins_mir {K R : Nat} {T : List Int} (h : RuleOk K R T) {a b : List Int} : IsTwins K R (mirT K (2 * R + 1) T) a b ↔ IsTwins K R T a.reverse b.reverse := by
  constructor
  · exact twins_rev fun x hx => img_mir h hx
  · intro t
    have := twins_rev (T := mirT K (2 * R + 1) T) (fun x hx => by rw [img_mir h (syms_rev hx), List.reverse_reverse, List.reverse_reverse]) t
    rwa [List.reverse_reverse, List.reverse_reverse] at this
/-- Least lengths agree where twins of one rule give twins of the other, as long. -/
theorem twinLen_of {K R K' R' : Nat} {T T' : List Int} (f : ∀ a b, IsTwins K R T a b → ∃ c d, IsTwins K' R' T' c d ∧ c.length = a.length) (g : ∀ a b, IsTwins K' R' T' a b → ∃ c d, IsTwins K R T c d ∧ c.length = a.length) {n : Nat} (h : TwinLen K R T n) : TwinLen K' R' T' n := by
  obtain ⟨⟨a, b, t, e⟩, hm⟩ := h
  obtain ⟨c, d, t', e'⟩ := f a b t
  refine ⟨⟨c, d, t', by omega⟩, fun a b t => ?_⟩
  obtain ⟨c, d, t', e'⟩ := g a b t
  have := hm c d t'
  omega
theorem mir_twins {K R : Nat} {T : List Int} (h : RuleOk K R T) {a b : List Int} (t : IsTwins K R T a b) : IsTwins K R (mirT K (2 * R + 1) T) a.reverse b.reverse := (twins_mir h).2 (by rwa [List.reverse_reverse, List.reverse_reverse])
theorem twinLen_mir {K R : Nat} {T : List Int} (h : RuleOk K R T) {n : Nat} (t : TwinLen K R T n) : TwinLen K R (mirT K (2 * R + 1) T) n :=
  twinLen_of (fun a b t => ⟨_, _, mir_twins h t, by simp⟩) (fun a b t => ⟨_, _, (twins_mir h).1 t, by simp⟩) t
end Go.Proofs.YtmhiambkfdkkbaaGreatDoor

namespace Go.Proofs.YtmhiambkfdkkbaaGreatDoor

/-- The table with the radius R + d. -/
def wideT (K R d : Nat) (T : List Int) : List Int := (List.range (pw K (2 * (R + d) + 1))).map fun i => T.getD (numW K (((digs K (2 * (R + d) + 1) i).drop d).take (2 * R + 1))) 0
theorem wideT_length (K R d : Nat) (T : List Int) : (wideT K R d T).length = pw K (2 * (R + d) + 1) := by simp [wideT]
theorem wideT_ok {K R d : Nat} {T : List Int} (h : RuleOk K R T) (hd : R + d ≤ 3) : RuleOk K (R + d) (wideT K R d T) :=
  ⟨h.k1, h.k4, hd, wideT_length .., fun y hy => by
    obtain ⟨i, _, rfl⟩ := List.mem_map.1 hy
    exact h.syms.getD (by have := h.k1; omega) _⟩
theorem wideT_at {K R d : Nat} {T : List Int} (hK : 1 ≤ K) (w : List Int) (hw : Syms K w) (hl : w.length = 2 * (R + d) + 1) : (wideT K R d T).getD (numW K w) 0 = T.getD (numW K ((w.drop d).take (2 * R + 1))) 0 := by
  have hlt := numW_lt w hw
  rw [hl] at hlt
  have : (wideT K R d T).getD (numW K w) 0 = T.getD (numW K (((digs K (2 * (R + d) + 1) (numW K w)).drop d).take (2 * R + 1))) 0 := by simp [wideT, List.getD, hlt]
  rw [this, ← hl, digs_numW hK w hw]
/-- The image under the wider rule is that of the word without d symbols on both sides. -/
theorem img_wide {K R d : Nat} {T : List Int} (hK : 1 ≤ K) (x : List Int) (hx : Syms K x) : imgP K (R + d) (wideT K R d T) x = imgP K R T ((x.drop d).take (x.length - 2 * d)) := by
  refine List.ext_getElem (by rw [imgP_length, imgP_length]; simp; omega) fun i h1 h2 => ?_
  have e1 := imgP_getD K (R + d) (wideT K R d T) x i (by rw [imgP_length] at h1; exact h1)
  have e2 := imgP_getD K R T ((x.drop d).take (x.length - 2 * d)) i (by rw [imgP_length] at h2; exact h2)
  rw [imgP_length] at h1
  rw [List.getD_eq_getElem?_getD, List.getElem?_eq_getElem (by rw [imgP_length]; exact h1), Option.getD_some] at e1
  rw [List.getD_eq_getElem?_getD, List.getElem?_eq_getElem h2, Option.getD_some] at e2
  rw [e1, e2, wideT_at hK _ (syms_take (syms_drop hx i) _) (by simp; omega)]
  congr 2
  rw [List.drop_take, List.take_take, List.drop_drop, List.drop_take, List.drop_drop, List.take_take, Nat.add_comm d i]
  congr 1
  omega
/-- What has twins has them with a greater radius, and back. -/
theorem twins_wide {K R d : Nat} {T : List Int} (hK : 1 ≤ K) {a b : List Int} (h : IsTwins K R T a b) :
    ∃ a' b', IsTwins K (R + d) (wideT K R d T) a' b' := by
  have hlen := h.len
  have hz : Syms K (List.replicate (2 * (R + d)) 0) := fun y hy => by rw [List.eq_of_mem_replicate hy]; omega
  have sy : ∀ c, Syms K c → Syms K (List.replicate (2 * (R + d)) 0 ++ c ++ List.replicate (2 * (R + d)) 0) := fun c hc y hy => by
    rcases List.mem_append.1 hy with hy | hy
    · rcases List.mem_append.1 hy with hy | hy
      · exact hz y hy
      · exact hc y hy
    · exact hz y hy
  refine ⟨_, _, sy a h.sa, sy b h.sb, by simp [hlen], fun e => h.ne ?_, by simp only [List.length_append, List.length_replicate]; omega, ?_, ?_, ?_⟩
  · rw [List.append_assoc, List.append_assoc] at e
    exact List.append_cancel_right (List.append_cancel_left e)
  · rw [List.append_assoc, List.append_assoc, List.take_append_of_le_length (by simp), List.take_append_of_le_length (by simp)]
  · rw [List.drop_left' (by simp only [List.length_append, List.length_replicate]; omega), List.drop_left' (by simp only [List.length_append, List.length_replicate]; omega)]
  · rw [img_wide hK _ (sy a h.sa), img_wide hK _ (sy b h.sb)]
    have cut : ∀ c : List Int, ((List.replicate (2 * (R + d)) (0 : Int) ++ c ++ List.replicate (2 * (R + d)) 0).drop d).take ((List.replicate (2 * (R + d)) (0 : Int) ++ c ++ List.replicate (2 * (R + d)) 0).length - 2 * d) = List.replicate (2 * (R + d) - d) 0 ++ c ++ List.replicate (2 * (R + d) - d) 0 := fun c => by
      have hL : (List.replicate (2 * (R + d)) (0 : Int) ++ c ++ List.replicate (2 * (R + d)) 0).length = 4 * (R + d) + c.length := by simp only [List.length_append, List.length_replicate]; omega
      rw [hL, List.append_assoc, List.drop_append_of_le_length (by rw [List.length_replicate]; omega), List.drop_replicate, List.take_append, List.take_of_length_le (by rw [List.length_replicate]; omega), List.take_append, List.take_of_length_le (by rw [List.length_replicate]; omega), List.take_replicate, List.append_assoc]
      congr 3
      rw [List.length_replicate]; omega
    rw [cut a, cut b]
    exact h.context _ _
theorem wide_twins {K R d : Nat} {T : List Int} (hK : 1 ≤ K) {a b : List Int} (h : IsTwins K (R + d) (wideT K R d T) a b) :
    ∃ a' b', IsTwins K R T a' b' := by
  have hlen := h.len
  have hlow := h.low
  have hc : ∀ c : List Int, c.length = a.length → c = c.take d ++ ((c.drop d).take (c.length - 2 * d) ++ c.drop (c.length - d)) := fun c hc => by
    have e1 := List.take_append_drop d c
    have e2 := List.take_append_drop (c.length - 2 * d) (c.drop d)
    rw [List.drop_drop, show d + (c.length - 2 * d) = c.length - d by omega] at e2
    rw [e2, e1]
  have fr : a.take d = b.take d := by
    have := congrArg (List.take d) h.front
    rwa [List.take_take, List.take_take, Nat.min_eq_left (by omega)] at this
  have bk : a.drop (a.length - d) = b.drop (b.length - d) := by
    have := congrArg (List.drop (2 * (R + d) - d)) h.back
    rw [List.drop_drop, List.drop_drop] at this
    rwa [show a.length - 2 * (R + d) + (2 * (R + d) - d) = a.length - d by omega, show b.length - 2 * (R + d) + (2 * (R + d) - d) = b.length - d by omega] at this
  refine ⟨(a.drop d).take (a.length - 2 * d), (b.drop d).take (b.length - 2 * d), syms_take (syms_drop h.sa _) _, syms_take (syms_drop h.sb _) _, by simp; omega, fun e => h.ne ?_, by simp; omega, ?_, ?_, ?_⟩
  · rw [hc a rfl, hc b hlen.symm, fr, e, bk]
  · have := congrArg (fun l => (l.drop d).take (2 * R)) h.front
    simp only [List.drop_take, List.take_take] at this
    rw [List.take_take, List.take_take, Nat.min_eq_left (by omega), Nat.min_eq_left (by omega)]
    rwa [Nat.min_eq_left (by omega)] at this
  · have := congrArg (fun l => (l.drop d).take (2 * R)) h.back
    simp only [List.drop_drop] at this
    have e : ∀ c : List Int, c.length = a.length → ((c.drop d).take (c.length - 2 * d)).drop (((c.drop d).take (c.length - 2 * d)).length - 2 * R) = (c.drop (c.length - 2 * (R + d) + d)).take (2 * R) := fun c hc => by
      rw [List.drop_take, List.drop_drop]
      simp only [List.length_take, List.length_drop]
      rw [show d + (min (c.length - 2 * d) (c.length - d) - 2 * R) = c.length - 2 * (R + d) + d by omega]
      congr 1
      omega
    rw [e a rfl, e b hlen.symm]
    exact this
  · rw [← img_wide hK _ h.sa, ← img_wide hK _ h.sb]
    exact h.img
end Go.Proofs.YtmhiambkfdkkbaaGreatDoor

namespace Go.Proofs.YtmhiambkfdkkbaaGreatDoor

theorem sub_get {x : List Int} {i m j : Nat} (h : j < m) : ((x.drop i).take m).getD j 0 = x.getD (i + j) 0 := by
  simp [List.getD, h, List.getElem?_drop]
theorem ext_getD {a b : List Int} (hl : a.length = b.length) (h : ∀ t, t < a.length → a.getD t 0 = b.getD t 0) : a = b :=
  List.ext_getElem hl fun t h1 h2 => by have := h t h1; simpa [List.getD, h1, h2] using this
theorem ne_at {a b : List Int} (hl : a.length = b.length) (hne : a ≠ b) : ∃ j, j < a.length ∧ a.getD j 0 ≠ b.getD j 0 := by
  apply Classical.byContradiction
  intro h
  exact hne (ext_getD hl fun t ht => Classical.byContradiction fun q => h ⟨t, ht, q⟩)
theorem img_cut {K R : Nat} {T x : List Int} {i m : Nat} (h : i + m ≤ x.length) : imgP K R T ((x.drop i).take m) = ((imgP K R T x).drop i).take (m - 2 * R) := by
  have hl : ((x.drop i).take m).length = m := by simp; omega
  refine ext_getD (by simp only [imgP_length, hl, List.length_take, List.length_drop]; omega) fun t ht => ?_
  rw [imgP_length, hl] at ht
  rw [imgP_getD _ _ _ _ _ (by rw [hl]; exact ht), sub_get ht, imgP_getD _ _ _ _ _ (by omega)]
  congr 2
  rw [List.drop_take, List.take_take, List.drop_drop, Nat.min_eq_left (by omega)]

/-- Two words of 2 n + 1 symbols, unlike in the middle, with one image. -/
def Split (K R : Nat) (T : List Int) (n : Nat) : Prop := ∃ x y, Syms K x ∧ Syms K y ∧ x.length = 2 * n + 1 ∧ y.length = 2 * n + 1 ∧ x.getD n 0 ≠ y.getD n 0 ∧ imgP K R T x = imgP K R T y
def NotOne (K R : Nat) (T : List Int) : Prop := ∀ n, Split K R T n
theorem split_of {K R : Nat} {T x y : List Int} (sx : Syms K x) (sy : Syms K y) (hl : x.length = y.length) {j n : Nat} (h1 : n ≤ j) (h2 : j + n < x.length) (hne : x.getD j 0 ≠ y.getD j 0)
    (hi : imgP K R T ((x.drop (j - n)).take (2 * n + 1)) = imgP K R T ((y.drop (j - n)).take (2 * n + 1))) : Split K R T n :=
  ⟨_, _, syms_take (syms_drop sx _) _, syms_take (syms_drop sy _) _, by simp; omega, by simp; omega, by
    rw [sub_get (by omega), sub_get (by omega), show j - n + n = j by omega]; exact hne, hi⟩
theorem split_img {K R : Nat} {T x y : List Int} (sx : Syms K x) (sy : Syms K y) (hl : x.length = y.length) {j n : Nat} (h1 : n ≤ j) (h2 : j + n < x.length) (hne : x.getD j 0 ≠ y.getD j 0)
    (hi : imgP K R T x = imgP K R T y) : Split K R T n :=
  split_of sx sy hl h1 h2 hne (by rw [img_cut (by omega), img_cut (by omega), hi])
theorem Split.mono {K R : Nat} {T : List Int} {n m : Nat} (h : Split K R T n) (hm : m ≤ n) : Split K R T m := by
  obtain ⟨x, y, sx, sy, lx, ly, hne, hi⟩ := h
  exact split_img sx sy (by omega) (j := n) hm (by omega) hne hi
theorem pad_get {z a v : List Int} {n j : Nat} (hz : z.length = n) (hj : j < a.length) : (z ++ a ++ v).getD (n + j) 0 = a.getD j 0 := by
  subst hz
  rw [List.append_assoc, List.getD_eq_getElem?_getD, List.getElem?_append_right (by omega), Nat.add_sub_cancel_left, List.getElem?_append_left hj, ← List.getD_eq_getElem?_getD]
theorem syms_pad {K : Nat} (hK : 1 ≤ K) {a : List Int} (h : Syms K a) (n m : Nat) : Syms K (List.replicate n 0 ++ a ++ List.replicate m 0) := by
  intro y hy
  rcases List.mem_append.1 hy with hy | hy
  · rcases List.mem_append.1 hy with hy | hy
    · rw [List.eq_of_mem_replicate hy]; omega
    · exact h y hy
  · rw [List.eq_of_mem_replicate hy]; omega
theorem IsTwins.notOne {K R : Nat} {T a b : List Int} (hK : 1 ≤ K) (h : IsTwins K R T a b) : NotOne K R T := fun n => by
  obtain ⟨j, hj, hne⟩ := ne_at h.len h.ne
  have hl := h.len
  refine split_img (j := n + j) (syms_pad hK h.sa n n) (syms_pad hK h.sb n n) (by simp [hl]) (by omega) (by simp; omega) ?_ (h.context _ _)
  rw [pad_get (by simp) hj, pad_get (by simp) (by omega)]
  exact hne

theorem rev_mid {x : List Int} {n : Nat} (h : x.length = 2 * n + 1) : x.reverse.getD n 0 = x.getD n 0 := by
  rw [List.getD_eq_getElem?_getD, List.getElem?_reverse (by omega), show x.length - 1 - n = n by omega, ← List.getD_eq_getElem?_getD]
theorem split_rev {K R : Nat} {T T' : List Int} (hi : ∀ x, Syms K x → imgP K R T' x = (imgP K R T x.reverse).reverse) {n : Nat} (t : Split K R T' n) : Split K R T n := by
  obtain ⟨x, y, sx, sy, lx, ly, hne, e⟩ := t
  rw [hi x sx, hi y sy] at e
  exact ⟨_, _, syms_rev sx, syms_rev sy, by simpa using lx, by simpa using ly, by rwa [rev_mid lx, rev_mid ly], List.reverse_inj.1 e⟩
theorem notOne_mir {K R : Nat} {T : List Int} (h : RuleOk K R T) : NotOne K R (mirT K (2 * R + 1) T) ↔ NotOne K R T :=
  ⟨fun t n => split_rev (fun x hx => img_mir h hx) (t n), fun t n => split_rev (fun x hx => by rw [img_mir h (syms_rev hx), List.reverse_reverse, List.reverse_reverse]) (t n)⟩
theorem notOne_wide {K R d : Nat} {T : List Int} (hK : 1 ≤ K) : NotOne K (R + d) (wideT K R d T) ↔ NotOne K R T := by
  constructor
  · intro h n
    obtain ⟨x, y, sx, sy, lx, ly, hne, e⟩ := h (n + d)
    rw [img_wide hK x sx, img_wide hK y sy] at e
    refine ⟨_, _, syms_take (syms_drop sx d) _, syms_take (syms_drop sy d) _, by simp; omega, by simp; omega, ?_, e⟩
    rw [sub_get (by omega), sub_get (by omega), Nat.add_comm d n]
    exact hne
  · intro h n
    obtain ⟨x, y, sx, sy, lx, ly, hne, e⟩ := h n
    have mid : ∀ u : List Int, ((List.replicate d (0 : Int) ++ u ++ List.replicate d 0).drop d).take ((List.replicate d (0 : Int) ++ u ++ List.replicate d 0).length - 2 * d) = u := fun u => by
      rw [List.append_assoc, List.drop_left' (by simp), List.take_left' (by simp; omega)]
    refine Split.mono (n := n + d) ⟨_, _, syms_pad hK sx d d, syms_pad hK sy d d, by simp; omega, by simp; omega, ?_, ?_⟩ (by omega)
    · rw [Nat.add_comm n d, pad_get (by simp) (by omega), pad_get (by simp) (by omega)]
      exact hne
    · rw [img_wide hK _ (syms_pad hK sx d d), img_wide hK _ (syms_pad hK sy d d), mid, mid, e]

/-- Every word has a preimage. -/
def Onto (K R : Nat) (T : List Int) : Prop := ∀ y, Syms K y → ∃ x, Syms K x ∧ x.length = y.length + 2 * R ∧ imgP K R T x = y
def wordsL (K m : Nat) : List (List Int) := (List.range (pw K m)).map (digs K m)
theorem wordsL_len (K m : Nat) : (wordsL K m).length = pw K m := by simp [wordsL]
theorem mem_wordsL {K m : Nat} (hK : 1 ≤ K) {x : List Int} : x ∈ wordsL K m ↔ Syms K x ∧ x.length = m := by
  unfold wordsL
  rw [List.mem_map]
  constructor
  · rintro ⟨i, _, rfl⟩
    exact ⟨digs_syms hK _ _, digs_length ..⟩
  · rintro ⟨hx, rfl⟩
    exact ⟨numW K x, List.mem_range.2 (numW_lt x hx), digs_numW hK x hx⟩
theorem wordsL_nodup {K m : Nat} (hK : 1 ≤ K) : (wordsL K m).Nodup := by
  unfold wordsL
  refine List.pairwise_map.2 (List.Pairwise.imp_of_mem ?_ List.nodup_range)
  intro a b ha hb hne e
  have h := congrArg (numW K) e
  rw [numW_digs hK _ _ (List.mem_range.1 ha), numW_digs hK _ _ (List.mem_range.1 hb)] at h
  exact hne h
theorem pw_mul (K m k : Nat) : pw K (k * m) = pw K m ^ k := by
  induction k with
  | zero => simp [pw_zero]
  | succ k ih => rw [Nat.succ_mul, pw_add, ih, Nat.pow_succ]
theorem bernoulli (Q k : Nat) : Q ^ (k + 1) + (k + 1) * Q ^ k ≤ (Q + 1) ^ (k + 1) := by
  induction k with
  | zero => simp
  | succ k ih =>
    have h1 := Nat.mul_le_mul_right (Q + 1) ih
    rw [← Nat.pow_succ] at h1
    refine Nat.le_trans ?_ h1
    have e1 : Q ^ (k + 1 + 1) = Q ^ (k + 1) * Q := Nat.pow_succ ..
    have e2 : Q ^ (k + 1) = Q ^ k * Q := Nat.pow_succ ..
    have e3 : (Q ^ (k + 1) + (k + 1) * Q ^ k) * (Q + 1) = Q ^ (k + 1) * Q + Q ^ (k + 1) + ((k + 1) * (Q ^ k * Q) + (k + 1) * Q ^ k) := by
      rw [Nat.add_mul, Nat.mul_add, Nat.mul_one, Nat.mul_add, Nat.mul_one, Nat.mul_assoc]
    rw [e3, e1, ← e2, Nat.add_mul (k + 1) 1, Nat.one_mul]
    omega
theorem few (P C : Nat) (hP : 1 ≤ P) : ∃ k, (P - 1) ^ k * C < P ^ k := by
  obtain ⟨Q, rfl⟩ : ∃ Q, P = Q + 1 := ⟨P - 1, by omega⟩
  rw [Nat.add_sub_cancel]
  refine ⟨C * Q + 1, Nat.lt_of_lt_of_le ?_ (bernoulli Q (C * Q))⟩
  rcases Nat.eq_zero_or_pos Q with rfl | hQ
  · simp
  · have hp : 0 < Q ^ (C * Q) := Nat.pow_pos hQ
    have e : Q ^ (C * Q + 1) * C = Q ^ (C * Q) * (C * Q) := by rw [Nat.pow_succ, Nat.mul_assoc, Nat.mul_comm Q C]
    have e2 : (C * Q + 1) * Q ^ (C * Q) = Q ^ (C * Q) * (C * Q) + Q ^ (C * Q) := by rw [Nat.add_mul, Nat.one_mul, Nat.mul_comm]
    rw [e, e2]
    omega
/-- The words of k blocks and a rest, none of whose blocks is o. -/
def avoid (K m c : Nat) (o : List Int) : Nat → List (List Int)
  | 0 => wordsL K c
  | k + 1 => ((wordsL K m).erase o).flatMap fun b => (avoid K m c o k).map (b ++ ·)
theorem flatMap_len {α β : Type} (f : α → List β) (n : Nat) : ∀ (l : List α), (∀ a ∈ l, (f a).length = n) → (l.flatMap f).length = l.length * n
  | [], _ => by simp
  | a :: l, h => by
    rw [List.flatMap_cons, List.length_append, h a (by simp), flatMap_len f n l fun b hb => h b (by simp [hb]), List.length_cons, Nat.succ_mul, Nat.add_comm]
theorem avoid_len {K m c : Nat} {o : List Int} (ho : o ∈ wordsL K m) : ∀ k, (avoid K m c o k).length = (pw K m - 1) ^ k * pw K c
  | 0 => by simp [avoid, wordsL_len]
  | k + 1 => by
    rw [avoid, flatMap_len _ ((pw K m - 1) ^ k * pw K c) _ fun b _ => by rw [List.length_map, avoid_len ho k], List.length_erase_of_mem ho, wordsL_len, ← Nat.mul_assoc, Nat.mul_comm (pw K m - 1), ← Nat.pow_succ]
theorem mem_avoid {K m c : Nat} (hK : 1 ≤ K) {o : List Int} : ∀ (k : Nat) (y : List Int), Syms K y → y.length = k * m + c → (∀ i, i < k → (y.drop (i * m)).take m ≠ o) → y ∈ avoid K m c o k
  | 0, y, hy, hl, _ => (mem_wordsL hK).2 ⟨hy, by omega⟩
  | k + 1, y, hy, hl, h => by
    rw [avoid, List.mem_flatMap]
    rw [Nat.succ_mul] at hl
    refine ⟨y.take m, (List.mem_erase_of_ne (by simpa using h 0 (by omega))).2 ((mem_wordsL hK).2 ⟨syms_take hy _, by simp; omega⟩), List.mem_map.2 ⟨y.drop m, mem_avoid hK k _ (syms_drop hy _) (by simp; omega) fun i hi => ?_, List.take_append_drop ..⟩⟩
    have := h (i + 1) (by omega)
    rwa [Nat.succ_mul, Nat.add_comm, ← List.drop_drop] at this
/-- A rule that has no twins is onto. -/
theorem onto_of_no_twins {K R : Nat} {T : List Int} (h : RuleOk K R T) (hno : ∀ a b, ¬ IsTwins K R T a b) : Onto K R T := by
  intro o so
  apply Classical.byContradiction
  intro hor
  have hK := h.k1
  obtain ⟨k, hk⟩ := few (pw K o.length) (pw K (2 * R)) (pw_pos _ hK)
  have hom : o ∈ wordsL K o.length := (mem_wordsL hK).2 ⟨so, rfl⟩
  have hsub : (wordsL K (k * o.length)).map (fun u => imgP K R T (List.replicate (2 * R) 0 ++ u ++ List.replicate (2 * R) 0)) ⊆ avoid K o.length (2 * R) o k := by
    intro y hy
    obtain ⟨u, hu, rfl⟩ := List.mem_map.1 hy
    obtain ⟨su, lu⟩ := (mem_wordsL hK).1 hu
    have hpl : (List.replicate (2 * R) (0 : Int) ++ u ++ List.replicate (2 * R) 0).length = k * o.length + 4 * R := by simp only [List.length_append, List.length_replicate, lu]; omega
    refine mem_avoid hK k _ (imgP_syms hK h.syms) (by rw [imgP_length, hpl]; omega) fun i hi e => hor ?_
    have him : i * o.length + o.length ≤ k * o.length := by rw [← Nat.succ_mul]; exact Nat.mul_le_mul_right _ hi
    have hc := img_cut (K := K) (R := R) (T := T) (x := List.replicate (2 * R) (0 : Int) ++ u ++ List.replicate (2 * R) 0) (i := i * o.length) (m := o.length + 2 * R) (by rw [hpl]; omega)
    rw [Nat.add_sub_cancel, e] at hc
    exact ⟨_, syms_take (syms_drop (syms_pad hK su _ _) _) _, by rw [List.length_take, List.length_drop, hpl]; omega, hc⟩
  have hnd : ((wordsL K (k * o.length)).map (fun u => imgP K R T (List.replicate (2 * R) 0 ++ u ++ List.replicate (2 * R) 0))).Nodup := by
    refine List.pairwise_map.2 (List.Pairwise.imp_of_mem ?_ (wordsL_nodup hK))
    intro u v hu hv hne e
    obtain ⟨su, lu⟩ := (mem_wordsL hK).1 hu
    obtain ⟨sv, lv⟩ := (mem_wordsL hK).1 hv
    refine hno _ _ ⟨syms_pad hK su _ _, syms_pad hK sv _ _, by simp [lu, lv], fun e => hne ?_, by simp only [List.length_append, List.length_replicate]; omega, ?_, ?_, e⟩
    · rw [List.append_assoc, List.append_assoc] at e
      exact List.append_cancel_right (List.append_cancel_left e)
    · rw [List.append_assoc, List.append_assoc, List.take_left' (by simp), List.take_left' (by simp)]
    · rw [List.drop_left' (by simp only [List.length_append, List.length_replicate]; omega), List.drop_left' (by simp only [List.length_append, List.length_replicate]; omega)]
  have := nodup_sub hnd hsub
  rw [List.length_map, wordsL_len, avoid_len hom, pw_mul] at this
  omega
theorem onto_of_one {K R : Nat} {T : List Int} (h : RuleOk K R T) (hno : ¬ NotOne K R T) : Onto K R T :=
  onto_of_no_twins h fun _ _ t => hno (t.notOne h.k1)

theorem img_behind {K R1 R2 : Nat} {T1 T2 : List Int} (hK : 1 ≤ K) {x : List Int} (hx : Syms K x) : imgP K (R1 + R2) (behindT K R1 T1 R2 T2) x = imgP K R1 T1 (imgP K R2 T2 x) := by
  refine ext_getD (by simp only [imgP_length]; omega) fun t ht => ?_
  rw [imgP_length] at ht
  rw [imgP_getD _ _ _ _ _ ht, behindT_at hK _ (syms_take (syms_drop hx _) _) (by simp; omega), img_cut (by omega), imgP_getD _ _ _ _ _ (by rw [imgP_length]; omega), show 2 * (R1 + R2) + 1 - 2 * R2 = 2 * R1 + 1 by omega]
theorem notOne_behind {K R1 R2 : Nat} {T1 T2 : List Int} (h1 : RuleOk K R1 T1) (h2 : RuleOk K R2 T2) : NotOne K (R1 + R2) (behindT K R1 T1 R2 T2) ↔ NotOne K R1 T1 ∨ NotOne K R2 T2 := by
  have hK := h1.k1
  constructor
  · intro h
    by_cases ha : NotOne K R1 T1
    · exact .inl ha
    right
    obtain ⟨n0, hn0⟩ := Classical.not_forall.1 ha
    intro n
    obtain ⟨x, y, sx, sy, lx, ly, hne, e⟩ := h (n + n0)
    rw [img_behind hK sx, img_behind hK sy] at e
    have su := imgP_syms (K := K) hK h2.syms (R := R2) (w := x)
    have sv := imgP_syms (K := K) hK h2.syms (R := R2) (w := y)
    have lu := imgP_length K R2 T2 x
    have lv := imgP_length K R2 T2 y
    have hag : ∀ i, n0 ≤ i → i + n0 < (imgP K R2 T2 x).length → (imgP K R2 T2 x).getD i 0 = (imgP K R2 T2 y).getD i 0 := fun i hi hj =>
      Classical.byContradiction fun q => hn0 (split_img su sv (by omega) hi hj q e)
    refine split_of sx sy (by omega) (j := n + n0) (by omega) (by omega) hne ?_
    rw [img_cut (by omega), img_cut (by omega), show n + n0 - n = n0 by omega]
    refine ext_getD (by simp only [List.length_take, List.length_drop, lu, lv, lx, ly]) fun t ht => ?_
    have ht2 : t < 2 * n + 1 - 2 * R2 := by simp only [List.length_take] at ht; omega
    rw [sub_get ht2, sub_get ht2]
    exact hag _ (by omega) (by omega)
  · rintro (ha | hb)
    · by_cases hb : NotOne K R2 T2
      · intro n
        obtain ⟨x, y, sx, sy, lx, ly, hne, e⟩ := hb n
        exact ⟨x, y, sx, sy, lx, ly, hne, by rw [img_behind hK sx, img_behind hK sy, e]⟩
      · intro n
        obtain ⟨u, v, su, sv, lu, lv, hne, e⟩ := ha (n + 2 * R2)
        obtain ⟨x, sx, lx, ex⟩ := onto_of_one h2 hb u su
        obtain ⟨y, sy, ly, ey⟩ := onto_of_one h2 hb v sv
        have hex : ∃ j, n + 2 * R2 ≤ j ∧ j ≤ n + 4 * R2 ∧ x.getD j 0 ≠ y.getD j 0 := by
          apply Classical.byContradiction
          intro q
          apply hne
          rw [← ex, ← ey, imgP_getD _ _ _ _ _ (by omega), imgP_getD _ _ _ _ _ (by omega)]
          congr 2
          refine ext_getD (by simp; omega) fun t ht => ?_
          have ht2 : t < 2 * R2 + 1 := by simp only [List.length_take] at ht; omega
          rw [sub_get ht2, sub_get ht2]
          exact Classical.byContradiction fun q2 => q ⟨_, by omega, by omega, q2⟩
        obtain ⟨j, j1, j2, j3⟩ := hex
        exact split_img sx sy (by omega) (j := j) (by omega) (by omega) j3 (by rw [img_behind hK sx, img_behind hK sy, ex, ey, e])
    · intro n
      obtain ⟨x, y, sx, sy, lx, ly, hne, e⟩ := hb n
      exact ⟨x, y, sx, sy, lx, ly, hne, by rw [img_behind hK sx, img_behind hK sy, e]⟩
end Go.Proofs.YtmhiambkfdkkbaaGreatDoor

namespace Go.Proofs.YtmhiambkfdkkbaaGreatDoor
open Go.RowKit
set_option maxRecDepth 100000

theorem symbol_any (K R : Nat) (va : Option Addr) (vn vc : Nat) (T : List Int) (u : Value) (ys : List Int) (w : World) (h : IntsAt w (.slice va vn vc) T) (hr : RuleOk K R T) (hu : IntsAt w u ys) (hy : Syms K ys) (hyl : ys.length = 2 * R + 1) :
    Calls Tryz.prog 174 #[.agg #[.int .i64 K, .int .i64 R, .slice va vn vc], u] w (Ret1 (fun x _ => x = .int .i64 (T.getD (numW K ys) 0)) w) := by
  have hb0 := belowAlloc w (.cells #[.int .i64 K, .int .i64 R, .slice va vn vc] 24)
  have hR := hr.r3
  have hk1 := hr.k1
  have hk4 := hr.k4
  have l1 := hu.len
  have hb7 : ys.length ≤ 7 := by omega
  have hnl : numW K ys < T.length := by rw [hr.len, ← hyl]; exact numW_lt ys hy
  generalize hy0 : T.getD (numW K ys) 0 = y0
  replace hy0 := Lib.hid hy0
  replace hnl := Lib.hid hnl
  replace hyl := Lib.hid hyl
  replace h := Lib.hid (h.below hb0)
  replace hu := Lib.hid (hu.below hb0)
  replace hy := Lib.hid hy
  replace hr := Lib.hid hr
  obtain ⟨ua, un, uc, rfl⟩ := hu.out.shape
  go_enter Tryz.func174, Tryz.ntmps174
  go_wp2
  go_loop [5, 10] (fun n i => ∃ j : Nat, j ≤ ys.length ∧ i = .int .i64 j ∧ n = .int .i64 (numW K (ys.take j))) (fun _ i => ys.length - (intOf i).toNat)
  case atStart => exact ⟨0, by omega, rfl, rfl⟩
  case round =>
    obtain ⟨j, hj, rfl, rfl⟩ := hrel
    by_cases hjl : j < ys.length
    · have i1 := hu.out.idx j hjl
      have c1 := hu.out.cell j hjl
      have hx := hy.out ys[j] (by simp)
      have hn : Hid (numW K (ys.take (j + 1)) = numW K (ys.take j) * K + ys[j].toNat) := by
        show _ = _
        rw [take_snoc ys j hjl, numW_snoc]
      have hn2 : numW K (ys.take j) ≤ 16384 := by
        have h1 := numW_lt (ys.take j) (fun x hx => hy.out x (List.mem_of_mem_take hx))
        have h2 := pw_le hk1 hk4 (i := (ys.take j).length) (by simp; omega)
        omega
      generalize ys[j] = x at c1 hx hn
      generalize numW K (ys.take j) = N at hn hn2
      have hm1 : 0 ≤ (N : Int) * (K : Int) := Int.mul_nonneg (by omega) (by omega)
      have hm2 : (N : Int) * (K : Int) ≤ 65536 := by
        have : N * K ≤ 65536 := Nat.mul_le_mul hn2 hk4
        have h2 := Int.ofNat_le.2 this
        rw [Int.natCast_mul] at h2
        exact h2
      go_wp2
      go_round
      case rel => exact ⟨j + 1, by omega, by go_num, by rw [hn.out]; go_num⟩
      case measure => simp [intOf]; omega
    · obtain rfl : j = ys.length := by omega
      rw [List.take_length]
      have i2 := h.out.idx (numW K ys) hnl.out
      have c2 := h.out.cellD (numW K ys) hnl.out
      rw [hy0.out] at c2
      clear hy0 hnl
      generalize numW K ys = N at i2 c2
      go_wp2
      go_ret
      exact ⟨_, rfl, hb0, rfl⟩

end Go.Proofs.YtmhiambkfdkkbaaGreatDoor

namespace Go.Proofs.YtmhiambkfdkkbaaGreatDoor
open Go.RowKit
set_option maxRecDepth 100000

theorem leftS_lt {K : Nat} {T : List Int} (hK : 1 ≤ K) (node : Nat) (hn : node < T.length / K) (w : List Int) : (leftS K T node w).1 < T.length / K := by
  induction w with
  | nil => exact hn
  | cons y w ih =>
    have hf := fit_lt hK T (leftS K T node w).1 (T.length / K) y
    show (fit K T (leftS K T node w).1 (T.length / K) y * (T.length / K) + (leftS K T node w).1) / K < T.length / K
    rw [Nat.div_lt_iff_lt_mul hK]
    have h1 : (fit K T (leftS K T node w).1 (T.length / K) y + 1) * (T.length / K) ≤ K * (T.length / K) := Nat.mul_le_mul_right _ hf
    rw [Nat.succ_mul] at h1
    rw [Nat.mul_comm (T.length / K) K]
    omega

theorem run_makeI (C : Int) (n : Nat) (w : World) (hC : C = n) (hn : n ≤ 17592186044416) :
    ∃ v w', (Instr.makeSlice 22 (.int .i64 C) (.int .i64 C)).run Tryz.prog w = .ok v w' ∧ OwnI w.heap.size w' v (List.replicate n 0) ∧ Below w.heap.size w w' := by
  subst hC
  obtain ⟨i, hi, hz0, hz1, hz2⟩ := info_parts iInt
  obtain ⟨w', hrun, r1, r2⟩ := run_make_full (P := Tryz.prog) w w.heap.size 22 3 i (.int .i64 0) 1 uInts hi hz0 hz1 .i64 .i64 n (by rw [hz2]; omega) (by unfold maxLen; omega) (Nat.le_refl _)
  refine ⟨_, w', hrun, ?_, (Below.refl _ _).grown r2 (Nat.le_refl _) (by intro k hk; cases hk)⟩
  have e : (madeCells (Value.cells (.int .i64 0)) (n * 1)).toList = (List.replicate n (0 : Int)).map (Value.int .i64) := by
    rw [show Value.cells (.int .i64 0) = #[.int .i64 0] from rfl, toList_madeCells_one]; simp
  rw [e] at r1
  simpa [OwnI] using r1

/-- What is left of an owned slice from a place on. -/
theorem OwnI.post {B : Nat} {w : World} {v : Value} {xs : List Int} (h : OwnI B w v xs) (off : Nat) (ho : off ≤ xs.length) :
    ∃ dp dLen dCap, (∀ w', (Instr.slice 22 v (some (.int .i64 off)) none none).run Tryz.prog w' = .ok (.slice dp dLen dCap) w') ∧ dLen = xs.length - off ∧ (0 < xs.length - off → dp = some (valAt v off)) := by
  rcases h.2 with ⟨rfl, hn⟩ | ⟨g, cap, cur, rfl, hB, hg, hn, hm, hs, ht⟩
  · have hr : ∀ w', (Instr.slice 22 (.slice none 0 0) (some (.int .i64 off)) none none).run Tryz.prog w' = .ok (sliced none off 0 0 1) w' := by
      intro w'
      rw [run_slice_l w' 22 none 0 0 uIntsE .i64 off (by omega) (by omega), eInts, sInt]
      rfl
    exact ⟨_, _, _, hr, by omega, by intro hh; omega⟩
  · have hr : ∀ w', (Instr.slice 22 (.slice (some ⟨g, 0, none⟩) xs.length cap) (some (.int .i64 off)) none none).run Tryz.prog w' = .ok (sliced (some ⟨g, 0, none⟩) off xs.length cap 1) w' := by
      intro w'
      rw [run_slice_l w' 22 (some ⟨g, 0, none⟩) xs.length cap uIntsE .i64 off (by omega) (by omega), eInts, sInt]
      rfl
    refine ⟨_, _, _, hr, rfl, fun hh => ?_⟩
    rw [if_neg (by omega), valAt_row]
    simp [Addr.add]
    intro e; exact e.symm

end Go.Proofs.YtmhiambkfdkkbaaGreatDoor

namespace Go.Proofs.YtmhiambkfdkkbaaGreatDoor
open Go.RowKit
set_option maxRecDepth 100000

/-- The table of a function of windows. -/
def madeP (K n : Nat) (s : List Int → Int) (m : Nat) : List Int := (List.range m).map fun x => s (digs K n x)
theorem madeP_length (K n : Nat) (s : List Int → Int) (m : Nat) : (madeP K n s m).length = m := by simp [madeP]

theorem madeP_set (K n : Nat) (s : List Int → Int) (m P : Nat) (h : m < P) : (madeP K n s m ++ List.replicate (P - m) (0 : Int)).set m (s (digs K n m)) = madeP K n s (m + 1) ++ List.replicate (P - (m + 1)) 0 := by
  rw [List.set_append_right _ _ (by rw [madeP_length]; exact Nat.le_refl _), madeP_length, Nat.sub_self, show P - m = (P - (m + 1)) + 1 by omega, List.replicate_succ, List.set_cons_zero, madeP, madeP, List.range_succ, List.map_append, List.append_assoc]
  rfl

set_option maxHeartbeats 800000 in
theorem made_two0 (K R F : Nat) (c1 c2 : Value) (s : List Int → Int) (w : World) (hk1 : 1 ≤ K) (hk4 : K ≤ 4) (hR : R ≤ 3)
    (eg : ∀ args w, (callFunc F args).run Tryz.prog w = .ok (.enter F args) w)
    (hF : ∀ (v : Value) (ys : List Int) (w' : World), Below w.heap.size w w' → IntsAt w' v ys → Syms K ys → ys.length = 2 * R + 1 → Calls Tryz.prog F #[v, c1, c2] w' (Ret1 (fun x _ => x = .int .i64 (s ys)) w')) :
    Calls Tryz.prog 172 #[.int .i64 K, .int .i64 R, .func (.func F) #[] #[c1, c2]] w (Ret1 (fun x w' => ∃ a n c, x = .agg #[.int .i64 K, .int .i64 R, .slice a n c] ∧ OwnI w.heap.size w' (.slice a n c) (madeP K (2 * R + 1) s (pw K (2 * R + 1)))) w) := by
  have hpl := pw_le hk1 hk4 (i := 2 * R + 1) (by omega)
  replace hF := Lib.hid hF
  go_enter Tryz.func172, Tryz.ntmps172
  go_wp2_with fail
  refine (size_ok K R _ hk1 hk4 hR).mono ?_
  rintro e w' ⟨rfl, rfl⟩
  go_wp2_with fail
  have hb0 := belowAlloc w (.cells #[.int .i64 0, .int .i64 0, .slice none 0 0] 24)
  obtain ⟨tv, w1, hmk, ho1, hb1⟩ := run_makeI ((pw K (2 * R + 1) : Nat) : Int) (pw K (2 * R + 1)) (w.alloc (.cells #[.int .i64 0, .int .i64 0, .slice none 0 0] 24)) rfl (by omega)
  obtain ⟨ta, tn, tc, rfl⟩ := ho1.at.shape
  rw [hmk]
  simp only [Result.andThen]
  clear hmk
  generalize hN : 2 * R + 1 = N at *
  go_wp2_with fail
  obtain ⟨wv, w2, hmk2, ho2, hb2⟩ := run_makeI (2 * (R : Int) + 1) N (w1.alloc (.cells #[.int .i64 K, .int .i64 R, .slice ta tn tc] 24)) (by omega) (by omega)
  obtain ⟨wa, wn, wc, rfl⟩ := ho2.at.shape
  rw [hmk2]
  simp only [Result.andThen]
  clear hmk2
  obtain ⟨z0, z1, z2, -, -, -⟩ := cells3 hb2
  have lt := (ho1.at.len)
  rw [List.length_replicate] at lt
  have hN7 : N ≤ 7 := by omega
  replace hN := Lib.hid hN
  have ltb : ∀ k, (Value.slice ta tn tc).ownBlock = some k → k < w1.heap.size := fun k hk => (ho1.lt k hk).2
  have lwn := ho2.at.len
  rw [List.length_replicate] at lwn
  have ho1' := Lib.hid ((ho1.alloc (.cells #[.int .i64 K, .int .i64 R, .slice ta tn tc] 24)).below hb2)
  have zz := Lib.hid (And.intro z0 (And.intro z1 z2))
  have hbw := Lib.hid (hb1.trans ((Below.step (belowAlloc w1 (.cells #[.int .i64 K, .int .i64 R, .slice ta tn tc] 24)) hb2).mono hb1.size))
  replace ho2 := Lib.hid ho2
  replace ltb := Lib.hid ltb
  have hsz1 := hb1.size
  simp at hsz1
  have hM : pw K N = pw K N := rfl
  clear hM
  go_wp2
  go_loopw [32] (fun i wr => ∃ m : Nat, m ≤ pw K N ∧ i = .int .i64 m ∧ OwnI (w.heap.size + 1) wr (.slice ta tn tc) (madeP K N s m ++ List.replicate (pw K N - m) 0) ∧ (∃ p : List Int, p.length = N ∧ OwnI (w1.heap.size + 1) wr (.slice wa wn wc) p) ∧
      (wr.cell? ⟨w1.heap.size, 0, none⟩ = some (.int .i64 K) ∧ wr.cell? ⟨w1.heap.size, 1, none⟩ = some (.int .i64 R) ∧ wr.cell? ⟨w1.heap.size, 2, none⟩ = some (.slice ta tn tc)) ∧
      Below (w.heap.size + 1) (w.alloc (.cells #[.int .i64 0, .int .i64 0, .slice none 0 0] 24)) wr) (fun i _ => pw K N - (intOf i).toNat)
  case atStart => exact ⟨0, by omega, rfl, by simpa [madeP] using ho1'.out, ⟨List.replicate N 0, by simp, by simpa using ho2.out⟩, zz.out, by simpa using hbw.out⟩
  case round =>
    obtain ⟨m, hm, rfl, hT, ⟨p, hp, hP⟩, hz, hbO⟩ := hrel
    obtain ⟨wo, rfl⟩ : ∃ wo : World, wo = wr := ⟨_, rfl⟩
    replace hz := Lib.hid hz
    replace hT := Lib.hid hT
    by_cases hml : m < pw K N
    · have hsz2 : w1.heap.size < wo.heap.size := World.block_lt_of_cell? _ _ hz.out.1
      have hK0 : ((K : Int) == 0) = false := by rw [beq_eq_false_iff_ne]; omega
      have hK1 : ¬ (K : Int) = 0 := by omega
      have hK2 : (0 : Int) < K := by omega
      go_wp2
      go_loopw [12, 38] (fun x i wr => ∃ j : Nat, j ≤ N ∧ i = .int .i64 j ∧ x = .int .i64 (m / pw K j : Nat) ∧ OwnI (w1.heap.size + 1) wr (.slice wa wn wc) (p.take (N - j) ++ (digs K N m).drop (N - j)) ∧ Below (w1.heap.size + 1) wo wr) (fun _ i _ => N - (intOf i).toNat)
      case atStart => exact ⟨0, by omega, rfl, by simp [pw], by rw [Nat.sub_zero, List.drop_of_length_le (by rw [digs_length]; exact Nat.le_refl _), List.append_nil, List.take_of_length_le (by omega)]; exact hP, Below.refl _ _⟩
      case round =>
        obtain ⟨j, hj, rfl, rfl, hO, hbI⟩ := hrel
        obtain ⟨wi, rfl⟩ : ∃ wi : World, wi = wr := ⟨_, rfl⟩
        by_cases hjl : j < N
        · have hXl : (p.take (N - j) ++ (digs K N m).drop (N - j)).length = N := by simp [digs_length]; omega
          have i1 : ∀ w', (Instr.indexAt 22 (.slice wa wn wc) (.int .i64 ((N : Int) - 1 - (j : Int)))).run Tryz.prog w' = .ok (.pointer (some (valAt (.slice wa wn wc) (N - 1 - j)))) w' := by
            intro w'
            have := hO.at.idxI ((N : Int) - 1 - (j : Int)) (by omega) (by rw [hXl]; omega) w'
            rwa [show ((N : Int) - 1 - (j : Int)).toNat = N - 1 - j by omega] at this
          have c1 := hO.at.cellD (N - 1 - j) (by rw [hXl]; omega)
          have f1 := hO.frz (N - 1 - j) (by rw [hXl]; omega)
          have hS := hO.set (N - 1 - j) (by rw [hXl]; omega) ((m / pw K j % K : Nat) : Int)
          have hbS := hO.setBelow hbI (N - 1 - j) (by rw [hXl]; omega) (.int .i64 ((m / pw K j % K : Nat) : Int))
          rw [digs_fill K N m j hjl p hp] at hS
          replace hS := Lib.hid hS
          replace hbS := Lib.hid hbS
          have hqd : m / pw K j / K = m / pw K (j + 1) := by rw [Nat.div_div_eq_div_mul, ← pw_succ]
          replace hqd := Lib.hid hqd
          have hql : m / pw K j ≤ 16384 := Nat.le_trans (Nat.div_le_self _ _) (by omega)
          generalize (p.take (N - j) ++ (digs K N m).drop (N - j)).getD (N - 1 - j) 0 = y at c1
          clear hXl hO
          generalize m / pw K j = q at *
          rw [Int.natCast_emod] at hS hbS
          have hd0 : 0 ≤ (q : Int) / (K : Int) := Int.ediv_nonneg (by omega) (by omega)
          have hd1 : (q : Int) / (K : Int) ≤ 16384 := by
            have h1 : q / K ≤ q := Nat.div_le_self _ _
            have h2 : q / K ≤ 16384 := by omega
            exact_mod_cast h2
          have hdw : IntKind.i64.wrap ((q : Int) / (K : Int)) = (q : Int) / (K : Int) := wrapK (by omega) (by omega)
          go_wp2
          go_roundw
          case rel => exact ⟨j + 1, by omega, by go_num, by rw [← hqd.out]; simp, hS.out, hbS.out⟩
          case measure => simp [intOf]; omega
        · have hjN : j = N := by omega
          subst hjN
          rw [Nat.sub_self, List.take_zero, List.drop_zero, List.nil_append] at hO
          have hbW : Below w.heap.size w wi := ((belowAlloc w _).trans (hbO.mono (by omega))).trans (hbI.mono (by omega))
          have hz2 := hbI.cell (p := ⟨w1.heap.size, 2, none⟩) (by simp)
          have hTl : m < (madeP K j s m ++ List.replicate (pw K j - m) (0 : Int)).length := by simp [madeP_length]; omega
          have hTi := hT.out.belowB hbI (fun k hk => by have := ltb.out k hk; omega)
          have i2 := hTi.at.idx m hTl
          have c2 := hTi.at.cellD m hTl
          have f2 := hTi.frz m hTl
          have b2 := hTi.at.blk m hTl
          have z2i := hz2.trans hz.out.2.2
          have zbi : (⟨w1.heap.size, 2, none⟩ : Addr).block < wi.heap.size := World.block_lt_of_cell? _ _ z2i
          generalize (madeP K j s m ++ List.replicate (pw K j - m) (0 : Int)).getD m 0 = o at c2
          replace hTi := Lib.hid hTi
          replace hO := Lib.hid hO
          replace hbW := Lib.hid hbW
          replace hTl := Lib.hid hTl
          clear hz2
          have hvb : (valAt (.slice ta tn tc) m).block ≠ w1.heap.size := by
            have := ltb.out _ (hT.out.toV.blkB m (by simpa using hTl.out)).1
            omega
          have hdl : m + 1 ≤ pw K j := hml
          go_wp2
          go_region_held3 (fun w' => w'.cell? ⟨w1.heap.size, 2, none⟩ = some (.slice ta tn tc)) (go_keep)
            (first | (refine (hF.out _ (digs K j m) _ (by first | exact hbW.out.drew | exact hbW.out) (by first | exact hO.out.at.drew | exact hO.out.at) (digs_syms hk1 _ _) (by rw [digs_length])).mono ?_; rintro e w5 ⟨x5, rfl, hb5, rfl⟩; have y1 := (hb5.cell zbi).trans z2i; have y2 := (hb5.cell b2).trans c2; have y3 := (hb5.frozen b2).trans f2; have bb : Below wi.heap.size wi w5 := ((Below.refl _ _).drew).trans hb5))
          have hT5 := (hTi.out.drew.below hb5).set m hTl.out (s (digs K j m))
          rw [madeP_set K j s m _ hml] at hT5
          have hO5 := (hO.out.drew.below hb5).setOther (hTi.out.drew.below hb5) (by
            intro e
            have e1 := (hT.out.toV.blkB m (by simpa using hTl.out)).1
            have e2 := (hO.out.lt _ (e.trans e1)).1
            have e3 := ltb.out _ e1
            omega) m hTl.out (.int .i64 (s (digs K j m)))
          have hB5 := ((hbO.trans (hbI.mono (by omega))).trans (bb.mono (by omega))).setCell ((hTi.out.blkB m hTl.out)) (.int .i64 (s (digs K j m)))
          have x0 := (World.cell?_setCell_far w5 (valAt (.slice ta tn tc) m) ⟨w1.heap.size, 0, none⟩ (.int .i64 (s (digs K j m))) hvb).trans (((bb.cell (p := ⟨w1.heap.size, 0, none⟩) zbi)).trans ((hbI.cell (p := ⟨w1.heap.size, 0, none⟩) (by simp)).trans hz.out.1))
          have x1 := (World.cell?_setCell_far w5 (valAt (.slice ta tn tc) m) ⟨w1.heap.size, 1, none⟩ (.int .i64 (s (digs K j m))) hvb).trans (((bb.cell (p := ⟨w1.heap.size, 1, none⟩) zbi)).trans ((hbI.cell (p := ⟨w1.heap.size, 1, none⟩) (by simp)).trans hz.out.2.1))
          have x2 := (World.cell?_setCell_far w5 (valAt (.slice ta tn tc) m) ⟨w1.heap.size, 2, none⟩ (.int .i64 (s (digs K j m))) hvb).trans y1
          have xx := Lib.hid (And.intro x0 (And.intro x1 x2))
          clear x0 x1 x2
          replace hT5 := Lib.hid hT5
          replace hO5 := Lib.hid hO5
          replace hB5 := Lib.hid hB5
          go_wp2
          go_roundw
          case rel => exact ⟨m + 1, by omega, by go_num, hT5.out, ⟨digs K j m, digs_length .., hO5.out⟩, xx.out, hB5.out⟩
          case measure => simp [intOf]; omega
    · obtain rfl : m = pw K N := by omega
      rw [Nat.sub_self, List.replicate_zero, List.append_nil] at hT
      obtain ⟨z0, z1, z2⟩ := hz.out
      obtain ⟨y0, y1, y2, f0, f1, f2⟩ := cells3 (w := w) (show Below (w.alloc (.cells #[.int .i64 0, .int .i64 0, .slice none 0 0] 24)).heap.size _ wo by simpa using hbO)
      replace hbO := Lib.hid hbO
      go_wp2
      refine bodyPost_ret (v := .agg #[.int .i64 K, .int .i64 R, .slice ta tn tc]) (by simp [results, Tryz.results172, go_sem, y0, y1, y2]) rfl ⟨_, rfl, ?_, ta, tn, tc, rfl, ?_⟩
      · exact (((belowAlloc w _).trans (hbO.out.mono (by omega))).setCell (by simp) _).setCell (by simp) _ |>.setCell (by simp) _
      · rw [hN.out]; exact (((hT.out.setBelowBase (a := ⟨w.heap.size, 0, none⟩) (by simp) _).setBelowBase (a := ⟨w.heap.size, 1, none⟩) (by simp) _).setBelowBase (a := ⟨w.heap.size, 2, none⟩) (by simp) _).mono (Nat.le_succ _)

theorem made_two (K R F : Nat) (c1 c2 : Value) (s : List Int → Int) (w : World) (hk1 : 1 ≤ K) (hk4 : K ≤ 4) (hR : R ≤ 3) (Ri : Int) (hRi : Ri = R)
    (eg : ∀ args w, (callFunc F args).run Tryz.prog w = .ok (.enter F args) w)
    (hF : ∀ (v : Value) (ys : List Int) (w' : World), Below w.heap.size w w' → IntsAt w' v ys → Syms K ys → ys.length = 2 * R + 1 → Calls Tryz.prog F #[v, c1, c2] w' (Ret1 (fun x _ => x = .int .i64 (s ys)) w')) :
    Calls Tryz.prog 172 #[.int .i64 K, .int .i64 Ri, .func (.func F) #[] #[c1, c2]] w (Ret1 (fun x w' => ∃ a n c, x = .agg #[.int .i64 K, .int .i64 R, .slice a n c] ∧ OwnI w.heap.size w' (.slice a n c) (madeP K (2 * R + 1) s (pw K (2 * R + 1)))) w) := by
  subst hRi
  exact made_two0 K R F c1 c2 s w hk1 hk4 hR eg hF
end Go.Proofs.YtmhiambkfdkkbaaGreatDoor

namespace Go.Proofs.YtmhiambkfdkkbaaGreatDoor
open Go.RowKit
set_option maxRecDepth 100000

abbrev zR : Value := .agg #[.int .i64 0, .int .i64 0, .slice none 0 0]
def sForms : ByteArray := ⟨#[102, 111, 114, 109, 115]⟩
theorem madeP_behind (K R1 : Nat) (T1 : List Int) (R2 : Nat) (T2 : List Int) :
    madeP K (2 * (R1 + R2) + 1) (fun ys => T1.getD (numW K (imgP K R2 T2 ys)) 0) (pw K (2 * (R1 + R2) + 1)) = behindT K R1 T1 R2 T2 := rfl

theorem forms_wrong (r : Nat → Addr) (at_ n : Int) (w : World) (hg : Glob r w) (h1 : 1 ≤ n) (h2 : n ≤ 11) :
    Calls Tryz.prog 142 #[.int .i64 at_, .int .i64 n] w (Ret1 (fun v w' => ErrIs r w' (fresh sForms at_ n) v) w) := by
  go_enter Tryz.func142, Tryz.ntmps142
  go_wp2_with fail
  refine (new_any r _ at_ n w hg h1 h2).mono ?_
  rintro e w' ⟨v, rfl, hb, he⟩
  go_wp2
  go_ret
  exact ⟨_, rfl, hb, he⟩

theorem forms_check (r : Nat → Addr) (at_ : Int) (k R : Int) (va : Option Addr) (vn vc : Nat) (xs : List Int) (w : World) (hg : Glob r w) (h : IntsAt w (.slice va vn vc) xs) :
    Calls Tryz.prog 141 #[.int .i64 at_, .agg #[.int .i64 k, .int .i64 R, .slice va vn vc]] w (Ret1 (fun x w' => ErrIs r w' (under sForms at_ (checkP k R xs)) x) w) := by
  have hb0 := belowAlloc w (.cells #[.int .i64 k, .int .i64 R, .slice va vn vc] 24)
  replace hg := Lib.hid (hg.below hb0)
  replace h := Lib.hid (h.below hb0)
  go_enter Tryz.func141, Tryz.ntmps141
  go_wp2_with fail
  refine (check_any r k R _ xs _ hg.out h.out).mono ?_
  rintro e w1 ⟨x, rfl, hb, he⟩
  go_wp2_with fail
  refine (under_any r _ _ _ _ _ he).mono ?_
  rintro e w2 ⟨x, rfl, hb', he⟩
  go_wp2
  go_ret
  exact ⟨_, rfl, Below.step hb0 (Below.step hb hb'), he⟩

/-- forms.Compose's fault. -/
def composeP (k R : Int) (T : List Int) (k' R' : Int) (T' : List Int) : PErr :=
  match checkP k R T with
  | some t => under sForms 0 (some t)
  | none => match checkP k' R' T' with
    | some t => under sForms 1 (some t)
    | none => if k ≠ k' then fresh sForms 1 3 else if 3 < R + R' then fresh sForms 0 4 else none


/-- Two rules boxed, and a result's variable: their cells stay. -/
theorem cells9 {w w1 : World} {x0 x1 x2 x3 x4 x5 x6 x7 x8 : Value} {T1 T2 T3 : TypeId} (hb : Below (((w.alloc (.cells #[x0, x1, x2] T1)).alloc (.cells #[x3, x4, x5] T2)).alloc (.cells #[x6, x7, x8] T3)).heap.size (((w.alloc (.cells #[x0, x1, x2] T1)).alloc (.cells #[x3, x4, x5] T2)).alloc (.cells #[x6, x7, x8] T3)) w1) :
    (w1.cell? ⟨w.heap.size, 0, none⟩ = some x0 ∧ w1.cell? ⟨w.heap.size, 1, none⟩ = some x1 ∧ w1.cell? ⟨w.heap.size, 2, none⟩ = some x2) ∧
    (w1.cell? ⟨w.heap.size + 1, 0, none⟩ = some x3 ∧ w1.cell? ⟨w.heap.size + 1, 1, none⟩ = some x4 ∧ w1.cell? ⟨w.heap.size + 1, 2, none⟩ = some x5) ∧
    (w1.cell? ⟨w.heap.size + 1 + 1, 0, none⟩ = some x6 ∧ w1.cell? ⟨w.heap.size + 1 + 1, 1, none⟩ = some x7 ∧ w1.cell? ⟨w.heap.size + 1 + 1, 2, none⟩ = some x8) ∧
    (w1.frozen? ⟨w.heap.size + 1 + 1, 0, none⟩ = false ∧ w1.frozen? ⟨w.heap.size + 1 + 1, 1, none⟩ = false ∧ w1.frozen? ⟨w.heap.size + 1 + 1, 2, none⟩ = false) := by
  refine ⟨keep3 (n := w.heap.size) hb ⟨by simp [go_sem], by simp [go_sem], by simp [go_sem]⟩, keep3 (n := w.heap.size + 1) hb ⟨by simp [go_sem], by simp [go_sem], by simp [go_sem]⟩, ?_⟩
  have := cells3 hb
  rw [show ((w.alloc (.cells #[x0, x1, x2] T1)).alloc (.cells #[x3, x4, x5] T2)).heap.size = w.heap.size + 1 + 1 by simp] at this
  exact ⟨⟨this.1, this.2.1, this.2.2.1⟩, this.2.2.2⟩

end Go.Proofs.YtmhiambkfdkkbaaGreatDoor
