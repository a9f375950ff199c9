/-
  Plain mathematics of layer 19: rules that permute at one end.
  Walks: package permut.
  Walks: permut.check, permut.fits.
  Walk: permut.Right.
  Walk: permut.Left.
  Walk: slices.Repeat of a list of one number.
  Plain mathematics: numbers given one after another, as new ones come.
  A map from ints to ints that the call made: what is looked up, stored; how many keys it has (the kit's laws on maps, at these types).
  edenraw.Err in memory; walks: edenraw.Root, New, Under, (Err).Bad.
  Walk: edenraw.Under at an error.
  Walks: errors.Is and errors.As at a chain of Faults; the model's entries for internal/reflectlite at this program's types (after the kit's worked example Toyas).
  The model's entries for internal/reflectlite at a *api.Fault and at the address of a variable of that type (after the kit's worked example Toyas).
  Walk: errors.As at a Fault (after the kit's worked example Toyas).
  Walk: edenraw.Is at an error that is what it must be.
  Walk: graph.Parts.
  Lists of ints of one's own: a row of slices, each a row of its own; what a new list, an append, a store does to them.
-/
import Derived.Test.YtmhiambkfdkkbaaDoorMIc2
import Derived.Deep.RegionHeld3
import Derived.BigQuiet
import Derived.Deep.QuietTactic
import Derived.Deep.DeepCutAuto
import Derived.Ground.NamesProg
import Derived.Shelf.Bits.Mul64
import Derived.Maps.OwnSet
import Derived.Deep.RegionLawGrows
import Derived.LaidEql
import Derived.Stop.Asserts
import Derived.RowKitTokens
import Derived.Deep.LoopGhost
import Derived.WalkArith
namespace Go.Proofs.YtmhiambkfdkkbaaDoor

def sPermut : ByteArray := ⟨#[112, 101, 114, 109, 117, 116]⟩

/-- The symbols seen in a group of windows, as bits. -/
def seenP (T : List Int) (W i : Nat) : Nat → Nat
  | 0 => 0
  | s + 1 => seenP T W i s ||| 2 ^ (T.getD (i + s * W) 0).toNat
theorem seenP_lt {K : Nat} (hK : 1 ≤ K) {T : List Int} (h : Syms K T) (W i s : Nat) : seenP T W i s < 2 ^ K := by
  induction s with
  | zero => exact Nat.two_pow_pos K
  | succ s ih =>
    have := h.getD (by omega) (i + s * W)
    exact Nat.or_lt_two_pow ih (Nat.pow_lt_pow_right (by decide) (by omega))
theorem two_pow_K {K : Nat} (h : K ≤ 4) : 2 ^ K ≤ 16 := by
  have : K = 0 ∨ K = 1 ∨ K = 2 ∨ K = 3 ∨ K = 4 := by omega
  rcases this with rfl | rfl | rfl | rfl | rfl <;> decide

/-- The group of window i. -/
def fullP (K : Nat) (T : List Int) (W i : Nat) : Bool := seenP T W i K == 2 ^ K - 1
/-- permut.unlike's answer. -/
def unlikeP (K : Nat) (T : List Int) (W : Nat) : Bool := (List.range T.length).all fun i => i / W % K != 0 || fullP K T W i
theorem unlikeP_true {K : Nat} {T : List Int} {W : Nat} (h : ∀ i, i < T.length → i / W % K = 0 → fullP K T W i = true) : unlikeP K T W = true := by
  rw [unlikeP, List.all_eq_true]
  intro i hi
  have hi' := List.mem_range.1 hi
  by_cases c : i / W % K = 0
  · simp [h i hi' c]
  · simp [c]
theorem unlikeP_false {K : Nat} {T : List Int} {W : Nat} (i : Nat) (hi : i < T.length) (hm : i / W % K = 0) (h : fullP K T W i = false) : unlikeP K T W = false := by
  rw [unlikeP, List.all_eq_false]
  exact ⟨i, List.mem_range.2 hi, by simp [hm, h]⟩
theorem unlikeP_full {K : Nat} {T : List Int} {W : Nat} (h : unlikeP K T W = true) (i : Nat) (hi : i < T.length) (hm : i / W % K = 0) : fullP K T W i = true := by
  rw [unlikeP, List.all_eq_true] at h
  have := h i (List.mem_range.2 hi)
  simpa [hm] using this

/-- A bit is seen just if a symbol is. -/
theorem seenP_bit {K : Nat} {T : List Int} (hK : 1 ≤ K) (h : Syms K T) (W i s y : Nat) : (seenP T W i s).testBit y = true ↔ ∃ t, t < s ∧ T.getD (i + t * W) 0 = y := by
  induction s with
  | zero => simp [seenP]
  | succ s ih =>
    have hx := h.getD (by omega) (i + s * W)
    rw [seenP, Nat.testBit_or, Bool.or_eq_true, ih, Nat.testBit_two_pow]
    constructor
    · rintro (⟨t, ht, e⟩ | e)
      · exact ⟨t, by omega, e⟩
      · rw [decide_eq_true_iff] at e; exact ⟨s, by omega, by omega⟩
    · rintro ⟨t, ht, e⟩
      by_cases c : t = s
      · subst c; right; rw [decide_eq_true_iff]; omega
      · left; exact ⟨t, by omega, e⟩

/-- In a full group each symbol stands. -/
theorem fullP_all {K : Nat} {T : List Int} (hK : 1 ≤ K) (h : Syms K T) {W i : Nat} (hf : fullP K T W i = true) (y : Nat) (hy : y < K) : ∃ t, t < K ∧ T.getD (i + t * W) 0 = y := by
  have e : seenP T W i K = 2 ^ K - 1 := by simpa [fullP] using hf
  rw [← seenP_bit hK h, e, Nat.testBit_two_pow_sub_one]
  simpa using hy

/-- permut.fits' answer. -/
def fitP (T : List Int) (rest W : Nat) (image : Int) : Nat → Nat → Nat
  | 0, _ => 0
  | n + 1, s => if T.getD (rest + s * W) 0 = image then s else fitP T rest W image n (s + 1)
def fit (K : Nat) (T : List Int) (rest W : Nat) (image : Int) : Nat := fitP T rest W image K 0
theorem fitP_lt (T : List Int) (rest W : Nat) (image : Int) (n s : Nat) (h : 0 < s + n) : fitP T rest W image n s < s + n := by
  induction n generalizing s with
  | zero => exact h
  | succ n ih =>
    rw [fitP]
    split
    · omega
    · have := ih (s + 1) (by omega); omega
theorem fit_lt {K : Nat} (hK : 1 ≤ K) (T : List Int) (rest W : Nat) (image : Int) : fit K T rest W image < K := by
  have := fitP_lt T rest W image K 0 (by omega); simpa [fit] using this
theorem fitP_at (T : List Int) (rest W : Nat) (image : Int) (n s k : Nat) (hk : k < n) (h : T.getD (rest + (s + k) * W) 0 = image) (hj : ∀ j, j < k → T.getD (rest + (s + j) * W) 0 ≠ image) : fitP T rest W image n s = s + k := by
  induction n generalizing s k with
  | zero => omega
  | succ n ih =>
    rw [fitP]
    by_cases c : k = 0
    · subst c; rw [if_pos (by simpa using h)]; rfl
    · have := hj 0 (by omega)
      rw [if_neg (by simpa using this), ih (s + 1) (k - 1) (by omega) (by rw [show s + 1 + (k - 1) = s + k by omega]; exact h) (fun j hj' => by rw [show s + 1 + j = s + (j + 1) by omega]; exact hj (j + 1) (by omega))]
      omega
theorem fit_at {K : Nat} (T : List Int) (rest W : Nat) (image : Int) (k : Nat) (hk : k < K) (h : T.getD (rest + k * W) 0 = image) (hj : ∀ j, j < k → T.getD (rest + j * W) 0 ≠ image) : fit K T rest W image = k := by
  have := fitP_at T rest W image K 0 k hk (by simpa using h) (by simpa using hj)
  simpa [fit] using this
theorem fitP_none (T : List Int) (rest W : Nat) (image : Int) (n s : Nat) (hj : ∀ j, j < n → T.getD (rest + (s + j) * W) 0 ≠ image) : fitP T rest W image n s = 0 := by
  induction n generalizing s with
  | zero => rfl
  | succ n ih =>
    rw [fitP, if_neg (by simpa using hj 0 (by omega))]
    exact ih (s + 1) (fun j h => by rw [show s + 1 + j = s + (j + 1) by omega]; exact hj (j + 1) (by omega))
theorem fit_none {K : Nat} (T : List Int) (rest W : Nat) (image : Int) (hj : ∀ j, j < K → T.getD (rest + j * W) 0 ≠ image) : fit K T rest W image = 0 :=
  fitP_none T rest W image K 0 (by simpa using hj)
/-- Where some symbol fits, the answer fits. -/
theorem fit_ok {K : Nat} (T : List Int) (rest W : Nat) (image : Int) (h : ∃ t, t < K ∧ T.getD (rest + t * W) 0 = image) : T.getD (rest + fit K T rest W image * W) 0 = image := by
  suffices H : ∀ n s, (∃ t, t < n ∧ T.getD (rest + (s + t) * W) 0 = image) → T.getD (rest + fitP T rest W image n s * W) 0 = image by
    exact H K 0 (by simpa using h)
  intro n
  induction n with
  | zero => rintro s ⟨t, ht, _⟩; omega
  | succ n ih =>
    rintro s ⟨t, ht, e⟩
    rw [fitP]
    split
    · assumption
    · rename_i hne
      refine ih (s + 1) ⟨t - 1, ?_, ?_⟩
      · by_cases c : t = 0
        · subst c; simp at e; exact absurd e hne
        · omega
      · by_cases c : t = 0
        · subst c; simp at e; exact absurd e hne
        · rw [show s + 1 + (t - 1) = s + t by omega]; exact e

/-- The number of a word. -/
def numW (K : Nat) (xs : List Int) : Nat := xs.foldl (fun n x => n * K + x.toNat) 0
theorem numW_snoc (K : Nat) (xs : List Int) (x : Int) : numW K (xs ++ [x]) = numW K xs * K + x.toNat := by simp [numW]
theorem numW_lt {K : Nat} (xs : List Int) (h : Syms K xs) : numW K xs < pw K xs.length := by
  suffices H : ∀ ys zs, xs = ys ++ zs → numW K ys < pw K ys.length from H xs [] (by simp)
  intro ys
  induction hn : ys.length generalizing ys with
  | zero => intro zs _; have := List.eq_nil_of_length_eq_zero hn; subst this; simp [numW, pw]
  | succ n ih =>
    intro zs e
    have hne : ys ≠ [] := by intro e; subst e; simp at hn
    obtain ⟨b, x, rfl⟩ : ∃ b x, ys = b ++ [x] := ⟨ys.dropLast, ys.getLast hne, (List.dropLast_concat_getLast hne).symm⟩
    have hb : b.length = n := by simpa using hn
    have h1 := ih b hb ([x] ++ zs) (by rw [e]; simp)
    have hx := h x (by rw [e]; simp)
    rw [numW_snoc, pw_succ]
    have : (numW K b + 1) * K ≤ pw K n * K := Nat.mul_le_mul_right _ (by omega)
    rw [Nat.succ_mul] at this
    omega

/-- permut.Right's symbols. -/
def rightP (K : Nat) (T : List Int) : Nat → List Int → List Int
  | _, [] => []
  | node, x :: w => (fit K T (node * K) 1 x : Int) :: rightP K T ((node * K + fit K T (node * K) 1 x) % (T.length / K)) w
/-- The node behind them. -/
def rightN (K : Nat) (T : List Int) : Nat → List Int → Nat
  | node, [] => node
  | node, x :: w => rightN K T ((node * K + fit K T (node * K) 1 x) % (T.length / K)) w
theorem rightP_snoc (K : Nat) (T : List Int) (node : Nat) (w : List Int) (x : Int) : rightP K T node (w ++ [x]) = rightP K T node w ++ [(fit K T (rightN K T node w * K) 1 x : Int)] := by
  induction w generalizing node with
  | nil => rfl
  | cons y w ih => simp [rightP, rightN, ih]
theorem rightN_snoc (K : Nat) (T : List Int) (node : Nat) (w : List Int) (x : Int) : rightN K T node (w ++ [x]) = (rightN K T node w * K + fit K T (rightN K T node w * K) 1 x) % (T.length / K) := by
  induction w generalizing node with
  | nil => rfl
  | cons y w ih => simp [rightN, ih]
theorem rightP_length (K : Nat) (T : List Int) (node : Nat) (w : List Int) : (rightP K T node w).length = w.length := by
  induction w generalizing node with
  | nil => rfl
  | cons y w ih => simp [rightP, ih]
theorem rightN_lt {K : Nat} {T : List Int} (h : 0 < T.length / K) (node : Nat) (hn : node < T.length / K) (w : List Int) : rightN K T node w < T.length / K := by
  induction w generalizing node with
  | nil => exact hn
  | cons y w ih => exact ih _ (Nat.mod_lt _ h)

/-- permut.Left's symbols, from the last on: the node behind them and they. -/
def leftS (K : Nat) (T : List Int) : Nat → List Int → Nat × List Int
  | node, [] => (node, [])
  | node, x :: w =>
    let p := leftS K T node w
    let s := fit K T p.1 (T.length / K) x
    ((s * (T.length / K) + p.1) / K, (s : Int) :: p.2)
theorem leftS_length (K : Nat) (T : List Int) (node : Nat) (w : List Int) : (leftS K T node w).2.length = w.length := by
  induction w with
  | nil => rfl
  | cons y w ih => simp [leftS, ih]

/-- permut.check's fault. -/
def checkM (K R : Nat) (w ends : List Int) : PErr :=
  if 4096 < w.length then fresh sPermut 1 4 else if ends.length ≠ 2 * R then fresh sPermut 2 3
  else if idxOf (odd1 K) (w ++ ends) = -1 then none else fresh sPermut (idxOf (odd1 K) (w ++ ends)) 2
theorem checkM_none {K R : Nat} {w ends : List Int} (h : checkM K R w ends = none) : w.length ≤ 4096 ∧ ends.length = 2 * R ∧ Syms K w ∧ Syms K ends := by
  unfold checkM at h
  by_cases h1 : 4096 < w.length
  · rw [if_pos h1] at h; cases h
  rw [if_neg h1] at h
  by_cases h2 : ends.length ≠ 2 * R
  · rw [if_pos h2] at h; cases h
  rw [if_neg h2] at h
  rcases syms_or K (w ++ ends) with hs | ⟨i, hi, _⟩
  · exact ⟨by omega, by omega, fun x hx => hs x (by simp [hx]), fun x hx => hs x (by simp [hx])⟩
  · rw [if_neg (by omega)] at h; cases h
/-- permut.Right's and Left's faults: the side's weight is handed in. -/
def permF (k R : Int) (xs : List Int) (W : Nat) (w ends : List Int) : PErr :=
  match checkP k R xs with
  | some t => under sPermut 0 (some t)
  | none => if unlikeP k.toNat xs W = false then fresh sPermut 0 3 else checkM k.toNat R.toNat w ends

/-- A group of windows lies within the table. -/
theorem group_lt {K W q j s n : Nat} (hW : 1 ≤ W) (hn : n = q * (W * K)) (hj : j < n) (hm : j / W % K = 0) (hs : s < K) : j + s * W < n := by
  have h1 := Nat.div_add_mod j W
  have h2 := Nat.div_add_mod (j / W) K
  have h3 := Nat.mod_lt j hW
  rw [hm, Nat.add_zero] at h2
  have e : j = W * K * (j / W / K) + j % W := by
    rw [Nat.mul_assoc, h2]; omega
  have hc : j / W / K < q := by
    rw [Nat.div_div_eq_div_mul]
    exact Nat.div_lt_of_lt_mul (by rw [Nat.mul_comm]; omega)
  have h4 : W * K * (j / W / K + 1) ≤ W * K * q := Nat.mul_le_mul_left _ hc
  rw [Nat.mul_add, Nat.mul_one] at h4
  have h5 : (s + 1) * W ≤ K * W := Nat.mul_le_mul_right _ hs
  rw [Nat.succ_mul, Nat.mul_comm K W] at h5
  rw [hn, Nat.mul_comm q]
  omega

theorem RuleOk.half {K R : Nat} {xs : List Int} (h : RuleOk K R xs) : xs.length / K = pw K (2 * R) ∧ xs.length = pw K (2 * R) * K := by
  have e := h.len
  rw [pw_succ] at e
  have := h.k1
  exact ⟨by rw [e, Nat.mul_div_cancel _ (by omega)], e⟩
end Go.Proofs.YtmhiambkfdkkbaaDoor

namespace Go.Proofs.YtmhiambkfdkkbaaDoor
open Go.RowKit
set_option maxRecDepth 100000

theorem wrap64_nat (n : Nat) (h : n < 1048576) : wrap64 (n : Int) = n := wrap64_id (by omega) (by omega)
theorem wrap64_nat1 (n : Nat) (h1 : 1 ≤ n) (h : n < 1048576) : wrap64 ((n : Int) - 1) = ((n - 1 : Nat) : Int) := by
  rw [wrap64_id (by omega) (by omega)]; omega
theorem bits_or_nat (a b : Nat) (ha : a < 1024) (hb : b < 1024) : bits .or .i64 (a : Int) (b : Int) = ((a ||| b : Nat) : Int) := by
  have hx : a ||| b < 2 ^ 10 := Nat.or_lt_two_pow (by omega) (by omega)
  have h1 : (BitVec.ofInt 64 (a : Int)).toNat = a := by
    rw [BitVec.ofInt_natCast, BitVec.toNat_ofNat]; exact Nat.mod_eq_of_lt (by omega)
  have h2 : (BitVec.ofInt 64 (b : Int)).toNat = b := by
    rw [BitVec.ofInt_natCast, BitVec.toNat_ofNat]; exact Nat.mod_eq_of_lt (by omega)
  show IntKind.i64.wrap ((BitVec.ofInt 64 (a : Int) ||| BitVec.ofInt 64 (b : Int)).toNat : Int) = _
  rw [BitVec.toNat_or, h1, h2]
  exact wrapK (by omega) (by omega)

end Go.Proofs.YtmhiambkfdkkbaaDoor

namespace Go.Proofs.YtmhiambkfdkkbaaDoor
open Go.RowKit
set_option maxRecDepth 100000

theorem catN_two (vs : Nat → List Int) : catN vs 2 = vs 0 ++ vs 1 := by simp [catN, List.range, List.range.loop]

end Go.Proofs.YtmhiambkfdkkbaaDoor

namespace Go.Proofs.YtmhiambkfdkkbaaDoor
open Go.RowKit
set_option maxRecDepth 100000

theorem wpl_append1b {w : World} {ops : Array Oper} {rest : List Oper} {o : Oper} {a : Act} {Q : Exit → Act → World → Prop} (hgd : o.guard = none) (s x : Operand)
    (ho : o.op = .call { callee := .builtin .append, args := #[s, x], argTypes := #[22, 22] })
    (B : Nat) (v : Value) (xs : List Int) (y : Int) (hown : OwnI B w v xs) (hs : a.eval s = v) (b : Nat) (hx : a.eval x = .slice (some ⟨b, 0, none⟩) 1 1) (hb : b = w.heap.size)
    (hlen : xs.length < 17592186044415) (hB : B ≤ w.heap.size)
    (h : ∀ v' w', OwnI B w' v' (xs ++ [y]) → Below B w w' → w.grownBy w' v.ownBlock → (v'.ownBlock = v.ownBlock ∨ ∃ k, v'.ownBlock = some k ∧ w.heap.size ≤ k) → wpList Tryd.prog ops Q rest (a.put o.dst v') w') :
    wpList Tryd.prog ops Q (o :: rest) a (w.alloc (.cells #[.int .i64 y] 3)) := by
  subst hb
  exact wpl_append1 hgd s x ho B v xs y hown hs hx hlen hB h

end Go.Proofs.YtmhiambkfdkkbaaDoor

namespace Go.Proofs.YtmhiambkfdkkbaaDoor
open Go.RowKit
set_option maxRecDepth 100000

theorem leftS_lt {K : Nat} {T : List Int} (hK : 1 ≤ K) (node : Nat) (hn : node < T.length / K) (w : List Int) : (leftS K T node w).1 < T.length / K := by
  induction w with
  | nil => exact hn
  | cons y w ih =>
    have hf := fit_lt hK T (leftS K T node w).1 (T.length / K) y
    show (fit K T (leftS K T node w).1 (T.length / K) y * (T.length / K) + (leftS K T node w).1) / K < T.length / K
    rw [Nat.div_lt_iff_lt_mul hK]
    have h1 : (fit K T (leftS K T node w).1 (T.length / K) y + 1) * (T.length / K) ≤ K * (T.length / K) := Nat.mul_le_mul_right _ hf
    rw [Nat.succ_mul] at h1
    rw [Nat.mul_comm (T.length / K) K]
    omega

theorem run_makeI (C : Int) (n : Nat) (w : World) (hC : C = n) (hn : n ≤ 17592186044416) :
    ∃ v w', (Instr.makeSlice 22 (.int .i64 C) (.int .i64 C)).run Tryd.prog w = .ok v w' ∧ OwnI w.heap.size w' v (List.replicate n 0) ∧ Below w.heap.size w w' := by
  subst hC
  obtain ⟨i, hi, hz0, hz1, hz2⟩ := info_parts iInt
  obtain ⟨w', hrun, r1, r2⟩ := run_make_full (P := Tryd.prog) w w.heap.size 22 3 i (.int .i64 0) 1 uInts hi hz0 hz1 .i64 .i64 n (by rw [hz2]; omega) (by unfold maxLen; omega) (Nat.le_refl _)
  refine ⟨_, w', hrun, ?_, (Below.refl _ _).grown r2 (Nat.le_refl _) (by intro k hk; cases hk)⟩
  have e : (madeCells (Value.cells (.int .i64 0)) (n * 1)).toList = (List.replicate n (0 : Int)).map (Value.int .i64) := by
    rw [show Value.cells (.int .i64 0) = #[.int .i64 0] from rfl, toList_madeCells_one]; simp
  rw [e] at r1
  simpa [OwnI] using r1

/-- What is left of an owned slice from a place on. -/
theorem OwnI.post {B : Nat} {w : World} {v : Value} {xs : List Int} (h : OwnI B w v xs) (off : Nat) (ho : off ≤ xs.length) :
    ∃ dp dLen dCap, (∀ w', (Instr.slice 22 v (some (.int .i64 off)) none none).run Tryd.prog w' = .ok (.slice dp dLen dCap) w') ∧ dLen = xs.length - off ∧ (0 < xs.length - off → dp = some (valAt v off)) := by
  rcases h.2 with ⟨rfl, hn⟩ | ⟨g, cap, cur, rfl, hB, hg, hn, hm, hs, ht⟩
  · have hr : ∀ w', (Instr.slice 22 (.slice none 0 0) (some (.int .i64 off)) none none).run Tryd.prog w' = .ok (sliced none off 0 0 1) w' := by
      intro w'
      rw [run_slice_l w' 22 none 0 0 uIntsE .i64 off (by omega) (by omega), eInts, sInt]
      rfl
    exact ⟨_, _, _, hr, by omega, by intro hh; omega⟩
  · have hr : ∀ w', (Instr.slice 22 (.slice (some ⟨g, 0, none⟩) xs.length cap) (some (.int .i64 off)) none none).run Tryd.prog w' = .ok (sliced (some ⟨g, 0, none⟩) off xs.length cap 1) w' := by
      intro w'
      rw [run_slice_l w' 22 (some ⟨g, 0, none⟩) xs.length cap uIntsE .i64 off (by omega) (by omega), eInts, sInt]
      rfl
    refine ⟨_, _, _, hr, rfl, fun hh => ?_⟩
    rw [if_neg (by omega), valAt_row]
    simp [Addr.add]
    intro e; exact e.symm

end Go.Proofs.YtmhiambkfdkkbaaDoor

namespace Go.Proofs.YtmhiambkfdkkbaaDoor
open Go.RowKit Go.Shelf
set_option maxRecDepth 100000

def Tryd.laysMul_ren : Go.Shelf.Ren := ⟨fun | 212 => 99 | 263 => 120 | 264 => 121 | n => n, fun | 46 => 114 | 51 => 138 | 146 => 144 | 53 => 140 | 148 => 146 | n => n, fun | n => n⟩
theorem Tryd.laysMul : Go.Proofs.Lays.n212 Tryd.prog Tryd.laysMul_ren := {
  mixed := by kernel_rfl
  f212 := Tryd.func99.trans (congrArg some (by kernel_rfl))
  f263 := Tryd.func120.trans (congrArg some (by kernel_rfl))
  f264 := Tryd.func121.trans (congrArg some (by kernel_rfl))
  t46 := Tryd.underlying114
  a46 := Tryd.isAgg114
  z46 := Tryd.sizeOf114
  v46 := Tryd.zeroValue114
  t51 := Tryd.underlying138
  a51 := Tryd.isAgg138
  z51 := Tryd.sizeOf138
  v51 := Tryd.zeroValue138
  t53 := Tryd.underlying140
  a53 := Tryd.isAgg140
  z53 := Tryd.sizeOf140
  v53 := Tryd.zeroValue140
  t146 := Tryd.underlying144
  a146 := Tryd.isAgg144
  z146 := Tryd.sizeOf144
  v146 := Tryd.zeroValue144
  t148 := Tryd.underlying146
  a148 := Tryd.isAgg146
  z148 := Tryd.sizeOf146
  v148 := Tryd.zeroValue146 }

/-- copy(d, u), d at place off of an owned slice, u longer perhaps than the room. -/
theorem run_copyMin {w : World} {B : Nat} {v u d : Value} {xs ys : List Int} (off : Nat) (ty : TypeId) (dp : Option Addr) (dLen dCap : Nat) (hown : OwnI B w v xs) (hu : IntsAt w u ys) (hd : d = .slice dp dLen dCap)
    (hfit : off + dLen ≤ xs.length) (h0 : 0 < dLen) (h1 : 0 < ys.length) (hdp : dp = some (valAt v off)) :
    ∃ w', (Builtin.copy_ #[22, 22] ty #[d, u]).run Tryd.prog w = .ok (.int .i64 ((ys.take dLen).length : Int)) w' ∧ OwnI B w' v (xs.take off ++ ys.take dLen ++ xs.drop (off + (ys.take dLen).length)) ∧ Below B w w' := by
  subst hd
  obtain ⟨sp, sCap, rfl, hc1, h2, h3, h4⟩ := hu
  subst hdp
  cases sp with
  | none => have := h3 rfl; omega
  | some p =>
    rcases hown.2 with ⟨rfl, hn⟩ | ⟨g, cap, cur, rfl, hb, hg, hn, hm, hcs, ht⟩
    · omega
    · rw [valAt_row]
      obtain ⟨zs, hzs⟩ : ∃ zs, zs = ys.take dLen := ⟨_, rfl⟩
      have hzl : zs.length = Nat.min ys.length dLen := by rw [hzs, List.length_take, Nat.min_comm]
      have hzd : zs.length ≤ dLen := by rw [hzl]; exact Nat.min_le_right _ _
      rw [← hzs]
      have hsrc : ∀ j u, (zs.map (Value.int .i64))[j]? = some u → w.cell? (p.add j) = some u := by
        intro j u hj
        have hjl : j < zs.length := by have := (List.getElem?_eq_some_iff.1 hj).1; simpa using this
        have hjy : j < ys.length := by rw [hzl] at hjl; exact Nat.lt_of_lt_of_le hjl (Nat.min_le_left _ _)
        have := h4 j hjy
        simp only [valAt] at this
        rw [this, ← hj, List.getElem?_map, List.getElem?_eq_getElem hjl]
        simp [hzs]
      have hcl : cur.toList.length = cap := by rw [Array.length_toList, hcs]; omega
      have hr := run_copy_row (P := Tryd.prog) w 22 22 ty 3 g off dLen dCap p ys.length sCap cur 3 (zs.map (.int .i64)) uInts sizeInt1 hg (by rw [List.length_map]; exact hzl) hsrc (by rw [hcs, List.length_map]; omega) (ints_oneCell _ _)
      rw [show goInt (zs.map (Value.int .i64)).length = .int .i64 zs.length by rw [List.length_map]; rfl] at hr
      have hst : w.grownBy (w.setRow g (cur.toList.take off ++ zs.map (Value.int .i64) ++ cur.toList.drop (off + (zs.map (Value.int .i64)).length)).toArray) (some g) :=
        ⟨rfl, rfl, rfl, by simp, fun k _ hk => setRow_other w g k _ (fun e => hk (by simp [e]))⟩
      refine ⟨_, hr, ?_, (Below.refl _ _).grown hst (by have := (Array.getElem?_eq_some_iff.1 hg).1; omega) (by intro k hk; simp at hk; omega)⟩
      have hlen : (xs.take off ++ zs ++ xs.drop (off + zs.length)).length = xs.length := by simp; omega
      refine ⟨by simp, .inr ⟨g, cap, _, by rw [hlen], hb, setRow_heap w g cur _ _ _ hg, by rw [hlen]; exact hn, hm, ?_, ?_⟩⟩
      · simp only [List.size_toArray, List.length_append, List.length_take, List.length_drop, List.length_map, hcl]; omega
      · rw [hlen]
        have e := splice_take cur.toList (zs.map (Value.int .i64)) off xs.length (by rw [List.length_map]; omega) (by omega)
        rw [Nat.mul_one] at ht ⊢
        rw [e, ht]
        simp [List.map_take, List.map_drop]

/-- Some copies, zeros behind. -/
def reps (x : Int) (m n : Nat) : List Int := List.replicate m x ++ List.replicate (n - m) 0
theorem reps_len (x : Int) {m n : Nat} (h : m ≤ n) : (reps x m n).length = n := by simp [reps]; omega
theorem reps_full (x : Int) (n : Nat) : reps x n n = List.replicate n x := by simp [reps]
theorem reps_splice (x : Int) {m n k : Nat} (hk : m + k ≤ n) : (reps x m n).take m ++ List.replicate k x ++ (reps x m n).drop (m + k) = reps x (m + k) n := by
  unfold reps
  rw [List.take_left' (by simp), List.drop_append, List.drop_eq_nil_of_le (by simp), List.nil_append, List.length_replicate, List.drop_replicate, List.replicate_append_replicate]
  congr 2
  omega

theorem mul_any (x y : Nat) (hx : x < 100000) (hy : y < 100000) (w : World) :
    Calls Tryd.prog 99 #[.int .u64 x, .int .u64 y] w fun e w' => e = .returned (.tuple #[.int .u64 0, .int .u64 ((x * y : Nat) : Int)]) ∧ w = w' := by
  refine (Any.bits_Mul Tryd.laysMul x y (by omega) (by omega) w).mono ?_
  rintro e w' ⟨rfl, rfl⟩
  have h : x * y < 10000000000 := by
    calc x * y ≤ 99999 * 99999 := Nat.mul_le_mul (by omega) (by omega)
      _ < _ := by decide
  rw [Nat.div_eq_of_lt (by omega), Nat.mod_eq_of_lt (by omega)]
  exact ⟨rfl, rfl⟩

set_option maxHeartbeats 1000000 in
theorem repeat_any (v : Value) (x : Int) (n : Nat) (w : World) (h : IntsAt w v [x]) (hn : n ≤ 10000) :
    Calls Tryd.prog 71 #[v, .int .i64 n] w (Ret1 (fun u w' => OwnI w.heap.size w' u (List.replicate n x)) w) := by
  have hl := h.len
  obtain ⟨u, w1, hmk, hu, hb1⟩ := run_makeI (n : Int) n w rfl (by omega)
  have hM := mul_any 1 n (by omega) (by omega) w
  rw [Nat.one_mul] at hM
  replace hM := Lib.hid hM
  obtain ⟨ua, un, uc, rfl⟩ := hu.at.shape
  go_enter Tryd.func71, Tryd.ntmps71
  have hcp : ∃ w2, (Builtin.copy_ #[22, 22] 3 #[.slice ua un uc, v]).run Tryd.prog w1 = .ok (.int .i64 ((min 1 n : Nat) : Int)) w2 ∧ OwnI w.heap.size w2 (.slice ua un uc) (reps x (min 1 n) n) ∧ Below w.heap.size w1 w2 := by
    have hun : un = n := by
      obtain ⟨a, c, e, _⟩ := hu.at
      injection e with _ e _
      rw [e]; simp
    have hv := h.below hb1
    by_cases h0 : n = 0
    · subst h0; subst hun
      obtain ⟨sp, sc, rfl, _⟩ := hv
      refine ⟨w1, run_copy_none (P := Tryd.prog) w1 22 22 3 3 ua sp 0 uc 1 sc uInts sizeInt1 (by simp), ?_, Below.refl _ _⟩
      simpa [reps] using hu
    · subst hun
      have hva : ua = some (valAt (.slice ua un uc) 0) := by
        rcases hu.2 with ⟨e, hn0⟩ | ⟨g, cap, cur, e, _⟩
        · rw [List.length_replicate] at hn0; exact absurd hn0 h0
        · injection e with e1 e2 e3
          subst e1; rfl
      obtain ⟨w2, h1, h2, h3⟩ := run_copyMin (ys := [x]) 0 3 ua un uc hu hv rfl (by rw [List.length_replicate]; omega) (by omega) (by simp) hva
      have ht : ([x] : List Int).take un = [x] := List.take_of_length_le (by show 1 ≤ un; omega)
      rw [ht] at h1 h2
      refine ⟨w2, ?_, ?_, h3⟩
      · rw [h1, Nat.min_eq_left (by omega)]; rfl
      · rw [Nat.min_eq_left (by omega)]
        have e := reps_splice x (m := 0) (n := un) (k := 1) (by omega)
        have e2 : reps x 0 un = List.replicate un 0 := by simp [reps]
        rw [e2] at e
        rw [← e]
        exact h2
  obtain ⟨w2, hcp, ho2, hb2⟩ := hcp
  replace hu := Lib.hid hu
  replace ho2 := Lib.hid ho2
  have hb := Lib.hid (hb1.trans hb2)
  go_wp2_with fail
  refine hM.out.mono ?_
  rintro e w' ⟨rfl, rfl⟩
  go_wp2_with fail
  go_loopw [8] (fun mv wr => ∃ m : Nat, min 1 n ≤ m ∧ m ≤ n ∧ mv = .int .i64 m ∧ OwnI w.heap.size wr (.slice ua un uc) (reps x m n) ∧ Below w.heap.size w wr) (fun mv _ => n - (intOf mv).toNat)
  case atStart => exact ⟨min 1 n, Nat.le_refl _, Nat.min_le_right _ _, rfl, ho2.out, hb.out⟩
  case round =>
    obtain ⟨m, hm1, hm2, rfl, ho, hbr⟩ := hrel
    obtain ⟨wo, rfl⟩ : ∃ wo : World, wo = wr := ⟨_, rfl⟩
    have hl2 := ho.at.len
    rw [reps_len x hm2] at hl2
    by_cases hlt : m < n
    · have hm0 : 1 ≤ m := by omega
      obtain ⟨g, cap, cur, e, hgB, _, hnc, _⟩ : ∃ g cap cur, Value.slice ua un uc = .slice (some ⟨g, 0, none⟩) (reps x m n).length cap ∧ w.heap.size ≤ g ∧ wo.heap[g]? = some (.cells cur 3 (0, 0)) ∧ (reps x m n).length ≤ cap ∧ True := by
        rcases ho.2 with ⟨_, hn0⟩ | ⟨g, cap, cur, e, h1, h2, h3, _⟩
        · rw [reps_len x hm2] at hn0; omega
        · exact ⟨g, cap, cur, e, h1, h2, h3, trivial⟩
      rw [reps_len x hm2] at e hnc
      injection e with e1 e2 e3
      subst e1; subst e2; subst e3
      have hfull := Lib.hid hu
      clear hfull hu ho2 hcp hmk
      have hu2 := ho.at.pre m (by rw [reps_len x hm2]; exact hm2)
      have htk : (reps x m un).take m = List.replicate m x := by unfold reps; exact List.take_left' (by simp)
      rw [htk] at hu2
      obtain ⟨k, hk⟩ : ∃ k, k = ((List.replicate m x).take (un - m)).length := ⟨_, rfl⟩
      have hkk : k = min (un - m) m := by rw [hk]; simp
      have hkr : (List.replicate m x).take (un - m) = List.replicate k x := by rw [hkk, List.take_replicate]
      have hcp : ∀ W : World, OwnI w.heap.size W (.slice (some ⟨g, 0, none⟩) un uc) (reps x m un) → IntsAt W (.slice (some ⟨g, 0, none⟩) m uc) (List.replicate m x) → ∃ w2, (Builtin.copy_ #[22, 22] 3 #[.slice (some ⟨g, m, none⟩) (un - m) (uc - m), .slice (some ⟨g, 0, none⟩) m uc]).run Tryd.prog W = .ok (.int .i64 (k : Int)) w2 ∧ OwnI w.heap.size w2 (.slice (some ⟨g, 0, none⟩) un uc) (reps x (m + k) un) ∧ Below w.heap.size W w2 := by
        intro W hW hW2
        obtain ⟨w2, a, b, c⟩ := run_copyMin m 3 (some ⟨g, m, none⟩) (un - m) (uc - m) hW hW2 rfl (by rw [reps_len x hm2]; omega) (by omega) (by rw [List.length_replicate]; omega) (by rw [valAt_row])
        rw [← hk] at a b
        rw [hkr, reps_splice x (by omega)] at b
        exact ⟨w2, a, b, c⟩
      obtain ⟨w3, hc3, ho3, hb3⟩ := hcp wo.drew ho hu2
      have hwr : IntKind.i64.wrap ((m : Int) + (k : Int)) = (m : Int) + k := wrapK (by omega) (by omega)
      have hb4 : Below w.heap.size w w3 := hbr.drew.trans hb3
      have hk1 : 1 ≤ k := by omega
      have hk2 : m + k ≤ un := by omega
      have hsl1 : (0 ≤ (m : Int) ∧ (m : Int) ≤ (un : Int)) := ⟨by omega, by omega⟩
      have hsl2 : (0 ≤ (m : Int) ∧ (m : Int) ≤ (uc : Int)) := ⟨by omega, by omega⟩
      have hmc : ¬ uc = m := by omega
      replace ho3 := Lib.hid ho3
      replace ho := Lib.hid ho
      clear hcp hu2 htk hk hkr hkk
      go_upto_region 9 with fail
      refine wp_region_plan (fun _ => True) 9 [(0, true), (1, true), (2, true), (3, true), (4, true), (5, true), (6, true), (7, false), (8, true)] (by kernel_rfl) (by kernel_rfl) ?_
      have hS := trivial
      refine headY (v := ?_) (some 38) rfl rfl (Or.inl ⟨by rfl, ?_⟩) hS ?_
      rotate_left
      · rintro W' _; go_simp; try with_reducible rfl
      simp only [Act.put, List.setIfInBounds_toArray, List.set_cons_zero, List.set_cons_succ]
      refine headY (v := ?_) (some 39) rfl rfl (Or.inl ⟨by rfl, ?_⟩) hS ?_
      rotate_left
      · rintro W' _; go_simp; try with_reducible rfl
      simp only [Act.put, List.setIfInBounds_toArray, List.set_cons_zero, List.set_cons_succ]
      refine headY (v := ?_) (some 40) rfl rfl (Or.inl ⟨by rfl, ?_⟩) hS ?_
      rotate_left
      · rintro W' _; go_simp; try with_reducible rfl
      simp only [Act.put, List.setIfInBounds_toArray, List.set_cons_zero, List.set_cons_succ]
      refine headY (v := ?_) (some 41) rfl rfl (Or.inl ⟨by rfl, ?_⟩) hS ?_
      rotate_left
      · rintro W' _; go_simp; try with_reducible rfl
      simp only [Act.put, List.setIfInBounds_toArray, List.set_cons_zero, List.set_cons_succ]
      refine headY (v := ?_) (some 42) rfl rfl (Or.inl ⟨by rfl, ?_⟩) hS ?_
      rotate_left
      · rintro W' _; go_simp; try with_reducible rfl
      simp only [Act.put, List.setIfInBounds_toArray, List.set_cons_zero, List.set_cons_succ]
      refine headY (v := ?_) (some 43) rfl rfl (Or.inl ⟨by rfl, ?_⟩) hS ?_
      rotate_left
      · rintro W' _; go_simp; try with_reducible rfl
      simp only [Act.put, List.setIfInBounds_toArray, List.set_cons_zero, List.set_cons_succ]
      refine headY (v := ?_) (some 44) rfl rfl (Or.inl ⟨by rfl, ?_⟩) hS ?_
      rotate_left
      · rintro W' _; go_simp; try with_reducible rfl
      simp only [Act.put, List.setIfInBounds_toArray, List.set_cons_zero, List.set_cons_succ]
      refine headC rfl (fun KK hK => ?_)
      -- CALL 7 slot (some 45)
      go_simp
      refine hK _ _ hS ?_
      clear hK KK
      refine headY (v := ?_) (some 46) rfl rfl (Or.inl ⟨by rfl, ?_⟩) hS ?_
      rotate_left
      · rintro W' _; go_simp; try with_reducible rfl
      simp only [Act.put, List.setIfInBounds_toArray, List.set_cons_zero, List.set_cons_succ]
      refine head0 ?_
      simp only [List.drop_succ_cons, List.drop_zero]
      go_wp2
      refine NoPanic.normal ?_
      go_wp2
      go_round
      case measure => simp [intOf]; omega
      case rel => exact ⟨m + k, by omega, hk2, by go_num, ho3.out, hb4⟩
    · obtain rfl : m = n := by omega
      rw [reps_full] at ho
      replace ho := Lib.hid ho
      go_wp2
      go_ret
      exact ⟨_, rfl, hbr, ho.out⟩
end Go.Proofs.YtmhiambkfdkkbaaDoor

namespace Go.Proofs.YtmhiambkfdkkbaaDoor

def updM (M : Int → Option Int) (p x : Int) : Int → Option Int := fun q => if q = p then some x else M q
/-- Behind the first k: what has a number, and how many have. -/
def numM (p : Nat → Int) : Nat → (Int → Option Int) × Nat
  | 0 => (fun _ => none, 0)
  | k + 1 => if ((numM p k).1 (p k)).isSome then numM p k else (updM (numM p k).1 (p k) ((numM p k).2 : Int), (numM p k).2 + 1)
/-- The number of the k-th. -/
def numO (p : Nat → Int) (k : Nat) : Int := ((numM p (k + 1)).1 (p k)).getD 0
theorem numM_size (p : Nat → Int) : ∀ k, (numM p k).2 ≤ k
  | 0 => Nat.le_refl _
  | k + 1 => by
    have := numM_size p k
    simp only [numM]; split <;> simp <;> omega
theorem numM_keep (p : Nat → Int) {q x : Int} (k : Nat) (h : (numM p k).1 q = some x) : ∀ d, (numM p (k + d)).1 q = some x
  | 0 => h
  | d + 1 => by
    have ih := numM_keep p k h d
    show (numM p (k + d + 1)).1 q = some x
    simp only [numM]
    split
    · exact ih
    · next hn =>
      show updM _ _ _ q = some x
      unfold updM
      by_cases e : q = p (k + d)
      · subst e; rw [ih] at hn; exact absurd rfl hn
      · rw [if_neg e]; exact ih
theorem numM_own (p : Nat → Int) (k : Nat) : (numM p (k + 1)).1 (p k) = some (numO p k) := by
  unfold numO
  have : ((numM p (k + 1)).1 (p k)).isSome := by
    simp only [numM]
    split
    · next h => exact h
    · simp [updM]
  obtain ⟨x, hx⟩ := Option.isSome_iff_exists.1 this
  rw [hx]; rfl
theorem numM_below (p : Nat → Int) : ∀ k q x, (numM p k).1 q = some x → 0 ≤ x ∧ x < (numM p k).2
  | 0, q, x, h => by cases h
  | k + 1, q, x, h => by
    have ih := numM_below p k q x
    simp only [numM] at h ⊢
    split at h
    · next hs => rw [if_pos hs]; exact ih h
    · next hs =>
      rw [if_neg hs]
      simp only [updM] at h ⊢
      by_cases e : q = p k
      · rw [if_pos e] at h; injection h with h; omega
      · rw [if_neg e] at h; have := ih h; omega
theorem numM_inj (p : Nat → Int) : ∀ k q q' x, (numM p k).1 q = some x → (numM p k).1 q' = some x → q = q'
  | 0, q, q', x, h, _ => by cases h
  | k + 1, q, q', x, h, h' => by
    have ih := numM_inj p k q q' x
    simp only [numM] at h h'
    split at h
    · next hs => rw [if_pos hs] at h'; exact ih h h'
    · next hs =>
      rw [if_neg hs] at h'
      simp only [updM] at h h'
      by_cases e : q = p k <;> by_cases e' : q' = p k
      · rw [e, e']
      · rw [if_pos e] at h; rw [if_neg e'] at h'
        have := numM_below p k q' x h'
        injection h with h; omega
      · rw [if_neg e] at h; rw [if_pos e'] at h'
        have := numM_below p k q x h
        injection h' with h'; omega
      · rw [if_neg e] at h; rw [if_neg e'] at h'; exact ih h h'
/-- One number just where it is one thing. -/
theorem numO_eq (p : Nat → Int) (i j : Nat) : numO p i = numO p j ↔ p i = p j := by
  have key : ∀ i d, (numM p (i + 1 + d)).1 (p i) = some (numO p i) := fun i d => numM_keep p (i + 1) (numM_own p i) d
  have hi := key i j
  have hj := key j i
  rw [show j + 1 + i = i + 1 + j by omega] at hj
  constructor
  · intro h; rw [h] at hi; exact numM_inj p _ _ _ _ hi hj
  · intro h; rw [h] at hi; rw [hi] at hj; injection hj
theorem numO_bound (p : Nat → Int) (k : Nat) : 0 ≤ numO p k ∧ numO p k ≤ k := by
  have h1 := numM_below p (k + 1) _ _ (numM_own p k)
  have h2 := numM_size p (k + 1)
  omega
/-- What the numbers tell: one number just where there are ways both ways. -/
def PartsOf (n : Nat) (adj : Nat → List Nat) (ps : List Int) : Prop :=
  ∃ p : Nat → Int, (∀ x y, x < n → y < n → (p x = p y ↔ Goes adj x y ∧ Goes adj y x)) ∧ ps = (List.range n).map (numO p)
theorem PartsOf.len {n : Nat} {adj : Nat → List Nat} {ps : List Int} (h : PartsOf n adj ps) : ps.length = n := by
  obtain ⟨p, _, rfl⟩ := h; simp
theorem PartsOf.eq {n : Nat} {adj : Nat → List Nat} {ps : List Int} (h : PartsOf n adj ps) {x y : Nat} (hx : x < n) (hy : y < n) : ps.getD x 0 = ps.getD y 0 ↔ Goes adj x y ∧ Goes adj y x := by
  obtain ⟨p, hp, rfl⟩ := h
  simp only [List.getD_eq_getElem?_getD, List.getElem?_map, List.getElem?_range hx, List.getElem?_range hy, Option.map_some, Option.getD_some]
  rw [numO_eq, hp x y hx hy]
end Go.Proofs.YtmhiambkfdkkbaaDoor

namespace Go.Proofs.YtmhiambkfdkkbaaDoor
open Go.RowKit Go.Maps
set_option maxRecDepth 100000

theorem uIntN : Tryd.prog.underlying 3 = some (.int .i64) := by kernel_rfl
theorem uMapN : Tryd.prog.underlying 153 = some (.map 3 3) := by kernel_rfl
theorem keyedN : Keyed Tryd.prog 3 := int_keyed uIntN
theorem zeroN (w : World) : (zeroValue 3).run Tryd.prog w = .ok (.int .i64 0) w := by kernel_rfl

/-- Block b is a map that has these numbers under these keys, s in all. -/
def NumMap (w : World) (b n : Nat) (M : Int → Option Int) (s : Nat) : Prop :=
  ∃ D : DataW Unit, w.ownsMap Tryd.prog 3 (plainElem Tryd.prog 3) b n D ∧ Maps.size D = s ∧
    ∀ k, (Lit.int .i64 k).wf = true → Maps.has D (.int .i64 k) = (M k).isSome ∧ ∀ x, M k = some x → D.atKey (.int .i64 k) (.lit (.int .i64 0)) = .lit (.int .i64 x)
theorem NumMap.made (w : World) : NumMap (w.alloc (.map #[] 0)) w.heap.size 0 (fun _ => none) 0 :=
  ⟨_, World.ownsMap_made w Tryd.prog 3 _, rfl, fun k _ => ⟨rfl, fun x h => by cases h⟩⟩
theorem NumMap.blk {w : World} {b n s : Nat} {M : Int → Option Int} (h : NumMap w b n M s) : ∃ es c, w.heap[b]? = some (.map es c) := by
  obtain ⟨D, ⟨es, c, hb, _⟩, _⟩ := h
  exact ⟨es, c, hb⟩
theorem NumMap.kept {w w' : World} {b n s : Nat} {M : Int → Option Int} {row : Option Nat} (h : NumMap w b n M s) (hg : w.grownBy w' row) (hne : some b ≠ row) : NumMap w' b n M s := by
  obtain ⟨D, h1, h2⟩ := h
  exact ⟨D, h1.kept hg hne, h2⟩
theorem NumMap.drew {w : World} {b n s : Nat} {M : Int → Option Int} (h : NumMap w b n M s) : NumMap w.drew b n M s := h
theorem NumMap.drewN {w : World} {b n s : Nat} {M : Int → Option Int} (h : NumMap w b n M s) (q : Nat) : NumMap (w.drewN q) b n M s := h
theorem NumMap.len {w : World} {b n s : Nat} {M : Int → Option Int} (h : NumMap w b n M s) (ty : TypeId) : (Builtin.len_ #[153] ty #[.map (some b)]).run Tryd.prog w = .ok (.int .i64 s) w := by
  obtain ⟨D, h1, rfl, _⟩ := h
  exact h1.len uMapN ty
theorem NumMap.lookOk {w : World} {b n s : Nat} {M : Int → Option Int} (h : NumMap w b n M s) (k : Int) (hk : (Lit.int .i64 k).wf = true) :
    ∃ c : Int, (Instr.lookup 153 (.map (some b)) (.int .i64 k) true).run Tryd.prog w = .ok (.tuple #[.int .i64 c, .bool (M k).isSome]) w := by
  obtain ⟨D, h1, _, h3⟩ := h
  obtain ⟨v, ps, hr, hv⟩ := h1.look_ok keyedN uMapN (zeroN w) (plainElem_int uIntN (by decide)) (keyOf_int_mk uIntN hk)
  obtain ⟨c, rfl, _, _⟩ := plainElem_int_inv uIntN hv
  exact ⟨c, by rw [hr, (h3 k hk).1]⟩
theorem NumMap.look {w : World} {b n s : Nat} {M : Int → Option Int} (h : NumMap w b n M s) (k x : Int) (hk : (Lit.int .i64 k).wf = true) (hx : M k = some x) :
    (Instr.lookup 153 (.map (some b)) (.int .i64 k) false).run Tryd.prog w = .ok (.int .i64 x) w := by
  obtain ⟨D, h1, _, h3⟩ := h
  obtain ⟨c, hr, hc, _⟩ := h1.lookup_int keyedN uMapN uIntN (zeroN w) (keyOf_int_mk uIntN hk)
  rw [(h3 k hk).2 x hx] at hc
  injection hc with hc
  injection hc with _ hc
  rw [hr, hc]
theorem NumMap.store {w : World} {b n s : Nat} {M : Int → Option Int} (h : NumMap w b n M s) (k x : Int) (hk : (Lit.int .i64 k).wf = true) (hx : (Lit.int .i64 x).wf = true) (hM : M k = none) (hn : n < 1000000) :
    ∃ w', (Instr.mapUpdate 153 (.map (some b)) (.int .i64 k) (.int .i64 x)).run Tryd.prog w = .ok () w' ∧ NumMap w' b (n + 1) (updM M k x) (s + 1) ∧ w.grownBy w' (some b) := by
  obtain ⟨D, h1, h2, h3⟩ := h
  have hT := h1.tidy keyedN
  have hI := h1.isMap
  obtain ⟨w', hr, ho, hg⟩ := h1.update keyedN uMapN (by unfold maxLen; omega) (keyOf_int_mk uIntN hk) (plainElem_int uIntN hx)
  have hkl : WideAt.IsKeyLit (Lit.int .i64 k) := keyedN.key (keyOf_int_mk uIntN hk)
  refine ⟨w', hr, ⟨_, ho, ?_, fun q hq => ?_⟩, hg⟩
  · rw [Maps.size_put hT, (h3 k hk).1, hM, h2]; rfl
  · by_cases e : q = k
    · subst e
      refine ⟨by rw [Maps.has_put_same hI hkl]; simp [updM], fun y hy => ?_⟩
      simp [updM] at hy
      subst hy
      exact Maps.atKey_put_same hI hkl _ _
    · have hne : (Lit.int .i64 q) ≠ (Lit.int .i64 k) := fun h => e (by injection h)
      refine ⟨by rw [Maps.has_put_other hne, (h3 q hq).1]; simp [updM, e], fun y hy => ?_⟩
      rw [Maps.atKey_put_other hne]
      exact (h3 q hq).2 y (by simpa [updM, e] using hy)
/-- Rows stay while a map's block is written. -/
theorem ownI_map {B : Nat} {w w' : World} {b : Nat} {es : Array MapEntry} {c : Nat} {v : Value} {xs : List Int} (h : OwnI B w v xs) (hb : w.heap[b]? = some (.map es c)) (hg : w.grownBy w' (some b)) : OwnI B w' v xs := by
  refine World.ownsRow.kept h hg ?_
  rcases h.2 with ⟨e, _⟩ | ⟨g, cap, cur, e, _, hh, _⟩
  · left; rw [e]; rfl
  · right; rw [e]; intro q
    have : g = b := by injection q
    subst this; rw [hh] at hb; cases hb
end Go.Proofs.YtmhiambkfdkkbaaDoor

namespace Go.Proofs.YtmhiambkfdkkbaaDoor
open Go.RowKit
set_option maxRecDepth 100000

/-- What an edenraw.Err is in memory. -/
def EAt (w : World) (t : PErr) (v : Value) : Prop :=
  match t with
  | none => v = .agg #[.int .i64 0, .slice none 0 0, .slice none 0 0]
  | some (n, l) => ∃ a1 n1 c1 a2 n2 c2, v = .agg #[.int .i64 n, .slice a1 n1 c1, .slice a2 n2 c2] ∧ ValsAt w (.slice a1 n1 c1) (l.map fun x => Value.string x.1) ∧ IntsAt w (.slice a2 n2 c2) (l.map (·.2))

theorem EAt.below {w w' : World} {t : PErr} {v : Value} (h : EAt w t v) (hb : Below w.heap.size w w') : EAt w' t v := by
  match t, h with
  | none, h => exact h
  | some (n, l), ⟨a1, n1, c1, a2, n2, c2, e, h1, h2⟩ => exact ⟨a1, n1, c1, a2, n2, c2, e, h1.below hb, h2.below hb⟩

/-- An edenraw.Err whose lists this call made, from block B on. -/
def EOwn (B : Nat) (w : World) (t : PErr) (v : Value) : Prop :=
  match t with
  | none => v = .agg #[.int .i64 0, .slice none 0 0, .slice none 0 0]
  | some (n, l) => ∃ a1 n1 c1 a2 n2 c2, v = .agg #[.int .i64 n, .slice a1 n1 c1, .slice a2 n2 c2] ∧ OwnV 9 B w (.slice a1 n1 c1) (l.map fun x => Value.string x.1) ∧ OwnV 3 B w (.slice a2 n2 c2) ((l.map (·.2)).map (Value.int .i64))

theorem OwnV.setBelowBase {E : TypeId} {B : Nat} {w : World} {v : Value} {vs : List Value} (h : OwnV E B w v vs) {a : Addr} (ha : a.block < B) (u : Value) : OwnV E B (w.setCell a u) v vs := ownsRow_setCell_below h ha u
theorem EOwn.at {B : Nat} {w : World} {t : PErr} {v : Value} (h : EOwn B w t v) : EAt w t v := by
  match t, h with
  | none, h => exact h
  | some (n, l), ⟨a1, n1, c1, a2, n2, c2, e, h1, h2⟩ => exact ⟨a1, n1, c1, a2, n2, c2, e, h1.at, OwnI.at (OwnV.toI h2)⟩
theorem EOwn.mono {B B' : Nat} {w : World} {t : PErr} {v : Value} (h : EOwn B w t v) (hB : B' ≤ B) : EOwn B' w t v := by
  match t, h with
  | none, h => exact h
  | some (n, l), ⟨a1, n1, c1, a2, n2, c2, e, h1, h2⟩ => exact ⟨a1, n1, c1, a2, n2, c2, e, h1.mono hB, h2.mono hB⟩
theorem EOwn.below {B : Nat} {w w' : World} {t : PErr} {v : Value} (h : EOwn B w t v) (hb : Below w.heap.size w w') : EOwn B w' t v := by
  match t, h with
  | none, h => exact h
  | some (n, l), ⟨a1, n1, c1, a2, n2, c2, e, h1, h2⟩ => exact ⟨a1, n1, c1, a2, n2, c2, e, h1.below hb, h2.below hb⟩
theorem EOwn.set {B : Nat} {w : World} {t : PErr} {v : Value} (h : EOwn B w t v) {a : Addr} (ha : a.block < B) (u : Value) : EOwn B (w.setCell a u) t v := by
  match t, h with
  | none, h => exact h
  | some (n, l), ⟨a1, n1, c1, a2, n2, c2, e, h1, h2⟩ => exact ⟨a1, n1, c1, a2, n2, c2, e, h1.setBelowBase ha u, h2.setBelowBase ha u⟩
theorem EOwn.set3 {B b : Nat} {w : World} {t : PErr} {v : Value} (h : EOwn B w t v) (hb : b < B) (x y z : Value) : EOwn B (((w.setCell ⟨b, 0, none⟩ x).setCell ⟨b, 1, none⟩ y).setCell ⟨b, 2, none⟩ z) t v :=
  ((h.set (a := ⟨b, 0, none⟩) hb x).set (a := ⟨b, 1, none⟩) hb y).set (a := ⟨b, 2, none⟩) hb z
theorem Below.set3 {B b : Nat} {w0 w : World} (h : Below B w0 w) (hb : B ≤ b) (x y z : Value) : Below B w0 (((w.setCell ⟨b, 0, none⟩ x).setCell ⟨b, 1, none⟩ y).setCell ⟨b, 2, none⟩ z) :=
  ((h.setCell (p := ⟨b, 0, none⟩) hb x).setCell (p := ⟨b, 1, none⟩) hb y).setCell (p := ⟨b, 2, none⟩) hb z
theorem OwnV.lit {E : TypeId} (B : Nat) (w : World) (hB : B ≤ w.heap.size) (x : Value) : OwnV E B (w.alloc (.cells #[x] E)) (.slice (some ⟨w.heap.size, 0, none⟩) 1 1) [x] :=
  World.ownsRow_lit (base := B) (e := E) (size := 1) w #[x] 1 hB (by unfold maxLen; omega) rfl

theorem EAt.shape {w : World} {t : PErr} {v : Value} (h : EAt w t v) : ∃ n a1 n1 c1 a2 n2 c2, v = .agg #[.int .i64 n, .slice a1 n1 c1, .slice a2 n2 c2] := by
  match t, h with
  | none, h => exact ⟨0, none, 0, 0, none, 0, 0, h⟩
  | some (n, l), ⟨a1, n1, c1, a2, n2, c2, e, _⟩ => exact ⟨n, a1, n1, c1, a2, n2, c2, e⟩

abbrev zErr : Value := .agg #[.int .i64 0, .slice none 0 0, .slice none 0 0]
theorem EAt.none (w : World) : EAt w none zErr := rfl

theorem vals1 {w : World} {b : Nat} {u : Value} (h : w.cell? ⟨b, 0, none⟩ = some u) : ValsAt w (.slice (some ⟨b, 0, none⟩) 1 1) [u] :=
  ⟨some ⟨b, 0, none⟩, 1, rfl, by simp, by unfold maxLen; omega, (fun e => by cases e), fun i hi => by
    obtain rfl : i = 0 := by simpa using hi
    rw [valAt_row]; simpa using h⟩
theorem ints1 {w : World} {b : Nat} {x : Int} (h : w.cell? ⟨b, 0, none⟩ = some (.int .i64 x)) : IntsAt w (.slice (some ⟨b, 0, none⟩) 1 1) [x] :=
  ⟨some ⟨b, 0, none⟩, 1, rfl, by simp, by unfold maxLen; omega, (fun e => by cases e), fun i hi => by
    obtain rfl : i = 0 := by simpa using hi
    rw [valAt_row]; simpa using h⟩

theorem ValsAt.alloc {w : World} {v : Value} {vs : List Value} (h : ValsAt w v vs) (o : Obj) : ValsAt (w.alloc o) v vs := h.below ((Below.refl _ _).alloc (Nat.le_refl _) _)
theorem ValsAt.drew {w : World} {v : Value} {vs : List Value} (h : ValsAt w v vs) : ValsAt w.drew v vs := h
theorem ValsAt.split {w : World} {v : Value} {vs : List Value} (h : ValsAt w v vs) : (v = .slice none 0 0 ∧ vs = []) ∨ ∃ p cap, v = .slice (some p) vs.length cap ∧ ∀ j u, vs[j]? = some u → w.cell? (p.add j) = some u := by
  obtain ⟨a, cap, rfl, h1, h2, h3, h4⟩ := h
  cases a with
  | none =>
    obtain rfl := h3 rfl
    obtain rfl := List.length_eq_zero_iff.1 (show vs.length = 0 by omega)
    exact .inl ⟨rfl, rfl⟩
  | some p =>
    refine .inr ⟨p, cap, rfl, fun j u hj => ?_⟩
    have hjl : j < vs.length := (List.getElem?_eq_some_iff.1 hj).1
    have := h4 j hjl
    simp only [valAt] at this
    rw [this, ← hj]; simp [hjl]
theorem IntsAt.alloc {w : World} {v : Value} {xs : List Int} (h : IntsAt w v xs) (o : Obj) : IntsAt (w.alloc o) v xs := h.below ((Below.refl _ _).alloc (Nat.le_refl _) _)

/-- append([]T{x}, ys...) in a region that draws. -/
theorem step_under {T E : TypeId} {z : Value} {bytes : Nat} (oc : OneCell T E z bytes) {ops : Array Oper} {o : Oper} {a : Act} {w : World} {K : Act → World → Prop} {Q : Exit → Act → World → Prop} {Ep : Prop}
    (hg : o.guard = none) (s x : Operand) (hop : o.op = Op.call { callee := Callee.builtin Builtin.append, args := #[s, x], argTypes := #[T, T] })
    (b : Nat) (x0 : Value) (hs : a.eval s = .slice (some ⟨b, 0, none⟩) 1 1) (hb : w.cell? ⟨b, 0, none⟩ = some x0)
    (u : Value) (ys : List Value) (hx : a.eval x = u) (hu : ValsAt w u ys) (h0 : 0 < ys.length) (hl : ys.length ≤ 1000) (h1 : ∀ u ∈ ys, u.oneCell' = true)
    (hK : ∀ v' w', OwnV E w.heap.size w' v' (x0 :: ys) → Below w.heap.size w w' → K (a.put o.dst v') w') :
    if Region.wanted o (yielded ops a.tmps) = true then Oper.wp Tryd.prog o a w K Q else Ep := by
  obtain ⟨i, hi, hz0, hz1, hz2⟩ := info_parts oc.hi
  rcases hu.split with ⟨_, rfl⟩ | ⟨p, cap, rfl, hc⟩
  · simp at h0
  · have hb' := oc.hb
    refine step_append_grows hg s x T hop E i z 1 bytes oc.ht hi hz0 hz1 hz2 (by rw [oc.hz]; rfl) (by decide) (some ⟨b, 0, none⟩) 1 1 [x0] hs (fun h => by cases h) rfl
      (fun b' hb2 j u hj => by
        obtain rfl := Option.some.inj hb2
        obtain ⟨hj1, hj2⟩ := List.getElem?_eq_some_iff.1 hj
        obtain rfl : j = 0 := by simpa using hj1
        simp at hj2; subst hj2
        exact hb) p ys.length cap ys hx (by simp) hc h1 (by omega) (by unfold maxLen; omega) (by
          calc (1 + ys.length) * bytes ≤ 1001 * 32 := Nat.mul_le_mul (by omega) hb'
            _ ≤ _ := by decide) ?_
    intro v' w' hown hgr
    have hv : OwnV E w.heap.size w' v' (x0 :: ys) := by
      unfold OwnV
      rw [show (x0 :: ys).length = 1 + ys.length by simp; omega]
      exact hown
    exact hK v' w' hv ((Below.refl _ _).grown hgr (Nat.le_refl _) (by intro k hk; cases hk))

end Go.Proofs.YtmhiambkfdkkbaaDoor

namespace Go.Proofs.YtmhiambkfdkkbaaDoor
open Go.RowKit
set_option maxRecDepth 100000

theorem ValsAt.shape {w : World} {v : Value} {vs : List Value} (h : ValsAt w v vs) : ∃ a n c, v = .slice a n c := by
  obtain ⟨a, cap, e, _⟩ := h; exact ⟨_, _, _, e⟩
theorem cell_keep {w w' : World} {b i : Nat} {x : Value} (hb : Below w.heap.size w w') (h : w.cell? ⟨b, i, none⟩ = some x) : w'.cell? ⟨b, i, none⟩ = some x :=
  (hb.cell (p := ⟨b, i, none⟩) (World.block_lt_of_cell? _ _ h)).trans h
theorem cell_alloc {w : World} {b i : Nat} {x : Value} (h : w.cell? ⟨b, i, none⟩ = some x) (o : Obj) : (w.alloc o).cell? ⟨b, i, none⟩ = some x := cell_keep ((Below.refl _ _).alloc (Nat.le_refl _) _) h
theorem cell_new {w : World} {b : Nat} {x : Value} {T : TypeId} (hb : b = w.heap.size) : (w.alloc (.cells #[x] T)).cell? ⟨b, 0, none⟩ = some x := by subst hb; simp
theorem cell_drew {w : World} {b i : Nat} {x : Value} (h : w.cell? ⟨b, i, none⟩ = some x) : w.drew.cell? ⟨b, i, none⟩ = some x := h

/-- Three cells of a variable of the call's own. -/
def Box3 (w : World) (b : Nat) (x0 x1 x2 : Value) : Prop := (w.cell? ⟨b, 0, none⟩ = some x0 ∧ w.cell? ⟨b, 1, none⟩ = some x1 ∧ w.cell? ⟨b, 2, none⟩ = some x2) ∧ w.frozen? ⟨b, 0, none⟩ = false ∧ w.frozen? ⟨b, 1, none⟩ = false ∧ w.frozen? ⟨b, 2, none⟩ = false
theorem Box3.below {w w' : World} {b : Nat} {x0 x1 x2 : Value} (h : Box3 w b x0 x1 x2) (hb : Below w.heap.size w w') : Box3 w' b x0 x1 x2 := by
  obtain ⟨⟨h0, h1, h2⟩, f0, f1, f2⟩ := h
  have hlt := World.block_lt_of_cell? _ _ h0
  exact ⟨⟨cell_keep hb h0, cell_keep hb h1, cell_keep hb h2⟩, (hb.frozen (p := ⟨b, 0, none⟩) hlt).trans f0, (hb.frozen (p := ⟨b, 1, none⟩) hlt).trans f1, (hb.frozen (p := ⟨b, 2, none⟩) hlt).trans f2⟩
theorem Box3.alloc {w : World} {b : Nat} {x0 x1 x2 : Value} (h : Box3 w b x0 x1 x2) (o : Obj) : Box3 (w.alloc o) b x0 x1 x2 := h.below ((Below.refl _ _).alloc (Nat.le_refl _) _)
theorem Box3.drew {w : World} {b : Nat} {x0 x1 x2 : Value} (h : Box3 w b x0 x1 x2) : Box3 w.drew b x0 x1 x2 := h
theorem OwnV.drew {E : TypeId} {B : Nat} {w : World} {v : Value} {vs : List Value} (h : OwnV E B w v vs) : OwnV E B w.drew v vs := h
theorem Below.allocL {w w' : World} (h : Below w.heap.size w w') (o : Obj) : Below w.heap.size w (w'.alloc o) := h.alloc h.size o
theorem Below.stepL {w1 w2 w3 : World} (h : Below w1.heap.size w1 w2) (k : Below w2.heap.size w2 w3) : Below w1.heap.size w1 w3 := h.trans (k.mono h.size)
theorem belowAlloc' (w : World) (o : Obj) : Below w.heap.size w (w.alloc o) := (Below.refl _ _).alloc (Nat.le_refl _) _
theorem Below.drewL {w w' : World} {n : Nat} (h : Below n w w') : Below n w w'.drew := h.drew

end Go.Proofs.YtmhiambkfdkkbaaDoor

namespace Go.Proofs.YtmhiambkfdkkbaaDoor
open Go.RowKit Go.Extern.Stop Go.Stop Go.Extern
set_option maxRecDepth 100000
namespace Errs

theorem comparableE (w : World) : ((ReflectliteType.method fun t => do Rtype.noPackHeld "Comparable" t; (fun a => Value.bool a.comparable) <$> typeInfo t) #[.agg #[.pointer (some ⟨12, 167, none⟩)]]).run Tryd.prog w = .ok (.bool true) w := by kernel_rfl
theorem compE : (Tryd.prog.info? 167).map (·.comparable) = some true := by kernel_rfl
theorem sizeE : (Tryd.prog.info? 184).map (·.size) = some 1 := by kernel_rfl
theorem uErr : Tryd.prog.underlying 29 = some (.interface #[("Error", 168)]) := by kernel_rfl
theorem uES : Tryd.prog.underlying 167 = some (.pointer 184) := by kernel_rfl
end Errs
end Go.Proofs.YtmhiambkfdkkbaaDoor

namespace Go.Proofs.YtmhiambkfdkkbaaDoor
open Go.RowKit Go.Extern.Stop Go.Stop Go.Extern
set_option maxRecDepth 100000
namespace Errs

/-! errors.As at a Fault: the target a *api.Fault variable. -/
theorem uF : Tryd.prog.underlying 101 = some (.pointer 103) := by kernel_rfl
theorem kindF (w : World) : ((ReflectliteType.abiMethod fun t => (fun a : Nat => Value.int IntKind.u8 (a : Int)) <$> Rtype.kind t) #[.pointer (some ⟨12, 101, none⟩)]).run Tryd.prog w = .ok (.int .u8 22) w := by kernel_rfl
theorem rlm (z : Sem Value) (f : TypeId → Addr → Nat → Nat → Sem Value) (v : Value) :
    ReflectliteValue.method z f #[v] = (do match ← ReflectliteValue.parts v with | none => z | some (t, a, fl) => f t a fl (fl % 32)) := rfl
theorem valueOfF (e : Addr) (w : World) : (ReflectliteValue.unpack (.iface 101 (.pointer (some e)))).run Tryd.prog w
    = .ok (.agg #[.pointer (some ⟨12, 101, none⟩), .pointer (some ⟨w.heap.size, 0, none⟩), .int .u64 150]) (w.alloc (.cells #[.pointer (some e)] 101)) := by kernel_rfl
theorem mkF (p : Addr) (w : World) : (ReflectliteValue.mk 101 p ReflectliteValue.flagAddr).run Tryd.prog w = .ok (.agg #[.pointer (some ⟨12, 101, none⟩), .pointer (some p), .int .u64 406]) w := by kernel_rfl
theorem rls (v x : Value) : ReflectliteValue.set #[v, x] = (do
    let (some (dst, a, fl), some (src, b, _)) := (← ReflectliteValue.parts v, ← ReflectliteValue.parts x)
      | unsupported (.noEntry "extern/(internal/reflectlite.Value).Set.zeroValue")
    if fl / ReflectliteValue.flagAddr % 2 == 0 then unsupported (.noEntry "extern/(internal/reflectlite.Value).Set.unaddressable")
    let val ← loadVar src b
    if ← Rtype.directlyAssignable dst src then storeVar dst a val
    else if ← Rtype.implements dst src then
      if (← Rtype.kind src) == 20 then
        match val with
        | .nilIface => unsupported (.noEntry "extern/reflectlite: a nil value of one interface type handed on as a value of another")
        | _ => storeVar dst a val
      else storeVar dst a (.iface src val)
    else panicString ("reflectlite.Set: value of type " ++ (← Rtype.spelt src) ++ " is not assignable to type " ++ (← Rtype.spelt dst))
    pure (.tuple #[])) := rfl
theorem partsFa (a : Addr) (w : World) : (ReflectliteValue.parts (.agg #[.pointer (some ⟨12, 101, none⟩), .pointer (some a), .int .u64 406])).run Tryd.prog w = .ok (some (101, a, 406)) w := by kernel_rfl
theorem partsF (a : Addr) (w : World) : (ReflectliteValue.parts (.agg #[.pointer (some ⟨12, 101, none⟩), .pointer (some a), .int .u64 150])).run Tryd.prog w = .ok (some (101, a, 150)) w := by kernel_rfl
theorem directF (w : World) : (Rtype.directlyAssignable 101 101).run Tryd.prog w = .ok true w := by kernel_rfl
theorem setF (ta b e : Addr) (old : Value) (W : World) (hb : W.cell? b = some (.pointer (some e))) (ht : W.cell? ta = some old) (hf : W.frozen? ta = false) :
    (ReflectliteValue.set #[.agg #[.pointer (some ⟨12, 101, none⟩), .pointer (some ta), .int .u64 406], .agg #[.pointer (some ⟨12, 101, none⟩), .pointer (some b), .int .u64 150]]).run Tryd.prog W
      = .ok (.tuple #[]) (W.setCell ta (.pointer (some e))) := by
  rw [rls]
  simp only [Sem.run_bind, partsFa, partsF, Result.andThen]
  simp [ReflectliteValue.flagAddr, loadVar, isAgg, underlying, hb, Result.andThen, directF, storeVar, Value.cells, storeCells, Addr.add]
  rw [run_store Tryd.prog W ta _ _ (by rfl)]
  simp [ht, hf]

end Errs
end Go.Proofs.YtmhiambkfdkkbaaDoor

namespace Go.Proofs.YtmhiambkfdkkbaaDoor
open Go.RowKit Go.Extern.Stop Go.Stop Go.Extern
set_option maxRecDepth 100000
namespace Errs
end Errs
end Go.Proofs.YtmhiambkfdkkbaaDoor

namespace Go.Proofs.YtmhiambkfdkkbaaDoor
open Go.RowKit
set_option maxRecDepth 100000

/-- An error's number and length are as every error's. -/
def PErr.Fine (t : PErr) : Prop := match t with | none => True | some (n, l) => 1 ≤ n ∧ n ≤ 11 ∧ l.length ≤ 1000

theorem takeD {P : Program} {ops : Array Oper} {Q : Exit → Act → World → Prop} {md : Region.Mode} {S : World → Prop} {i : Nat} {oi : Oper} {v : Value} {fuel : Nat} {listed : Array Bool} {a : Act} {w : World} (d : Option Tmp) (hi : ops[i]? = some oi) (hd : oi.dst = d)
    (hs : Region.noSelect ops = true) (hf : Region.free md ops listed i = true) (hr : (Region.ready md ops listed).contains i = true)
    (hQ : ∀ c a w, Q (.panic c) (a.put d v) w → Q (.panic c) a w) (hy : YieldsIf P ops S oi v a) (hS : S w)
    (h : wpAnyH P md ops Q S fuel (listed.setIfInBounds i true) (a.put d v) w) : wpAnyH P md ops Q S (fuel + 1) listed a w := by
  subst hd
  exact wpAnyH_take hi hs hf hr hQ hy hS h

theorem takeA {P : Program} {ops : Array Oper} {Q : Exit → Act → World → Prop} {md : Region.Mode} {i : Nat} {oi : Oper} {v : Value} {fuel : Nat} {listed : Array Bool} {a : Act} {w : World} (d : Option Tmp) (hi : ops[i]? = some oi) (hd : oi.dst = d)
    (hs : Region.noSelect ops = true) (hf : Region.free md ops listed i = true) (hr : (Region.ready md ops listed).contains i = true)
    (hQ : ∀ c a w, Q (.panic c) (a.put d v) w → Q (.panic c) a w) (hy : Yields P ops oi v a)
    (h : wpAny P md ops Q fuel (listed.setIfInBounds i true) (a.put d v) w) : wpAny P md ops Q (fuel + 1) listed a w := by
  subst hd
  exact wpAny_take hi hs hf hr hQ hy h

end Go.Proofs.YtmhiambkfdkkbaaDoor

namespace Go.Proofs.YtmhiambkfdkkbaaDoor
open Go.RowKit
set_option maxRecDepth 100000

/-- The names ahead of the search: two empty stacks. -/
def names0 : Names := fun i => if i = (3, 0) then some (rowI (.slice none 0 0) []) else if i = (5, 0) then some ⟨163, 2, .slice none 0 0, 0, []⟩ else none
theorem rows0 (B : Nat) (w : World) : Rows B w names0 := by
  refine ⟨fun i r hi => ?_, fun i j r s hi hj hne => ?_⟩
  · unfold names0 at hi
    split at hi
    · injection hi with hi; subst hi; exact OwnI.nil B w
    · split at hi
      · injection hi with hi; subst hi; exact World.ownsRow_nil w B _ 2
      · cases hi
  · left
    unfold names0 at hi
    split at hi
    · injection hi with hi; subst hi; rfl
    · split at hi
      · injection hi with hi; subst hi; rfl
      · cases hi
theorem tab_zero (n : Nat) : tab n (fun _ => 0) = List.replicate n 0 := by
  unfold tab; apply List.ext_getElem <;> simp
theorem tabI_neg (n : Nat) : tabI n (fun _ => -1) = List.replicate n (-1) := by
  unfold tabI; apply List.ext_getElem <;> simp
/-- The search's box is made. -/
theorem search_box {B : Nat} {W : World} {f : Names} {na : Option Addr} {gl nc n : Nat} {lv fv pv : Value} (hr : Rows B W f) (hB : B ≤ W.heap.size)
    (h1 : f (1, 0) = some (rowI lv (List.replicate n 0))) (h2 : f (2, 0) = some (rowI fv (List.replicate n 0))) (h4 : f (4, 0) = some (rowI pv (List.replicate n (-1))))
    (h3 : f (3, 0) = some (rowI (.slice none 0 0) [])) (h5 : f (5, 0) = some ⟨163, 2, .slice none 0 0, 0, []⟩) :
    Rows B (W.alloc (.cells #[.slice na gl nc, lv, fv, .slice none 0 0, pv, .slice none 0 0, .int .i64 0] 151)) (upd f (0, 0) (some ⟨151, 7, .slice (some ⟨W.heap.size, 0, none⟩) 1 1, 1, [.slice na gl nc, lv, fv, .slice none 0 0, pv, .slice none 0 0, .int .i64 0]⟩)) ∧
      SN (upd f (0, 0) (some ⟨151, 7, .slice (some ⟨W.heap.size, 0, none⟩) 1 1, 1, [.slice na gl nc, lv, fv, .slice none 0 0, pv, .slice none 0 0, .int .i64 0]⟩)) W.heap.size (.slice na gl nc) lv fv pv (.slice none 0 0) (.slice none 0 0) n initS := by
  refine ⟨hr.add (belowAlloc W _) ⟨rfl, .inr ⟨W.heap.size, 1, _, rfl, hB, heap_alloc_new W _, Nat.le_refl _, by unfold maxLen; omega, rfl, rfl⟩⟩ (fun k hk => by cases hk; exact Nat.le_refl _), ⟨upd_same _ _ _, ?_, ?_, ?_, ?_, ?_⟩⟩
  · rw [upd_ne _ _ (by simp), h1]; show _ = some (rowI lv (tab n fun _ => 0)); rw [tab_zero]
  · rw [upd_ne _ _ (by simp), h2]; show _ = some (rowI fv (tab n fun _ => 0)); rw [tab_zero]
  · rw [upd_ne _ _ (by simp), h3]; rfl
  · rw [upd_ne _ _ (by simp), h4]; show _ = some (rowI pv (tabI n fun _ => -1)); rw [tabI_neg]
  · rw [upd_ne _ _ (by simp), h5]; rfl

/-- What Parts leaves. -/
def PartsPost (r : Nat → Addr) (w : World) (G : List (List Int)) (x y : Value) (w' : World) : Prop :=
  ErrIs r w' (checkG G) y ∧ (checkG G = none → ∃ ps, PartsOf G.length (adjOf G) ps ∧ OwnI w.heap.size w' x ps) ∧ (checkG G ≠ none → x = .slice none 0 0)

set_option maxHeartbeats 4000000 in
theorem parts_any (r : Nat → Addr) (na : Option Addr) (nc : Nat) (G : List (List Int)) (w : World) (hg : Glob r w) (h : ListsAt w (.slice na G.length nc) G) (hsz : ∀ k, k < G.length → (G.getD k []).length ≤ 17592186044416) :
    Calls Tryd.prog 100 #[.slice na G.length nc] w (Ret2 (PartsPost r w G) w) := by
  have hC := graph_check r na nc G w hg h hsz
  cases hck : checkG G with
  | some t =>
    rw [hck] at hC
    replace hck := Lib.hid hck
    replace h := Lib.hid h
    replace hg := Lib.hid hg
    replace hsz := Lib.hid hsz
    go_enter Tryd.func100, Tryd.ntmps100
    go_wp2_with fail
    refine hC.mono ?_
    rintro e w1 ⟨y, rfl, b1, he⟩
    obtain ⟨T, a, rfl⟩ := he.some_shape
    replace he := Lib.hid he
    go_wp2
    go_ret2
    exact ⟨_, _, rfl, b1, ⟨by rw [hck.out]; exact he.out, ⟨fun q => (by rw [hck.out] at q; cases q), fun _ => rfl⟩⟩⟩
  | none =>
    rw [hck] at hC
    obtain ⟨hn, harr, hok⟩ := checkG_none hck
    replace hck := Lib.hid hck
    replace h := Lib.hid h
    replace hg := Lib.hid hg
    replace hsz := Lib.hid hsz
    replace hok := Lib.hid hok
    go_enter Tryd.func100, Tryd.ntmps100
    go_wp2_with fail
    refine hC.mono ?_
    rintro e w1 ⟨y, rfl, b1, he⟩
    obtain rfl := he.none_eq
    clear he hC
    go_upto_region 5 with fail
    go_cut [6] from 14 (fun s6 wx => ∃ d f lv fv pv, s6 = .pointer (some ⟨d, 0, none⟩) ∧ Below w1.heap.size w1 wx ∧ Rows w1.heap.size wx f ∧ SN f d (.slice na G.length nc) lv fv pv (.slice none 0 0) (.slice none 0 0) G.length initS)
    case first =>
      obtain ⟨W0, hW0⟩ : ∃ W0 : World, W0 = w1.drew := ⟨_, rfl⟩
      have b0 : Below w1.heap.size w1 W0 := by rw [hW0]; exact (Below.refl _ _).drew
      have R0 := rows0 w1.heap.size W0
      have hB0 := b0.size
      refine wp_region_noPanic ?_
      refine wp_region_any (by kernel_rfl) ?_
      change wpAny _ _ _ _ _ _ _ (World.drew _)
      rw [← hW0]
      clear hW0
      refine takeA (i := 0) (v := ?_) (some 21) rfl rfl (by kernel_rfl) (by kernel_rfl) (by kernel_rfl) (fun _ _ _ h => h) (Or.inl ⟨by rfl, ?_⟩) ?_
      rotate_left
      · intro _; go_simp; try with_reducible rfl
      simp only [Act.put, List.setIfInBounds_toArray, List.set_cons_zero, List.set_cons_succ]
      refine takeA (i := 1) (v := ?_) (some 22) rfl rfl (by kernel_rfl) (by kernel_rfl) (by kernel_rfl) (fun _ _ _ h => h) (Or.inl ⟨by rfl, ?_⟩) ?_
      rotate_left
      · intro _; go_simp; try with_reducible rfl
      simp only [Act.put, List.setIfInBounds_toArray, List.set_cons_zero, List.set_cons_succ]
      refine takeA (i := 3) (v := ?_) (some 24) rfl rfl (by kernel_rfl) (by kernel_rfl) (by kernel_rfl) (fun _ _ _ h => h) (Or.inl ⟨by rfl, ?_⟩) ?_
      rotate_left
      · intro _; go_simp; try with_reducible rfl
      simp only [Act.put, List.setIfInBounds_toArray, List.set_cons_zero, List.set_cons_succ]
      refine takeA (i := 6) (v := ?_) (some 27) rfl rfl (by kernel_rfl) (by kernel_rfl) (by kernel_rfl) (fun _ _ _ h => h) (Or.inl ⟨by rfl, ?_⟩) ?_
      rotate_left
      · intro _; go_simp; try with_reducible rfl
      simp only [Act.put, List.setIfInBounds_toArray, List.set_cons_zero, List.set_cons_succ]
      refine wpAny_ready (rs := [2, 4, 5]) (by kernel_rfl) (by simp) (AllReady.cons rfl (fun KK hK => ?_) (AllReady.cons rfl (fun KK hK => ?_) (AllReady.cons rfl (fun KK hK => ?_) (AllReady.nil))))
      · obtain ⟨lv, W1, mk, ho, hb⟩ := run_makeI (G.length : Int) G.length W0 rfl (by omega)
        obtain ⟨lva, lvn, lvc, rfl⟩ := ho.at.shape
        go_simp
        refine hK _ _ ?_
        clear hK KK mk
        have R1 := R0.add (i := (1, 0)) (r' := rowI (.slice lva lvn lvc) (List.replicate G.length 0)) hb (ho.mono hB0) (fun k hk => (ho.lt k hk).1)
        have b1 := b0.trans (hb.mono hB0)
        have hB1 := Nat.le_trans hB0 hb.size
        clear ho hb R0
        refine wpAny_ready (rs := [4, 5]) (by kernel_rfl) (by simp) (AllReady.cons rfl (fun KK hK => ?_) (AllReady.cons rfl (fun KK hK => ?_) (AllReady.nil)))
        · obtain ⟨fv, W2, mk, ho, hb⟩ := run_makeI (G.length : Int) G.length W1 rfl (by omega)
          obtain ⟨fva, fvn, fvc, rfl⟩ := ho.at.shape
          go_simp
          refine hK _ _ ?_
          clear hK KK mk
          have R2 := R1.add (i := (2, 0)) (r' := rowI (.slice fva fvn fvc) (List.replicate G.length 0)) hb (ho.mono hB1) (fun k hk => (ho.lt k hk).1)
          have b2 := b1.trans (hb.mono hB1)
          have hB2 := Nat.le_trans hB1 hb.size
          clear ho hb R1
          refine wpAny_ready (rs := [5]) (by kernel_rfl) (by simp) (AllReady.cons rfl (fun KK hK => ?_) (AllReady.nil))
          · go_simp
            refine hK _ _ ?_
            clear hK KK
            have hb := belowAlloc W2 (.cells #[.int .i64 (-1)] 3)
            have hI3 := (OwnI.lit W2.heap.size W2 (Nat.le_refl _) [-1] (by simp [maxLen]) #[.int .i64 (-1)] rfl 1 rfl).at
            obtain ⟨W3, hW3⟩ : ∃ W3 : World, W3 = W2.alloc (.cells #[.int .i64 (-1)] 3) := ⟨_, rfl⟩
            rw [← hW3]
            rw [← hW3] at hb hI3
            clear hW3
            have R3 := R2.below hb
            have b3 := b2.trans (hb.mono hB2)
            have hB3 := Nat.le_trans hB2 hb.size
            clear hb R2
            refine wpAny_ready (rs := [7]) (by kernel_rfl) (by simp) (AllReady.cons rfl (fun KK hK => ?_) (AllReady.nil))
            · go_simp
              refine (repeat_any _ (-1) G.length _ hI3 (by omega)).mono ?_
              rintro e W4 ⟨pv, rfl, hb, ho⟩
              obtain ⟨pva, pvn, pvc, rfl⟩ := ho.at.shape
              refine hK _ _ ?_
              clear hK KK
              have R4 := R3.add (i := (4, 0)) (r' := rowI (.slice pva pvn pvc) (List.replicate G.length (-1))) hb (ho.mono hB3) (fun k hk => (ho.lt k hk).1)
              have b4 := b3.trans (hb.mono hB3)
              have hB4 := Nat.le_trans hB3 hb.size
              have hI4 := hI3.below hb
              clear ho hb R3 hI3
              refine takeA (i := 8) (v := ?_) (some 29) rfl rfl (by kernel_rfl) (by kernel_rfl) (by kernel_rfl) (fun _ _ _ h => h) (Or.inl ⟨by rfl, ?_⟩) ?_
              rotate_left
              · intro _; go_simp; try with_reducible rfl
              simp only [Act.put, List.setIfInBounds_toArray, List.set_cons_zero, List.set_cons_succ]
              have Rb := search_box (na := na) (gl := G.length) (nc := nc) (n := G.length) (lv := .slice lva lvn lvc) (fv := .slice fva fvn fvc) (pv := .slice pva pvn pvc) R4 hB4 (by simp [upd]) (by simp [upd]) (by simp [upd]) (by simp [upd, names0]) (by simp [upd, names0])
              replace Rb := Lib.hid Rb
              replace R4 := Lib.hid R4
              have bb := b4.trans ((belowAlloc W4 (.cells #[.slice na G.length nc, .slice lva lvn lvc, .slice fva fvn fvc, .slice none 0 0, .slice pva pvn pvc, .slice none 0 0, .int .i64 0] 151)).mono hB4)
              refine wpAny_ready (rs := [9]) (by kernel_rfl) (by simp) (AllReady.cons rfl (fun KK hK => ?_) AllReady.nil)
              go_simp
              refine hK _ _ ?_
              clear hK KK
              refine takeA (i := 10) (v := ?_) (some 6) rfl rfl (by kernel_rfl) (by kernel_rfl) (by kernel_rfl) (fun _ _ _ h => h) (Or.inl ⟨by rfl, ?_⟩) ?_
              rotate_left
              · intro _; go_simp; try with_reducible rfl
              simp only [Act.put, List.setIfInBounds_toArray, List.set_cons_zero, List.set_cons_succ]
              refine wpAny_done (by kernel_rfl) ?_ _
              refine NoPanic.normal ?_
              go_wp2
              go_meet
              case rel => exact ⟨_, _, _, _, _, rfl, bb, Rb.out.1, Rb.out.2⟩
        · go_simp
          refine hK _ _ ?_
          clear hK KK
          have hb := belowAlloc W1 (.cells #[.int .i64 (-1)] 3)
          have hI5 := (OwnI.lit W1.heap.size W1 (Nat.le_refl _) [-1] (by simp [maxLen]) #[.int .i64 (-1)] rfl 1 rfl).at
          obtain ⟨W5, hW5⟩ : ∃ W5 : World, W5 = W1.alloc (.cells #[.int .i64 (-1)] 3) := ⟨_, rfl⟩
          rw [← hW5]
          rw [← hW5] at hb hI5
          clear hW5
          have R5 := R1.below hb
          have b5 := b1.trans (hb.mono hB1)
          have hB5 := Nat.le_trans hB1 hb.size
          clear hb R1
          refine wpAny_ready (rs := [4, 7]) (by kernel_rfl) (by simp) (AllReady.cons rfl (fun KK hK => ?_) (AllReady.cons rfl (fun KK hK => ?_) (AllReady.nil)))
          · obtain ⟨fv, W6, mk, ho, hb⟩ := run_makeI (G.length : Int) G.length W5 rfl (by omega)
            obtain ⟨fva, fvn, fvc, rfl⟩ := ho.at.shape
            go_simp
            refine hK _ _ ?_
            clear hK KK mk
            have R6 := R5.add (i := (2, 0)) (r' := rowI (.slice fva fvn fvc) (List.replicate G.length 0)) hb (ho.mono hB5) (fun k hk => (ho.lt k hk).1)
            have b6 := b5.trans (hb.mono hB5)
            have hB6 := Nat.le_trans hB5 hb.size
            have hI6 := hI5.below hb
            clear hI5
            clear ho hb R5
            refine wpAny_ready (rs := [7]) (by kernel_rfl) (by simp) (AllReady.cons rfl (fun KK hK => ?_) (AllReady.nil))
            · go_simp
              refine (repeat_any _ (-1) G.length _ hI6 (by omega)).mono ?_
              rintro e W7 ⟨pv, rfl, hb, ho⟩
              obtain ⟨pva, pvn, pvc, rfl⟩ := ho.at.shape
              refine hK _ _ ?_
              clear hK KK
              have R7 := R6.add (i := (4, 0)) (r' := rowI (.slice pva pvn pvc) (List.replicate G.length (-1))) hb (ho.mono hB6) (fun k hk => (ho.lt k hk).1)
              have b7 := b6.trans (hb.mono hB6)
              have hB7 := Nat.le_trans hB6 hb.size
              have hI7 := hI6.below hb
              clear ho hb R6 hI6
              refine takeA (i := 8) (v := ?_) (some 29) rfl rfl (by kernel_rfl) (by kernel_rfl) (by kernel_rfl) (fun _ _ _ h => h) (Or.inl ⟨by rfl, ?_⟩) ?_
              rotate_left
              · intro _; go_simp; try with_reducible rfl
              simp only [Act.put, List.setIfInBounds_toArray, List.set_cons_zero, List.set_cons_succ]
              have Rb := search_box (na := na) (gl := G.length) (nc := nc) (n := G.length) (lv := .slice lva lvn lvc) (fv := .slice fva fvn fvc) (pv := .slice pva pvn pvc) R7 hB7 (by simp [upd]) (by simp [upd]) (by simp [upd]) (by simp [upd, names0]) (by simp [upd, names0])
              replace Rb := Lib.hid Rb
              replace R7 := Lib.hid R7
              have bb := b7.trans ((belowAlloc W7 (.cells #[.slice na G.length nc, .slice lva lvn lvc, .slice fva fvn fvc, .slice none 0 0, .slice pva pvn pvc, .slice none 0 0, .int .i64 0] 151)).mono hB7)
              refine wpAny_ready (rs := [9]) (by kernel_rfl) (by simp) (AllReady.cons rfl (fun KK hK => ?_) AllReady.nil)
              go_simp
              refine hK _ _ ?_
              clear hK KK
              refine takeA (i := 10) (v := ?_) (some 6) rfl rfl (by kernel_rfl) (by kernel_rfl) (by kernel_rfl) (fun _ _ _ h => h) (Or.inl ⟨by rfl, ?_⟩) ?_
              rotate_left
              · intro _; go_simp; try with_reducible rfl
              simp only [Act.put, List.setIfInBounds_toArray, List.set_cons_zero, List.set_cons_succ]
              refine wpAny_done (by kernel_rfl) ?_ _
              refine NoPanic.normal ?_
              go_wp2
              go_meet
              case rel => exact ⟨_, _, _, _, _, rfl, bb, Rb.out.1, Rb.out.2⟩
          · go_simp
            refine (repeat_any _ (-1) G.length _ hI5 (by omega)).mono ?_
            rintro e W8 ⟨pv, rfl, hb, ho⟩
            obtain ⟨pva, pvn, pvc, rfl⟩ := ho.at.shape
            refine hK _ _ ?_
            clear hK KK
            have R8 := R5.add (i := (4, 0)) (r' := rowI (.slice pva pvn pvc) (List.replicate G.length (-1))) hb (ho.mono hB5) (fun k hk => (ho.lt k hk).1)
            have b8 := b5.trans (hb.mono hB5)
            have hB8 := Nat.le_trans hB5 hb.size
            have hI8 := hI5.below hb
            clear ho hb R5 hI5
            refine wpAny_ready (rs := [4]) (by kernel_rfl) (by simp) (AllReady.cons rfl (fun KK hK => ?_) (AllReady.nil))
            · obtain ⟨fv, W9, mk, ho, hb⟩ := run_makeI (G.length : Int) G.length W8 rfl (by omega)
              obtain ⟨fva, fvn, fvc, rfl⟩ := ho.at.shape
              go_simp
              refine hK _ _ ?_
              clear hK KK mk
              have R9 := R8.add (i := (2, 0)) (r' := rowI (.slice fva fvn fvc) (List.replicate G.length 0)) hb (ho.mono hB8) (fun k hk => (ho.lt k hk).1)
              have b9 := b8.trans (hb.mono hB8)
              have hB9 := Nat.le_trans hB8 hb.size
              have hI9 := hI8.below hb
              clear hI8
              clear ho hb R8
              refine takeA (i := 8) (v := ?_) (some 29) rfl rfl (by kernel_rfl) (by kernel_rfl) (by kernel_rfl) (fun _ _ _ h => h) (Or.inl ⟨by rfl, ?_⟩) ?_
              rotate_left
              · intro _; go_simp; try with_reducible rfl
              simp only [Act.put, List.setIfInBounds_toArray, List.set_cons_zero, List.set_cons_succ]
              have Rb := search_box (na := na) (gl := G.length) (nc := nc) (n := G.length) (lv := .slice lva lvn lvc) (fv := .slice fva fvn fvc) (pv := .slice pva pvn pvc) R9 hB9 (by simp [upd]) (by simp [upd]) (by simp [upd]) (by simp [upd, names0]) (by simp [upd, names0])
              replace Rb := Lib.hid Rb
              replace R9 := Lib.hid R9
              have bb := b9.trans ((belowAlloc W9 (.cells #[.slice na G.length nc, .slice lva lvn lvc, .slice fva fvn fvc, .slice none 0 0, .slice pva pvn pvc, .slice none 0 0, .int .i64 0] 151)).mono hB9)
              refine wpAny_ready (rs := [9]) (by kernel_rfl) (by simp) (AllReady.cons rfl (fun KK hK => ?_) AllReady.nil)
              go_simp
              refine hK _ _ ?_
              clear hK KK
              refine takeA (i := 10) (v := ?_) (some 6) rfl rfl (by kernel_rfl) (by kernel_rfl) (by kernel_rfl) (fun _ _ _ h => h) (Or.inl ⟨by rfl, ?_⟩) ?_
              rotate_left
              · intro _; go_simp; try with_reducible rfl
              simp only [Act.put, List.setIfInBounds_toArray, List.set_cons_zero, List.set_cons_succ]
              refine wpAny_done (by kernel_rfl) ?_ _
              refine NoPanic.normal ?_
              go_wp2
              go_meet
              case rel => exact ⟨_, _, _, _, _, rfl, bb, Rb.out.1, Rb.out.2⟩
      · obtain ⟨fv, W10, mk, ho, hb⟩ := run_makeI (G.length : Int) G.length W0 rfl (by omega)
        obtain ⟨fva, fvn, fvc, rfl⟩ := ho.at.shape
        go_simp
        refine hK _ _ ?_
        clear hK KK mk
        have R10 := R0.add (i := (2, 0)) (r' := rowI (.slice fva fvn fvc) (List.replicate G.length 0)) hb (ho.mono hB0) (fun k hk => (ho.lt k hk).1)
        have b10 := b0.trans (hb.mono hB0)
        have hB10 := Nat.le_trans hB0 hb.size
        clear ho hb R0
        refine wpAny_ready (rs := [2, 5]) (by kernel_rfl) (by simp) (AllReady.cons rfl (fun KK hK => ?_) (AllReady.cons rfl (fun KK hK => ?_) (AllReady.nil)))
        · obtain ⟨lv, W11, mk, ho, hb⟩ := run_makeI (G.length : Int) G.length W10 rfl (by omega)
          obtain ⟨lva, lvn, lvc, rfl⟩ := ho.at.shape
          go_simp
          refine hK _ _ ?_
          clear hK KK mk
          have R11 := R10.add (i := (1, 0)) (r' := rowI (.slice lva lvn lvc) (List.replicate G.length 0)) hb (ho.mono hB10) (fun k hk => (ho.lt k hk).1)
          have b11 := b10.trans (hb.mono hB10)
          have hB11 := Nat.le_trans hB10 hb.size
          clear ho hb R10
          refine wpAny_ready (rs := [5]) (by kernel_rfl) (by simp) (AllReady.cons rfl (fun KK hK => ?_) (AllReady.nil))
          · go_simp
            refine hK _ _ ?_
            clear hK KK
            have hb := belowAlloc W11 (.cells #[.int .i64 (-1)] 3)
            have hI12 := (OwnI.lit W11.heap.size W11 (Nat.le_refl _) [-1] (by simp [maxLen]) #[.int .i64 (-1)] rfl 1 rfl).at
            obtain ⟨W12, hW12⟩ : ∃ W12 : World, W12 = W11.alloc (.cells #[.int .i64 (-1)] 3) := ⟨_, rfl⟩
            rw [← hW12]
            rw [← hW12] at hb hI12
            clear hW12
            have R12 := R11.below hb
            have b12 := b11.trans (hb.mono hB11)
            have hB12 := Nat.le_trans hB11 hb.size
            clear hb R11
            refine wpAny_ready (rs := [7]) (by kernel_rfl) (by simp) (AllReady.cons rfl (fun KK hK => ?_) (AllReady.nil))
            · go_simp
              refine (repeat_any _ (-1) G.length _ hI12 (by omega)).mono ?_
              rintro e W13 ⟨pv, rfl, hb, ho⟩
              obtain ⟨pva, pvn, pvc, rfl⟩ := ho.at.shape
              refine hK _ _ ?_
              clear hK KK
              have R13 := R12.add (i := (4, 0)) (r' := rowI (.slice pva pvn pvc) (List.replicate G.length (-1))) hb (ho.mono hB12) (fun k hk => (ho.lt k hk).1)
              have b13 := b12.trans (hb.mono hB12)
              have hB13 := Nat.le_trans hB12 hb.size
              have hI13 := hI12.below hb
              clear ho hb R12 hI12
              refine takeA (i := 8) (v := ?_) (some 29) rfl rfl (by kernel_rfl) (by kernel_rfl) (by kernel_rfl) (fun _ _ _ h => h) (Or.inl ⟨by rfl, ?_⟩) ?_
              rotate_left
              · intro _; go_simp; try with_reducible rfl
              simp only [Act.put, List.setIfInBounds_toArray, List.set_cons_zero, List.set_cons_succ]
              have Rb := search_box (na := na) (gl := G.length) (nc := nc) (n := G.length) (lv := .slice lva lvn lvc) (fv := .slice fva fvn fvc) (pv := .slice pva pvn pvc) R13 hB13 (by simp [upd]) (by simp [upd]) (by simp [upd]) (by simp [upd, names0]) (by simp [upd, names0])
              replace Rb := Lib.hid Rb
              replace R13 := Lib.hid R13
              have bb := b13.trans ((belowAlloc W13 (.cells #[.slice na G.length nc, .slice lva lvn lvc, .slice fva fvn fvc, .slice none 0 0, .slice pva pvn pvc, .slice none 0 0, .int .i64 0] 151)).mono hB13)
              refine wpAny_ready (rs := [9]) (by kernel_rfl) (by simp) (AllReady.cons rfl (fun KK hK => ?_) AllReady.nil)
              go_simp
              refine hK _ _ ?_
              clear hK KK
              refine takeA (i := 10) (v := ?_) (some 6) rfl rfl (by kernel_rfl) (by kernel_rfl) (by kernel_rfl) (fun _ _ _ h => h) (Or.inl ⟨by rfl, ?_⟩) ?_
              rotate_left
              · intro _; go_simp; try with_reducible rfl
              simp only [Act.put, List.setIfInBounds_toArray, List.set_cons_zero, List.set_cons_succ]
              refine wpAny_done (by kernel_rfl) ?_ _
              refine NoPanic.normal ?_
              go_wp2
              go_meet
              case rel => exact ⟨_, _, _, _, _, rfl, bb, Rb.out.1, Rb.out.2⟩
        · go_simp
          refine hK _ _ ?_
          clear hK KK
          have hb := belowAlloc W10 (.cells #[.int .i64 (-1)] 3)
          have hI14 := (OwnI.lit W10.heap.size W10 (Nat.le_refl _) [-1] (by simp [maxLen]) #[.int .i64 (-1)] rfl 1 rfl).at
          obtain ⟨W14, hW14⟩ : ∃ W14 : World, W14 = W10.alloc (.cells #[.int .i64 (-1)] 3) := ⟨_, rfl⟩
          rw [← hW14]
          rw [← hW14] at hb hI14
          clear hW14
          have R14 := R10.below hb
          have b14 := b10.trans (hb.mono hB10)
          have hB14 := Nat.le_trans hB10 hb.size
          clear hb R10
          refine wpAny_ready (rs := [2, 7]) (by kernel_rfl) (by simp) (AllReady.cons rfl (fun KK hK => ?_) (AllReady.cons rfl (fun KK hK => ?_) (AllReady.nil)))
          · obtain ⟨lv, W15, mk, ho, hb⟩ := run_makeI (G.length : Int) G.length W14 rfl (by omega)
            obtain ⟨lva, lvn, lvc, rfl⟩ := ho.at.shape
            go_simp
            refine hK _ _ ?_
            clear hK KK mk
            have R15 := R14.add (i := (1, 0)) (r' := rowI (.slice lva lvn lvc) (List.replicate G.length 0)) hb (ho.mono hB14) (fun k hk => (ho.lt k hk).1)
            have b15 := b14.trans (hb.mono hB14)
            have hB15 := Nat.le_trans hB14 hb.size
            have hI15 := hI14.below hb
            clear hI14
            clear ho hb R14
            refine wpAny_ready (rs := [7]) (by kernel_rfl) (by simp) (AllReady.cons rfl (fun KK hK => ?_) (AllReady.nil))
            · go_simp
              refine (repeat_any _ (-1) G.length _ hI15 (by omega)).mono ?_
              rintro e W16 ⟨pv, rfl, hb, ho⟩
              obtain ⟨pva, pvn, pvc, rfl⟩ := ho.at.shape
              refine hK _ _ ?_
              clear hK KK
              have R16 := R15.add (i := (4, 0)) (r' := rowI (.slice pva pvn pvc) (List.replicate G.length (-1))) hb (ho.mono hB15) (fun k hk => (ho.lt k hk).1)
              have b16 := b15.trans (hb.mono hB15)
              have hB16 := Nat.le_trans hB15 hb.size
              have hI16 := hI15.below hb
              clear ho hb R15 hI15
              refine takeA (i := 8) (v := ?_) (some 29) rfl rfl (by kernel_rfl) (by kernel_rfl) (by kernel_rfl) (fun _ _ _ h => h) (Or.inl ⟨by rfl, ?_⟩) ?_
              rotate_left
              · intro _; go_simp; try with_reducible rfl
              simp only [Act.put, List.setIfInBounds_toArray, List.set_cons_zero, List.set_cons_succ]
              have Rb := search_box (na := na) (gl := G.length) (nc := nc) (n := G.length) (lv := .slice lva lvn lvc) (fv := .slice fva fvn fvc) (pv := .slice pva pvn pvc) R16 hB16 (by simp [upd]) (by simp [upd]) (by simp [upd]) (by simp [upd, names0]) (by simp [upd, names0])
              replace Rb := Lib.hid Rb
              replace R16 := Lib.hid R16
              have bb := b16.trans ((belowAlloc W16 (.cells #[.slice na G.length nc, .slice lva lvn lvc, .slice fva fvn fvc, .slice none 0 0, .slice pva pvn pvc, .slice none 0 0, .int .i64 0] 151)).mono hB16)
              refine wpAny_ready (rs := [9]) (by kernel_rfl) (by simp) (AllReady.cons rfl (fun KK hK => ?_) AllReady.nil)
              go_simp
              refine hK _ _ ?_
              clear hK KK
              refine takeA (i := 10) (v := ?_) (some 6) rfl rfl (by kernel_rfl) (by kernel_rfl) (by kernel_rfl) (fun _ _ _ h => h) (Or.inl ⟨by rfl, ?_⟩) ?_
              rotate_left
              · intro _; go_simp; try with_reducible rfl
              simp only [Act.put, List.setIfInBounds_toArray, List.set_cons_zero, List.set_cons_succ]
              refine wpAny_done (by kernel_rfl) ?_ _
              refine NoPanic.normal ?_
              go_wp2
              go_meet
              case rel => exact ⟨_, _, _, _, _, rfl, bb, Rb.out.1, Rb.out.2⟩
          · go_simp
            refine (repeat_any _ (-1) G.length _ hI14 (by omega)).mono ?_
            rintro e W17 ⟨pv, rfl, hb, ho⟩
            obtain ⟨pva, pvn, pvc, rfl⟩ := ho.at.shape
            refine hK _ _ ?_
            clear hK KK
            have R17 := R14.add (i := (4, 0)) (r' := rowI (.slice pva pvn pvc) (List.replicate G.length (-1))) hb (ho.mono hB14) (fun k hk => (ho.lt k hk).1)
            have b17 := b14.trans (hb.mono hB14)
            have hB17 := Nat.le_trans hB14 hb.size
            have hI17 := hI14.below hb
            clear ho hb R14 hI14
            refine wpAny_ready (rs := [2]) (by kernel_rfl) (by simp) (AllReady.cons rfl (fun KK hK => ?_) (AllReady.nil))
            · obtain ⟨lv, W18, mk, ho, hb⟩ := run_makeI (G.length : Int) G.length W17 rfl (by omega)
              obtain ⟨lva, lvn, lvc, rfl⟩ := ho.at.shape
              go_simp
              refine hK _ _ ?_
              clear hK KK mk
              have R18 := R17.add (i := (1, 0)) (r' := rowI (.slice lva lvn lvc) (List.replicate G.length 0)) hb (ho.mono hB17) (fun k hk => (ho.lt k hk).1)
              have b18 := b17.trans (hb.mono hB17)
              have hB18 := Nat.le_trans hB17 hb.size
              have hI18 := hI17.below hb
              clear hI17
              clear ho hb R17
              refine takeA (i := 8) (v := ?_) (some 29) rfl rfl (by kernel_rfl) (by kernel_rfl) (by kernel_rfl) (fun _ _ _ h => h) (Or.inl ⟨by rfl, ?_⟩) ?_
              rotate_left
              · intro _; go_simp; try with_reducible rfl
              simp only [Act.put, List.setIfInBounds_toArray, List.set_cons_zero, List.set_cons_succ]
              have Rb := search_box (na := na) (gl := G.length) (nc := nc) (n := G.length) (lv := .slice lva lvn lvc) (fv := .slice fva fvn fvc) (pv := .slice pva pvn pvc) R18 hB18 (by simp [upd]) (by simp [upd]) (by simp [upd]) (by simp [upd, names0]) (by simp [upd, names0])
              replace Rb := Lib.hid Rb
              replace R18 := Lib.hid R18
              have bb := b18.trans ((belowAlloc W18 (.cells #[.slice na G.length nc, .slice lva lvn lvc, .slice fva fvn fvc, .slice none 0 0, .slice pva pvn pvc, .slice none 0 0, .int .i64 0] 151)).mono hB18)
              refine wpAny_ready (rs := [9]) (by kernel_rfl) (by simp) (AllReady.cons rfl (fun KK hK => ?_) AllReady.nil)
              go_simp
              refine hK _ _ ?_
              clear hK KK
              refine takeA (i := 10) (v := ?_) (some 6) rfl rfl (by kernel_rfl) (by kernel_rfl) (by kernel_rfl) (fun _ _ _ h => h) (Or.inl ⟨by rfl, ?_⟩) ?_
              rotate_left
              · intro _; go_simp; try with_reducible rfl
              simp only [Act.put, List.setIfInBounds_toArray, List.set_cons_zero, List.set_cons_succ]
              refine wpAny_done (by kernel_rfl) ?_ _
              refine NoPanic.normal ?_
              go_wp2
              go_meet
              case rel => exact ⟨_, _, _, _, _, rfl, bb, Rb.out.1, Rb.out.2⟩
      · go_simp
        refine hK _ _ ?_
        clear hK KK
        have hb := belowAlloc W0 (.cells #[.int .i64 (-1)] 3)
        have hI19 := (OwnI.lit W0.heap.size W0 (Nat.le_refl _) [-1] (by simp [maxLen]) #[.int .i64 (-1)] rfl 1 rfl).at
        obtain ⟨W19, hW19⟩ : ∃ W19 : World, W19 = W0.alloc (.cells #[.int .i64 (-1)] 3) := ⟨_, rfl⟩
        rw [← hW19]
        rw [← hW19] at hb hI19
        clear hW19
        have R19 := R0.below hb
        have b19 := b0.trans (hb.mono hB0)
        have hB19 := Nat.le_trans hB0 hb.size
        clear hb R0
        refine wpAny_ready (rs := [2, 4, 7]) (by kernel_rfl) (by simp) (AllReady.cons rfl (fun KK hK => ?_) (AllReady.cons rfl (fun KK hK => ?_) (AllReady.cons rfl (fun KK hK => ?_) (AllReady.nil))))
        · obtain ⟨lv, W20, mk, ho, hb⟩ := run_makeI (G.length : Int) G.length W19 rfl (by omega)
          obtain ⟨lva, lvn, lvc, rfl⟩ := ho.at.shape
          go_simp
          refine hK _ _ ?_
          clear hK KK mk
          have R20 := R19.add (i := (1, 0)) (r' := rowI (.slice lva lvn lvc) (List.replicate G.length 0)) hb (ho.mono hB19) (fun k hk => (ho.lt k hk).1)
          have b20 := b19.trans (hb.mono hB19)
          have hB20 := Nat.le_trans hB19 hb.size
          have hI20 := hI19.below hb
          clear hI19
          clear ho hb R19
          refine wpAny_ready (rs := [4, 7]) (by kernel_rfl) (by simp) (AllReady.cons rfl (fun KK hK => ?_) (AllReady.cons rfl (fun KK hK => ?_) (AllReady.nil)))
          · obtain ⟨fv, W21, mk, ho, hb⟩ := run_makeI (G.length : Int) G.length W20 rfl (by omega)
            obtain ⟨fva, fvn, fvc, rfl⟩ := ho.at.shape
            go_simp
            refine hK _ _ ?_
            clear hK KK mk
            have R21 := R20.add (i := (2, 0)) (r' := rowI (.slice fva fvn fvc) (List.replicate G.length 0)) hb (ho.mono hB20) (fun k hk => (ho.lt k hk).1)
            have b21 := b20.trans (hb.mono hB20)
            have hB21 := Nat.le_trans hB20 hb.size
            have hI21 := hI20.below hb
            clear hI20
            clear ho hb R20
            refine wpAny_ready (rs := [7]) (by kernel_rfl) (by simp) (AllReady.cons rfl (fun KK hK => ?_) (AllReady.nil))
            · go_simp
              refine (repeat_any _ (-1) G.length _ hI21 (by omega)).mono ?_
              rintro e W22 ⟨pv, rfl, hb, ho⟩
              obtain ⟨pva, pvn, pvc, rfl⟩ := ho.at.shape
              refine hK _ _ ?_
              clear hK KK
              have R22 := R21.add (i := (4, 0)) (r' := rowI (.slice pva pvn pvc) (List.replicate G.length (-1))) hb (ho.mono hB21) (fun k hk => (ho.lt k hk).1)
              have b22 := b21.trans (hb.mono hB21)
              have hB22 := Nat.le_trans hB21 hb.size
              have hI22 := hI21.below hb
              clear ho hb R21 hI21
              refine takeA (i := 8) (v := ?_) (some 29) rfl rfl (by kernel_rfl) (by kernel_rfl) (by kernel_rfl) (fun _ _ _ h => h) (Or.inl ⟨by rfl, ?_⟩) ?_
              rotate_left
              · intro _; go_simp; try with_reducible rfl
              simp only [Act.put, List.setIfInBounds_toArray, List.set_cons_zero, List.set_cons_succ]
              have Rb := search_box (na := na) (gl := G.length) (nc := nc) (n := G.length) (lv := .slice lva lvn lvc) (fv := .slice fva fvn fvc) (pv := .slice pva pvn pvc) R22 hB22 (by simp [upd]) (by simp [upd]) (by simp [upd]) (by simp [upd, names0]) (by simp [upd, names0])
              replace Rb := Lib.hid Rb
              replace R22 := Lib.hid R22
              have bb := b22.trans ((belowAlloc W22 (.cells #[.slice na G.length nc, .slice lva lvn lvc, .slice fva fvn fvc, .slice none 0 0, .slice pva pvn pvc, .slice none 0 0, .int .i64 0] 151)).mono hB22)
              refine wpAny_ready (rs := [9]) (by kernel_rfl) (by simp) (AllReady.cons rfl (fun KK hK => ?_) AllReady.nil)
              go_simp
              refine hK _ _ ?_
              clear hK KK
              refine takeA (i := 10) (v := ?_) (some 6) rfl rfl (by kernel_rfl) (by kernel_rfl) (by kernel_rfl) (fun _ _ _ h => h) (Or.inl ⟨by rfl, ?_⟩) ?_
              rotate_left
              · intro _; go_simp; try with_reducible rfl
              simp only [Act.put, List.setIfInBounds_toArray, List.set_cons_zero, List.set_cons_succ]
              refine wpAny_done (by kernel_rfl) ?_ _
              refine NoPanic.normal ?_
              go_wp2
              go_meet
              case rel => exact ⟨_, _, _, _, _, rfl, bb, Rb.out.1, Rb.out.2⟩
          · go_simp
            refine (repeat_any _ (-1) G.length _ hI20 (by omega)).mono ?_
            rintro e W23 ⟨pv, rfl, hb, ho⟩
            obtain ⟨pva, pvn, pvc, rfl⟩ := ho.at.shape
            refine hK _ _ ?_
            clear hK KK
            have R23 := R20.add (i := (4, 0)) (r' := rowI (.slice pva pvn pvc) (List.replicate G.length (-1))) hb (ho.mono hB20) (fun k hk => (ho.lt k hk).1)
            have b23 := b20.trans (hb.mono hB20)
            have hB23 := Nat.le_trans hB20 hb.size
            have hI23 := hI20.below hb
            clear ho hb R20 hI20
            refine wpAny_ready (rs := [4]) (by kernel_rfl) (by simp) (AllReady.cons rfl (fun KK hK => ?_) (AllReady.nil))
            · obtain ⟨fv, W24, mk, ho, hb⟩ := run_makeI (G.length : Int) G.length W23 rfl (by omega)
              obtain ⟨fva, fvn, fvc, rfl⟩ := ho.at.shape
              go_simp
              refine hK _ _ ?_
              clear hK KK mk
              have R24 := R23.add (i := (2, 0)) (r' := rowI (.slice fva fvn fvc) (List.replicate G.length 0)) hb (ho.mono hB23) (fun k hk => (ho.lt k hk).1)
              have b24 := b23.trans (hb.mono hB23)
              have hB24 := Nat.le_trans hB23 hb.size
              have hI24 := hI23.below hb
              clear hI23
              clear ho hb R23
              refine takeA (i := 8) (v := ?_) (some 29) rfl rfl (by kernel_rfl) (by kernel_rfl) (by kernel_rfl) (fun _ _ _ h => h) (Or.inl ⟨by rfl, ?_⟩) ?_
              rotate_left
              · intro _; go_simp; try with_reducible rfl
              simp only [Act.put, List.setIfInBounds_toArray, List.set_cons_zero, List.set_cons_succ]
              have Rb := search_box (na := na) (gl := G.length) (nc := nc) (n := G.length) (lv := .slice lva lvn lvc) (fv := .slice fva fvn fvc) (pv := .slice pva pvn pvc) R24 hB24 (by simp [upd]) (by simp [upd]) (by simp [upd]) (by simp [upd, names0]) (by simp [upd, names0])
              replace Rb := Lib.hid Rb
              replace R24 := Lib.hid R24
              have bb := b24.trans ((belowAlloc W24 (.cells #[.slice na G.length nc, .slice lva lvn lvc, .slice fva fvn fvc, .slice none 0 0, .slice pva pvn pvc, .slice none 0 0, .int .i64 0] 151)).mono hB24)
              refine wpAny_ready (rs := [9]) (by kernel_rfl) (by simp) (AllReady.cons rfl (fun KK hK => ?_) AllReady.nil)
              go_simp
              refine hK _ _ ?_
              clear hK KK
              refine takeA (i := 10) (v := ?_) (some 6) rfl rfl (by kernel_rfl) (by kernel_rfl) (by kernel_rfl) (fun _ _ _ h => h) (Or.inl ⟨by rfl, ?_⟩) ?_
              rotate_left
              · intro _; go_simp; try with_reducible rfl
              simp only [Act.put, List.setIfInBounds_toArray, List.set_cons_zero, List.set_cons_succ]
              refine wpAny_done (by kernel_rfl) ?_ _
              refine NoPanic.normal ?_
              go_wp2
              go_meet
              case rel => exact ⟨_, _, _, _, _, rfl, bb, Rb.out.1, Rb.out.2⟩
        · obtain ⟨fv, W25, mk, ho, hb⟩ := run_makeI (G.length : Int) G.length W19 rfl (by omega)
          obtain ⟨fva, fvn, fvc, rfl⟩ := ho.at.shape
          go_simp
          refine hK _ _ ?_
          clear hK KK mk
          have R25 := R19.add (i := (2, 0)) (r' := rowI (.slice fva fvn fvc) (List.replicate G.length 0)) hb (ho.mono hB19) (fun k hk => (ho.lt k hk).1)
          have b25 := b19.trans (hb.mono hB19)
          have hB25 := Nat.le_trans hB19 hb.size
          have hI25 := hI19.below hb
          clear hI19
          clear ho hb R19
          refine wpAny_ready (rs := [2, 7]) (by kernel_rfl) (by simp) (AllReady.cons rfl (fun KK hK => ?_) (AllReady.cons rfl (fun KK hK => ?_) (AllReady.nil)))
          · obtain ⟨lv, W26, mk, ho, hb⟩ := run_makeI (G.length : Int) G.length W25 rfl (by omega)
            obtain ⟨lva, lvn, lvc, rfl⟩ := ho.at.shape
            go_simp
            refine hK _ _ ?_
            clear hK KK mk
            have R26 := R25.add (i := (1, 0)) (r' := rowI (.slice lva lvn lvc) (List.replicate G.length 0)) hb (ho.mono hB25) (fun k hk => (ho.lt k hk).1)
            have b26 := b25.trans (hb.mono hB25)
            have hB26 := Nat.le_trans hB25 hb.size
            have hI26 := hI25.below hb
            clear hI25
            clear ho hb R25
            refine wpAny_ready (rs := [7]) (by kernel_rfl) (by simp) (AllReady.cons rfl (fun KK hK => ?_) (AllReady.nil))
            · go_simp
              refine (repeat_any _ (-1) G.length _ hI26 (by omega)).mono ?_
              rintro e W27 ⟨pv, rfl, hb, ho⟩
              obtain ⟨pva, pvn, pvc, rfl⟩ := ho.at.shape
              refine hK _ _ ?_
              clear hK KK
              have R27 := R26.add (i := (4, 0)) (r' := rowI (.slice pva pvn pvc) (List.replicate G.length (-1))) hb (ho.mono hB26) (fun k hk => (ho.lt k hk).1)
              have b27 := b26.trans (hb.mono hB26)
              have hB27 := Nat.le_trans hB26 hb.size
              have hI27 := hI26.below hb
              clear ho hb R26 hI26
              refine takeA (i := 8) (v := ?_) (some 29) rfl rfl (by kernel_rfl) (by kernel_rfl) (by kernel_rfl) (fun _ _ _ h => h) (Or.inl ⟨by rfl, ?_⟩) ?_
              rotate_left
              · intro _; go_simp; try with_reducible rfl
              simp only [Act.put, List.setIfInBounds_toArray, List.set_cons_zero, List.set_cons_succ]
              have Rb := search_box (na := na) (gl := G.length) (nc := nc) (n := G.length) (lv := .slice lva lvn lvc) (fv := .slice fva fvn fvc) (pv := .slice pva pvn pvc) R27 hB27 (by simp [upd]) (by simp [upd]) (by simp [upd]) (by simp [upd, names0]) (by simp [upd, names0])
              replace Rb := Lib.hid Rb
              replace R27 := Lib.hid R27
              have bb := b27.trans ((belowAlloc W27 (.cells #[.slice na G.length nc, .slice lva lvn lvc, .slice fva fvn fvc, .slice none 0 0, .slice pva pvn pvc, .slice none 0 0, .int .i64 0] 151)).mono hB27)
              refine wpAny_ready (rs := [9]) (by kernel_rfl) (by simp) (AllReady.cons rfl (fun KK hK => ?_) AllReady.nil)
              go_simp
              refine hK _ _ ?_
              clear hK KK
              refine takeA (i := 10) (v := ?_) (some 6) rfl rfl (by kernel_rfl) (by kernel_rfl) (by kernel_rfl) (fun _ _ _ h => h) (Or.inl ⟨by rfl, ?_⟩) ?_
              rotate_left
              · intro _; go_simp; try with_reducible rfl
              simp only [Act.put, List.setIfInBounds_toArray, List.set_cons_zero, List.set_cons_succ]
              refine wpAny_done (by kernel_rfl) ?_ _
              refine NoPanic.normal ?_
              go_wp2
              go_meet
              case rel => exact ⟨_, _, _, _, _, rfl, bb, Rb.out.1, Rb.out.2⟩
          · go_simp
            refine (repeat_any _ (-1) G.length _ hI25 (by omega)).mono ?_
            rintro e W28 ⟨pv, rfl, hb, ho⟩
            obtain ⟨pva, pvn, pvc, rfl⟩ := ho.at.shape
            refine hK _ _ ?_
            clear hK KK
            have R28 := R25.add (i := (4, 0)) (r' := rowI (.slice pva pvn pvc) (List.replicate G.length (-1))) hb (ho.mono hB25) (fun k hk => (ho.lt k hk).1)
            have b28 := b25.trans (hb.mono hB25)
            have hB28 := Nat.le_trans hB25 hb.size
            have hI28 := hI25.below hb
            clear ho hb R25 hI25
            refine wpAny_ready (rs := [2]) (by kernel_rfl) (by simp) (AllReady.cons rfl (fun KK hK => ?_) (AllReady.nil))
            · obtain ⟨lv, W29, mk, ho, hb⟩ := run_makeI (G.length : Int) G.length W28 rfl (by omega)
              obtain ⟨lva, lvn, lvc, rfl⟩ := ho.at.shape
              go_simp
              refine hK _ _ ?_
              clear hK KK mk
              have R29 := R28.add (i := (1, 0)) (r' := rowI (.slice lva lvn lvc) (List.replicate G.length 0)) hb (ho.mono hB28) (fun k hk => (ho.lt k hk).1)
              have b29 := b28.trans (hb.mono hB28)
              have hB29 := Nat.le_trans hB28 hb.size
              have hI29 := hI28.below hb
              clear hI28
              clear ho hb R28
              refine takeA (i := 8) (v := ?_) (some 29) rfl rfl (by kernel_rfl) (by kernel_rfl) (by kernel_rfl) (fun _ _ _ h => h) (Or.inl ⟨by rfl, ?_⟩) ?_
              rotate_left
              · intro _; go_simp; try with_reducible rfl
              simp only [Act.put, List.setIfInBounds_toArray, List.set_cons_zero, List.set_cons_succ]
              have Rb := search_box (na := na) (gl := G.length) (nc := nc) (n := G.length) (lv := .slice lva lvn lvc) (fv := .slice fva fvn fvc) (pv := .slice pva pvn pvc) R29 hB29 (by simp [upd]) (by simp [upd]) (by simp [upd]) (by simp [upd, names0]) (by simp [upd, names0])
              replace Rb := Lib.hid Rb
              replace R29 := Lib.hid R29
              have bb := b29.trans ((belowAlloc W29 (.cells #[.slice na G.length nc, .slice lva lvn lvc, .slice fva fvn fvc, .slice none 0 0, .slice pva pvn pvc, .slice none 0 0, .int .i64 0] 151)).mono hB29)
              refine wpAny_ready (rs := [9]) (by kernel_rfl) (by simp) (AllReady.cons rfl (fun KK hK => ?_) AllReady.nil)
              go_simp
              refine hK _ _ ?_
              clear hK KK
              refine takeA (i := 10) (v := ?_) (some 6) rfl rfl (by kernel_rfl) (by kernel_rfl) (by kernel_rfl) (fun _ _ _ h => h) (Or.inl ⟨by rfl, ?_⟩) ?_
              rotate_left
              · intro _; go_simp; try with_reducible rfl
              simp only [Act.put, List.setIfInBounds_toArray, List.set_cons_zero, List.set_cons_succ]
              refine wpAny_done (by kernel_rfl) ?_ _
              refine NoPanic.normal ?_
              go_wp2
              go_meet
              case rel => exact ⟨_, _, _, _, _, rfl, bb, Rb.out.1, Rb.out.2⟩
        · go_simp
          refine (repeat_any _ (-1) G.length _ hI19 (by omega)).mono ?_
          rintro e W30 ⟨pv, rfl, hb, ho⟩
          obtain ⟨pva, pvn, pvc, rfl⟩ := ho.at.shape
          refine hK _ _ ?_
          clear hK KK
          have R30 := R19.add (i := (4, 0)) (r' := rowI (.slice pva pvn pvc) (List.replicate G.length (-1))) hb (ho.mono hB19) (fun k hk => (ho.lt k hk).1)
          have b30 := b19.trans (hb.mono hB19)
          have hB30 := Nat.le_trans hB19 hb.size
          have hI30 := hI19.below hb
          clear ho hb R19 hI19
          refine wpAny_ready (rs := [2, 4]) (by kernel_rfl) (by simp) (AllReady.cons rfl (fun KK hK => ?_) (AllReady.cons rfl (fun KK hK => ?_) (AllReady.nil)))
          · obtain ⟨lv, W31, mk, ho, hb⟩ := run_makeI (G.length : Int) G.length W30 rfl (by omega)
            obtain ⟨lva, lvn, lvc, rfl⟩ := ho.at.shape
            go_simp
            refine hK _ _ ?_
            clear hK KK mk
            have R31 := R30.add (i := (1, 0)) (r' := rowI (.slice lva lvn lvc) (List.replicate G.length 0)) hb (ho.mono hB30) (fun k hk => (ho.lt k hk).1)
            have b31 := b30.trans (hb.mono hB30)
            have hB31 := Nat.le_trans hB30 hb.size
            have hI31 := hI30.below hb
            clear hI30
            clear ho hb R30
            refine wpAny_ready (rs := [4]) (by kernel_rfl) (by simp) (AllReady.cons rfl (fun KK hK => ?_) (AllReady.nil))
            · obtain ⟨fv, W32, mk, ho, hb⟩ := run_makeI (G.length : Int) G.length W31 rfl (by omega)
              obtain ⟨fva, fvn, fvc, rfl⟩ := ho.at.shape
              go_simp
              refine hK _ _ ?_
              clear hK KK mk
              have R32 := R31.add (i := (2, 0)) (r' := rowI (.slice fva fvn fvc) (List.replicate G.length 0)) hb (ho.mono hB31) (fun k hk => (ho.lt k hk).1)
              have b32 := b31.trans (hb.mono hB31)
              have hB32 := Nat.le_trans hB31 hb.size
              have hI32 := hI31.below hb
              clear hI31
              clear ho hb R31
              refine takeA (i := 8) (v := ?_) (some 29) rfl rfl (by kernel_rfl) (by kernel_rfl) (by kernel_rfl) (fun _ _ _ h => h) (Or.inl ⟨by rfl, ?_⟩) ?_
              rotate_left
              · intro _; go_simp; try with_reducible rfl
              simp only [Act.put, List.setIfInBounds_toArray, List.set_cons_zero, List.set_cons_succ]
              have Rb := search_box (na := na) (gl := G.length) (nc := nc) (n := G.length) (lv := .slice lva lvn lvc) (fv := .slice fva fvn fvc) (pv := .slice pva pvn pvc) R32 hB32 (by simp [upd]) (by simp [upd]) (by simp [upd]) (by simp [upd, names0]) (by simp [upd, names0])
              replace Rb := Lib.hid Rb
              replace R32 := Lib.hid R32
              have bb := b32.trans ((belowAlloc W32 (.cells #[.slice na G.length nc, .slice lva lvn lvc, .slice fva fvn fvc, .slice none 0 0, .slice pva pvn pvc, .slice none 0 0, .int .i64 0] 151)).mono hB32)
              refine wpAny_ready (rs := [9]) (by kernel_rfl) (by simp) (AllReady.cons rfl (fun KK hK => ?_) AllReady.nil)
              go_simp
              refine hK _ _ ?_
              clear hK KK
              refine takeA (i := 10) (v := ?_) (some 6) rfl rfl (by kernel_rfl) (by kernel_rfl) (by kernel_rfl) (fun _ _ _ h => h) (Or.inl ⟨by rfl, ?_⟩) ?_
              rotate_left
              · intro _; go_simp; try with_reducible rfl
              simp only [Act.put, List.setIfInBounds_toArray, List.set_cons_zero, List.set_cons_succ]
              refine wpAny_done (by kernel_rfl) ?_ _
              refine NoPanic.normal ?_
              go_wp2
              go_meet
              case rel => exact ⟨_, _, _, _, _, rfl, bb, Rb.out.1, Rb.out.2⟩
          · obtain ⟨fv, W33, mk, ho, hb⟩ := run_makeI (G.length : Int) G.length W30 rfl (by omega)
            obtain ⟨fva, fvn, fvc, rfl⟩ := ho.at.shape
            go_simp
            refine hK _ _ ?_
            clear hK KK mk
            have R33 := R30.add (i := (2, 0)) (r' := rowI (.slice fva fvn fvc) (List.replicate G.length 0)) hb (ho.mono hB30) (fun k hk => (ho.lt k hk).1)
            have b33 := b30.trans (hb.mono hB30)
            have hB33 := Nat.le_trans hB30 hb.size
            have hI33 := hI30.below hb
            clear hI30
            clear ho hb R30
            refine wpAny_ready (rs := [2]) (by kernel_rfl) (by simp) (AllReady.cons rfl (fun KK hK => ?_) (AllReady.nil))
            · obtain ⟨lv, W34, mk, ho, hb⟩ := run_makeI (G.length : Int) G.length W33 rfl (by omega)
              obtain ⟨lva, lvn, lvc, rfl⟩ := ho.at.shape
              go_simp
              refine hK _ _ ?_
              clear hK KK mk
              have R34 := R33.add (i := (1, 0)) (r' := rowI (.slice lva lvn lvc) (List.replicate G.length 0)) hb (ho.mono hB33) (fun k hk => (ho.lt k hk).1)
              have b34 := b33.trans (hb.mono hB33)
              have hB34 := Nat.le_trans hB33 hb.size
              have hI34 := hI33.below hb
              clear hI33
              clear ho hb R33
              refine takeA (i := 8) (v := ?_) (some 29) rfl rfl (by kernel_rfl) (by kernel_rfl) (by kernel_rfl) (fun _ _ _ h => h) (Or.inl ⟨by rfl, ?_⟩) ?_
              rotate_left
              · intro _; go_simp; try with_reducible rfl
              simp only [Act.put, List.setIfInBounds_toArray, List.set_cons_zero, List.set_cons_succ]
              have Rb := search_box (na := na) (gl := G.length) (nc := nc) (n := G.length) (lv := .slice lva lvn lvc) (fv := .slice fva fvn fvc) (pv := .slice pva pvn pvc) R34 hB34 (by simp [upd]) (by simp [upd]) (by simp [upd]) (by simp [upd, names0]) (by simp [upd, names0])
              replace Rb := Lib.hid Rb
              replace R34 := Lib.hid R34
              have bb := b34.trans ((belowAlloc W34 (.cells #[.slice na G.length nc, .slice lva lvn lvc, .slice fva fvn fvc, .slice none 0 0, .slice pva pvn pvc, .slice none 0 0, .int .i64 0] 151)).mono hB34)
              refine wpAny_ready (rs := [9]) (by kernel_rfl) (by simp) (AllReady.cons rfl (fun KK hK => ?_) AllReady.nil)
              go_simp
              refine hK _ _ ?_
              clear hK KK
              refine takeA (i := 10) (v := ?_) (some 6) rfl rfl (by kernel_rfl) (by kernel_rfl) (by kernel_rfl) (fun _ _ _ h => h) (Or.inl ⟨by rfl, ?_⟩) ?_
              rotate_left
              · intro _; go_simp; try with_reducible rfl
              simp only [Act.put, List.setIfInBounds_toArray, List.set_cons_zero, List.set_cons_succ]
              refine wpAny_done (by kernel_rfl) ?_ _
              refine NoPanic.normal ?_
              go_wp2
              go_meet
              case rel => exact ⟨_, _, _, _, _, rfl, bb, Rb.out.1, Rb.out.2⟩
    case rest =>
      obtain ⟨d, f, lv, fv, pv, rfl, b2, hr2, h2⟩ := hcut
      have hG1 := Lib.hid (h.out.below b1)
      have hI0 := TInv.init G.length (adjOf G) hok.out.lt
      replace hr2 := Lib.hid hr2
      replace hI0 := Lib.hid hI0
      go_wp2_with fail
      go_loopw [33] (fun iv wr => ∃ (k : Nat) (f' : Names) (ov cv : Value) (S : TS), k ≤ G.length ∧ iv = .int .i64 k ∧ Rows w1.heap.size wr f' ∧ Below w1.heap.size w1 wr ∧ SN f' d (.slice na G.length nc) lv fv pv ov cv G.length S ∧ TInv G.length (adjOf G) S ∧ S.calls = [] ∧ ∀ x, x < k → S.found x ≠ 0) (fun iv _ => G.length - (intOf iv).toNat)
      case atStart => exact ⟨0, f, _, _, initS, by omega, rfl, hr2.out, b2, h2, hI0.out, rfl, fun x hx => by omega⟩
      case round =>
        obtain ⟨k, f', ov, cv, S, hk, rfl, hr3, b3, h3, hI3, hc3, hall⟩ := hrel
        obtain ⟨wo, rfl⟩ : ∃ wo : World, wo = wr := ⟨_, rfl⟩
        by_cases hlt : k < G.length
        · have x2 := h3.cell hr3 2 (by decide)
          simp only [List.getElem?_cons_succ, List.getElem?_cons_zero] at x2
          have oF := (hr3.ownI h3.fnd).at
          have iF := fun w' => oF.idx k (by rw [tab_len]; exact hlt) w'
          have cF := oF.cellD k (by rw [tab_len]; exact hlt)
          rw [tab_get _ _ _ hlt] at cF
          clear oF
          generalize valAt fv k = fa at *
          by_cases hfk : S.found k = 0
          · have hF := from_any w1 wo f' d na nc lv fv pv ov cv G S k hG1.out hok.out hn b3 hr3 h3 hI3 hc3 hlt hfk
            rw [hfk] at cF
            replace hF := Lib.hid hF
            replace hr3 := Lib.hid hr3
            replace hI3 := Lib.hid hI3
            replace hall := Lib.hid hall
            replace hfk := Lib.hid hfk
            replace hc3 := Lib.hid hc3
            go_wp2_with fail
            clear x2 iF cF
            refine hF.out.mono ?_
            rintro e w4 ⟨rfl, b4, f4, ov4, cv4, T, hr4, h4, hI4, hc4, hk4⟩
            replace hr4 := Lib.hid hr4
            replace hI4 := Lib.hid hI4
            replace hk4 := Lib.hid hk4
            replace hc4 := Lib.hid hc4
            go_wp2
            go_roundw
            case measure => simp [intOf]; omega
            case rel =>
              refine ⟨k + 1, f4, ov4, cv4, T, by omega, by go_num, hr4.out, b3.trans b4, h4, hI4.out, hc4.out, fun x hx => hk4.out x ?_⟩
              by_cases e : x = k
              · exact .inr e
              · exact .inl (hall.out x (by omega))
          · have hne : ((S.found k : Int) == 0) = false := by rw [beq_eq_false_iff_ne]; omega
            replace hr3 := Lib.hid hr3
            replace hI3 := Lib.hid hI3
            replace hall := Lib.hid hall
            replace hfk := Lib.hid hfk
            replace hc3 := Lib.hid hc3
            go_wp2
            go_roundw
            case measure => simp [intOf]; omega
            case rel =>
              refine ⟨k + 1, f', ov, cv, S, by omega, by go_num, hr3.out, b3, h3, hI3.out, hc3.out, fun x hx => ?_⟩
              by_cases e : x = k
              · subst e; exact hfk.out
              · exact hall.out x (by omega)
        · obtain rfl : k = G.length := by omega
          have hD := hI3.done hc3 hall
          have x4 := h3.cell hr3 4 (by decide)
          simp only [List.getElem?_cons_succ, List.getElem?_cons_zero] at x4
          have oP := hr3.ownI h3.part
          have hpb : ∀ x, x < G.length → (Lit.int .i64 (S.part x)).wf = true := fun x hx => by
            obtain ⟨q, hq, hq2, _⟩ := hI3.P1 x (hD.1 x hx)
            have := hI3.seenLt q (hI3.partSeen q hq2)
            exact WalkArith.wf_i64 (by omega)
          have hparts : PartsOf G.length (adjOf G) ((List.range G.length).map (numO S.part)) := ⟨S.part, hD.2, rfl⟩
          have hpv := oP.at
          generalize S.part = p at *
          have hM := NumMap.made wo
          have hbM := belowAlloc wo (.map #[] 0)
          obtain ⟨W5, hW5⟩ : ∃ W5 : World, W5 = wo.alloc (.map #[] 0) := ⟨_, rfl⟩
          have hs5 : W5.heap.size = wo.heap.size + 1 := by rw [hW5]; simp
          rw [← hW5] at hM hbM
          obtain ⟨out, w6, mk6, ho6, hb6⟩ := run_makeI (G.length : Int) G.length W5 rfl (by omega)
          rw [hs5] at ho6 hb6
          have hb56 : Below wo.heap.size wo w6 := hbM.trans (hb6.mono (by omega))
          have hM6 := hM.kept (World.grownBy.mk hb6.os hb6.tape hb6.output hb6.size (fun j hj _ => hb6.block j (by omega)) : W5.grownBy w6 none) (by simp)
          have lP := hpv.len
          rw [tabI_len] at lP
          have x45 := (hbM.cell (World.block_lt_of_cell? _ _ x4)).trans x4
          have x46 := (hb56.cell (World.block_lt_of_cell? _ _ x4)).trans x4
          obtain ⟨outa, outn, outc, rfl⟩ := ho6.at.shape
          have hz : tabI G.length (fun v => if v < 0 then numO p v else 0) = List.replicate G.length 0 := by
            unfold tabI; apply List.ext_getElem <;> simp
          replace hparts := Lib.hid hparts
          replace hpb := Lib.hid hpb
          replace hpv := Lib.hid hpv
          replace hD := Lib.hid hD
          replace hI3 := Lib.hid hI3
          replace hr3 := Lib.hid hr3
          replace hall := Lib.hid hall
          replace hM6 := Lib.hid hM6
          replace ho6 := Lib.hid ho6
          replace hz := Lib.hid hz
          clear hM hbM oP x45
          have mkm : (Instr.makeMap 153 none).run Tryd.prog wo = .ok (.map (some wo.heap.size)) W5 := by rw [hW5]; rfl
          replace hW5 := Lib.hid hW5
          go_wp2_with fail
          clear mk6 mkm x46 lP
          go_loopw [56] (fun iv wr => ∃ k nn : Nat, k ≤ G.length ∧ nn ≤ k ∧ iv = .int .i64 k ∧ NumMap wr wo.heap.size nn (numM p k).1 (numM p k).2 ∧ OwnI (wo.heap.size + 1) wr (.slice outa outn outc) (tabI G.length (fun v => if v < k then numO p v else 0)) ∧ Below wo.heap.size wo wr) (fun iv _ => G.length - (intOf iv).toNat)
          case atStart => exact ⟨0, 0, by omega, by omega, rfl, hM6.out, by rw [hz.out]; exact ho6.out, hb56⟩
          case round =>
            obtain ⟨k, nn, hk, hnn, rfl, hM, hO, hB⟩ := hrel
            obtain ⟨W, rfl⟩ : ∃ W : World, W = wr := ⟨_, rfl⟩
            by_cases hlt : k < G.length
            · have hpk := hpb.out k hlt
              have hPt := hpv.out.below (hB.mono (by omega) : Below wo.heap.size wo W)
              have iP := fun w' => hPt.idx k (by rw [tabI_len]; exact hlt) w'
              have cP := hPt.cellD k (by rw [tabI_len]; exact hlt)
              rw [tabI_get _ _ _ hlt] at cP
              have hown := numM_own p k
              have hsz2 := numM_size p k
              have hwn : (Lit.int .i64 (((numM p k).2 : Nat) : Int)).wf = true := WalkArith.wf_i64 (by omega)
              have hnext : tabI G.length (updN (fun v => if v < k then numO p v else 0) k (numO p k)) = tabI G.length (fun v => if v < k + 1 then numO p v else 0) := by
                congr 1
                funext v
                by_cases e : v = k
                · subst e; rw [updN_same, if_pos (by omega)]
                · rw [updN_other _ _ _ e]
                  by_cases e2 : v < k
                  · rw [if_pos e2, if_pos (by omega)]
                  · rw [if_neg e2, if_neg (by omega)]
              obtain ⟨pc, hpc⟩ : ∃ pc, p k = pc := ⟨_, rfl⟩
              obtain ⟨px, hpx⟩ : ∃ px, numO p k = px := ⟨_, rfl⟩
              rw [hpc] at cP hpk hown
              rw [hpx] at hown hnext
              generalize valAt pv k = pa at *
              have hfin : ∀ W' : World, OwnI (wo.heap.size + 1) W' (.slice outa outn outc) (tabI G.length (fun v => if v < k then numO p v else 0)) → Below wo.heap.size wo W' → ∀ nn', NumMap W' wo.heap.size nn' (numM p (k + 1)).1 (numM p (k + 1)).2 →
                  NumMap (W'.setCell (valAt (.slice outa outn outc) k) (.int .i64 px)) wo.heap.size nn' (numM p (k + 1)).1 (numM p (k + 1)).2 ∧ OwnI (wo.heap.size + 1) (W'.setCell (valAt (.slice outa outn outc) k) (.int .i64 px)) (.slice outa outn outc) (tabI G.length (fun v => if v < k + 1 then numO p v else 0)) ∧ Below wo.heap.size wo (W'.setCell (valAt (.slice outa outn outc) k) (.int .i64 px)) := by
                intro W' hO' hB' nn' hM'
                have hs := hO'.set k (by rw [tabI_len]; exact hlt) px
                rw [tabI_upd, hnext] at hs
                have hg := hO'.toV.setGrown k (by rw [List.length_map, tabI_len]; exact hlt) (.int .i64 px)
                have hbk := hO'.toV.blkB k (by rw [List.length_map, tabI_len]; exact hlt)
                refine ⟨hM'.kept hg (fun e => ?_), hs, hB'.setCell (by have := hbk.2; omega) _⟩
                have := (hO'.toV.lt wo.heap.size e.symm).1
                omega
              replace hfin := Lib.hid hfin
              replace hnext := Lib.hid hnext
              replace hparts := Lib.hid hparts.out
              have iO : ∀ w', (Instr.indexAt 22 (.slice outa outn outc) (.int .i64 k)).run Tryd.prog w' = .ok (.pointer (some (valAt (.slice outa outn outc) k))) w' := fun w' => hO.at.idx k (by rw [tabI_len]; exact hlt) w'
              by_cases hs : ((numM p k).1 pc).isSome
              · have hMk : numM p (k + 1) = numM p k := by
                  show (if _ then _ else _) = _
                  rw [hpc, if_pos hs]
                rw [hMk] at hown
                obtain ⟨c, hl1⟩ := hM.lookOk pc hpk
                rw [hs] at hl1
                have hl2 := hM.look pc px hpk hown
                have cO := hO.at.cellD k (by rw [tabI_len]; exact hlt)
                have fO := hO.frz k (by rw [tabI_len]; exact hlt)
                have hF := hfin.out W hO hB nn (by rw [hMk]; exact hM)
                replace hF := Lib.hid hF
                replace hO := Lib.hid hO
                replace hM := Lib.hid hM
                replace hMk := Lib.hid hMk
                replace hown := Lib.hid hown
                generalize valAt (.slice outa outn outc) k = oa at *
                generalize (tabI G.length fun v => if v < k then numO p v else 0).getD k 0 = oc at cO
                go_wp2
                go_roundw
                case measure => simp [intOf]; omega
                case rel => exact ⟨k + 1, nn, by omega, by omega, by go_num, hF.out.1, hF.out.2.1, hF.out.2.2⟩
              · have hsn : (numM p k).1 pc = none := by simpa using hs
                have hMk : numM p (k + 1) = (updM (numM p k).1 pc ((numM p k).2 : Int), (numM p k).2 + 1) := by
                  show (if _ then _ else _) = _
                  rw [hpc, if_neg hs]
                obtain ⟨c, hl1⟩ := hM.lookOk pc hpk
                rw [hsn, Option.isSome_none] at hl1
                have lM := hM.len 3
                obtain ⟨W', hst, hM', hg'⟩ := hM.store pc _ hpk hwn hsn (by omega)
                have hMn : NumMap W' wo.heap.size (nn + 1) (numM p (k + 1)).1 (numM p (k + 1)).2 := by rw [hMk]; exact hM'
                have hO' := ownI_map hO hM.blk.choose_spec.choose_spec hg'
                have hB' : Below wo.heap.size wo W' := hB.grown hg' hB.size (fun j hj => by cases hj; exact Nat.le_refl _)
                have hl2 := hMn.look pc px hpk hown
                have cO := hO'.at.cellD k (by rw [tabI_len]; exact hlt)
                have fO := hO'.frz k (by rw [tabI_len]; exact hlt)
                have hF := hfin.out W' hO' hB' (nn + 1) hMn
                replace hF := Lib.hid hF
                replace hO := Lib.hid hO
                replace hO' := Lib.hid hO'
                replace hM := Lib.hid hM
                replace hM' := Lib.hid hM'
                replace hMn := Lib.hid hMn
                replace hMk := Lib.hid hMk
                replace hown := Lib.hid hown
                replace hsn := Lib.hid hsn
                clear hs
                generalize valAt (.slice outa outn outc) k = oa at *
                generalize (tabI G.length fun v => if v < k then numO p v else 0).getD k 0 = oc at cO
                generalize (numM p k).2 = ms at *
                go_wp2
                go_roundw
                case measure => simp [intOf]; omega
                case rel => exact ⟨k + 1, nn + 1, by omega, by omega, by go_num, hF.out.1, hF.out.2.1, hF.out.2.2⟩
            · obtain rfl : k = G.length := by omega
              have hres : tabI G.length (fun v => if v < G.length then numO p v else 0) = (List.range G.length).map (numO p) := by
                unfold tabI
                exact List.map_congr_left fun v hv => if_pos (List.mem_range.1 hv)
              rw [hres] at hO
              replace hO := Lib.hid hO
              replace hM := Lib.hid hM
              replace hres := Lib.hid hres
              go_wp2
              go_ret2
              refine ⟨_, _, rfl, b1.trans ((b3.mono b1.size).trans (hB.mono (Nat.le_trans b1.size b3.size))), ⟨by rw [hck.out]; rfl, ⟨fun _ => ⟨_, hparts.out, hO.out.mono (Nat.le_trans (Nat.le_trans b1.size b3.size) (Nat.le_succ _))⟩, fun q => absurd hck.out q⟩⟩⟩
end Go.Proofs.YtmhiambkfdkkbaaDoor

namespace Go.Proofs.YtmhiambkfdkkbaaDoor
open Go.RowKit
set_option maxRecDepth 100000

/-- The lists of a function. -/
def rowsOf (n : Nat) (F : Nat → List Int) : List (List Int) := (List.range n).map F
theorem rowsOf_len (n : Nat) (F : Nat → List Int) : (rowsOf n F).length = n := by simp [rowsOf]
theorem rowsOf_get (n : Nat) (F : Nat → List Int) (u : Nat) (hu : u < n) : (rowsOf n F).getD u [] = F u := by simp [rowsOf, List.getD, hu]
theorem vAt_set_same {l : List Value} {k : Nat} {g : Value} (h : k < l.length) : vAt (l.set k g) k = g := by simp [vAt, List.getD, h]
theorem vAt_set_ne {l : List Value} {k t : Nat} {g : Value} (h : t ≠ k) : vAt (l.set k g) t = vAt l t := by
  simp [vAt, List.getD, Ne.symm h]
/-- What the names name: the outer row, the lists. -/
structure WN (f : Names) (ov : Value) (vals : List Value) (n : Nat) (F : Nat → List Int) : Prop where
  outer : f (1, 0) = some (rowV 22 ov vals)
  len : vals.length = n
  rows : ∀ u, u < n → f (2, u) = some (rowI (vAt vals u) (F u))
section
variable {B : Nat} {w : World} {f : Names} {ov : Value} {vals : List Value} {n : Nat} {F : Nat → List Int}
theorem WN.lists (h : WN f ov vals n F) (hr : Rows B w f) : ListsAt w ov (rowsOf n F) :=
  ⟨vals, (hr.ownV h.outer).at, by rw [h.len, rowsOf_len], fun i hi => by
    rw [rowsOf_len] at hi
    rw [rowsOf_get n F i hi]
    exact (hr.ownI (h.rows i hi)).at⟩
/-- out[u] = a list: the list's row is there; now the outer row's cell. -/
theorem WN.put (h : WN f ov vals n F) {w1 : World} {u : Nat} (hu : u < n) {v' : Value} {xs : List Int} (hr1 : Rows B w1 (upd f (2, u) (some (rowI v' xs)))) :
    w1.cell? (valAt ov u) = some (vAt vals u) ∧ w1.frozen? (valAt ov u) = false ∧ B ≤ (valAt ov u).block ∧
    ∃ f', Rows B (w1.setCell (valAt ov u) v') f' ∧ WN f' ov (vals.set u v') n (updN F u xs) ∧ ∀ i, i ≠ (1, 0) → i ≠ (2, u) → f' i = f i := by
  have ho : upd f (2, u) (some (rowI v' xs)) (1, 0) = some (rowV 22 ov vals) := by rw [upd_ne _ _ (by simp)]; exact h.outer
  have hl : u < vals.length := by rw [h.len]; exact hu
  have hO := hr1.ownV ho
  refine ⟨hO.at.cellV u hl, hO.frz u hl, (hO.blkB u hl).2, _, hr1.setV ho u hl v', ⟨upd_same _ _ _, by simpa using h.len, fun t ht => ?_⟩, fun i h1 h2 => by rw [upd_ne _ _ h1, upd_ne _ _ h2]⟩
  rw [upd_ne _ _ (by simp)]
  by_cases e : t = u
  · subst e
    rw [upd_same, vAt_set_same hl, updN_same]
  · rw [upd_ne _ _ (by simpa using e), vAt_set_ne e, updN_other _ _ _ e]
    exact h.rows t ht
/-- A list that a call has made. -/
theorem WN.new (_h : WN f ov vals n F) (hr : Rows B w f) {w1 : World} (u : Nat) {v' : Value} {xs : List Int} (hb : Below w.heap.size w w1) (hB : B ≤ w.heap.size) (ho : OwnI w.heap.size w1 v' xs) : Rows B w1 (upd f (2, u) (some (rowI v' xs))) :=
  hr.add hb (ho.mono hB) (fun k hk => (ho.lt k hk).1)
/-- append(out[u], x). -/
theorem WN.app (h : WN f ov vals n F) (hr : Rows B w f) {w1 : World} {u : Nat} (hu : u < n) {v' : Value} (x : Int) (ho : OwnI B w1 v' (F u ++ [x]))
    (hal : (roomOf v' = roomOf (vAt vals u) ∧ w.grownBy w1 (vAt vals u).ownBlock) ∨ (∃ k, v'.ownBlock = some k ∧ w.heap.size ≤ k ∧ w.grownBy w1 none)) : Rows B w1 (upd f (2, u) (some (rowI v' (F u ++ [x])))) := by
  have hO := hr.ownI (h.rows u hu)
  refine hr.grown (r' := rowI v' (F u ++ [x])) (h.rows u hu) (grown_via (hal.imp (·.2) (fun ⟨_, _, _, q⟩ => q))) ho ?_
  rcases hal with ⟨q, _⟩ | ⟨k, h1, h2, _⟩
  · obtain ⟨a1, n1, c1, e1⟩ := hO.at.shape
    obtain ⟨a2, n2, c2, e2⟩ := ho.at.shape
    exact .inl (ownBlock_of_room e1 e2 q)
  · exact .inr ⟨k, h1, h2⟩
/-- out[u][i] = x. -/
theorem WN.elem (h : WN f ov vals n F) (hr : Rows B w f) (u : Nat) (hu : u < n) (i : Nat) (hi : i < (F u).length) (x : Int) :
    ∃ f', Rows B (w.setCell (valAt (vAt vals u) i) (.int .i64 x)) f' ∧ WN f' ov vals n (updN F u ((F u).set i x)) := by
  refine ⟨_, hr.setI (h.rows u hu) i hi x, ⟨by rw [upd_ne _ _ (by simp)]; exact h.outer, h.len, fun t ht => ?_⟩⟩
  by_cases e : t = u
  · subst e; rw [upd_same, updN_same]
  · rw [upd_ne _ _ (by simpa using e), updN_other _ _ _ e]; exact h.rows t ht
end
/-- make([]T, n) as an equation. -/
theorem run_makeW {T E : TypeId} {z : Value} {b : Nat} (oc : OneCell T E z b) (C : Int) (n : Nat) (w : World) (hC : C = n) (hn : n ≤ 4398046511104) :
    ∃ v w', (Instr.makeSlice T (.int .i64 C) (.int .i64 C)).run Tryd.prog w = .ok v w' ∧ OwnV E w.heap.size w' v (List.replicate n z) ∧ Below w.heap.size w w' := by
  subst hC
  obtain ⟨i, hi, hz0, hz1, hz2⟩ := info_parts oc.hi
  have hb := oc.hb
  obtain ⟨w', hrun, r1, r2⟩ := run_make_full (P := Tryd.prog) w w.heap.size T E i z 1 oc.ht hi hz0 hz1 .i64 .i64 n (by
    rw [hz2]
    calc b * n ≤ 32 * 4398046511104 := Nat.mul_le_mul hb (by omega)
      _ ≤ _ := by decide) (by unfold maxLen; omega) (Nat.le_refl _)
  refine ⟨_, w', hrun, ?_, (Below.refl _ _).grown r2 (Nat.le_refl _) (by intro k hk; cases hk)⟩
  rw [oc.hz, toList_madeCells_one] at r1
  simpa [OwnV] using r1
/-- Lists none of which is made yet. -/
def nils (n : Nat) : Names := fun i => if i.1 = 2 ∧ i.2 < n then some (rowI (.slice none 0 0) []) else none
theorem rows_nils (B : Nat) (w : World) (n : Nat) : Rows B w (nils n) := by
  refine ⟨fun i r hi => ?_, fun i j r s hi _ _ => ?_⟩
  · unfold nils at hi
    split at hi
    · injection hi with hi; subst hi; exact OwnI.nil B w
    · cases hi
  · left
    unfold nils at hi
    split at hi
    · injection hi with hi; subst hi; rfl
    · cases hi
/-- make([][]int, n). -/
theorem WN.made {B : Nat} {w w1 : World} {ov : Value} (n : Nat) (hb : Below w.heap.size w w1) (hB : B ≤ w.heap.size) (ho : OwnV 22 w.heap.size w1 ov (List.replicate n (.slice none 0 0))) :
    ∃ f, Rows B w1 f ∧ WN f ov (List.replicate n (.slice none 0 0)) n (fun _ => []) := by
  refine ⟨_, (rows_nils B w n).add (i := (1, 0)) (r' := rowV 22 ov (List.replicate n (.slice none 0 0))) hb (ho.mono hB) (fun k hk => (ho.lt k hk).1), ⟨upd_same _ _ _, by simp, fun u hu => ?_⟩⟩
  rw [upd_ne _ _ (by simp)]
  show nils n (2, u) = _
  unfold nils
  rw [if_pos ⟨rfl, hu⟩]
  simp [vAt, List.getD, hu]
end Go.Proofs.YtmhiambkfdkkbaaDoor
