/-
  Plain mathematics of layer 7: the symbol of a row at a place, pieces of rows, twins in a row.
  Plain mathematics of layers 7 and 15: a row's fault, that of two words that are no twins.
  Walk: twins.Check at a small rule.
  Walk: edenref18.Make.
  Walks: additive.Of.
  Walks: additive.Onto, additive.One.
  Walks: edenref18.Onto, One.
  Walk: edenref18.One.
  Errors as edenraw.Is takes them: a number from 1 to 11, few packages.
  Plain mathematics: the reference's factors of a rule, the first found first.
  Walk: edenref18.Of.
  Walks: edenref04.Value, edenref05.fault, edenref05.Mirror at a rule.
  Walks: edenref04.Small, Image, edenref08.Fault.
  Walk: edenref15.Check.
  Plain mathematics: breadth first from the pairs of equal nodes through the pairs that are apart; the first that is met again is met by a shortest way.
  Plain mathematics: the search of twins.meet as a function: what it meets is determined.
-/
import Derived.Test.YtmhiambkfdkkbaaGreatDoorMTc5
import Derived.Deep.RegionWith
import Derived.RegionTactic
import Derived.Deep.RegionHeld3
import Derived.Deep.DeepCutAuto
namespace Go.Proofs.YtmhiambkfdkkbaaGreatDoor

/-- The symbol of a row at a place. -/
def cellP (p : Int) (L C Q : List Int) (i : Int) : Int :=
  if i - p < 0 then L.getD ((i - p) % (L.length : Int)).toNat 0
  else if i - p < C.length then C.getD (i - p).toNat 0
  else Q.getD ((i - p - C.length) % (Q.length : Int)).toNat 0
/-- n symbols from a place on. -/
def pieceP (p : Int) (L C Q : List Int) (f : Int) (n : Nat) : List Int := (List.range n).map fun i : Nat => cellP p L C Q (f + i)
theorem pieceP_len (p : Int) (L C Q : List Int) (f : Int) (n : Nat) : (pieceP p L C Q f n).length = n := by simp [pieceP]
theorem pieceP_get {p : Int} {L C Q : List Int} {f : Int} {n i : Nat} (h : i < n) : (pieceP p L C Q f n).getD i 0 = cellP p L C Q (f + i) := by simp [pieceP, List.getD, h]
theorem pieceP_add (p : Int) (L C Q : List Int) (f : Int) (n m : Nat) : pieceP p L C Q f (n + m) = pieceP p L C Q f n ++ pieceP p L C Q (f + n) m := by
  unfold pieceP
  rw [List.range_add, List.map_append, List.map_map]
  congr 1
  refine List.map_congr_left fun i _ => ?_
  simp [Int.add_assoc]
theorem pieceP_succ (p : Int) (L C Q : List Int) (f : Int) (n : Nat) : pieceP p L C Q f (n + 1) = pieceP p L C Q f n ++ [cellP p L C Q (f + n)] := by
  rw [pieceP_add]; simp [pieceP]
theorem pieceP_congr {p : Int} {L C Q : List Int} {p' : Int} {L' C' Q' : List Int} {f : Int} {n : Nat} (h : ∀ i : Nat, i < n → cellP p L C Q (f + i) = cellP p' L' C' Q' (f + i)) : pieceP p L C Q f n = pieceP p' L' C' Q' f n :=
  List.map_congr_left fun i hi => h i (List.mem_range.1 hi)
theorem emod_nat {a : Int} {n : Nat} (hn : 1 ≤ n) : ∃ m : Nat, m < n ∧ a % (n : Int) = m := by
  have h1 := Int.emod_nonneg a (show (n : Int) ≠ 0 by omega)
  have h2 := Int.emod_lt_of_pos a (show (0 : Int) < n by omega)
  exact ⟨(a % (n : Int)).toNat, by omega, by omega⟩
theorem getD_syms {K : Int} {x : List Int} (h : Syms K x) {i : Nat} (hi : i < x.length) : 0 ≤ x.getD i 0 ∧ x.getD i 0 < K := by
  have e : x.getD i 0 = x[i] := by simp [List.getD, hi]
  rw [e]; exact h _ (List.getElem_mem hi)
theorem cellP_syms {K : Int} {p : Int} {L C Q : List Int} (hL : Syms K L) (hC : Syms K C) (hQ : Syms K Q) (l1 : 1 ≤ L.length) (q1 : 1 ≤ Q.length) (i : Int) : 0 ≤ cellP p L C Q i ∧ cellP p L C Q i < K := by
  unfold cellP
  split
  · obtain ⟨m, hm, e⟩ := emod_nat (a := i - p) l1
    rw [e, Int.toNat_natCast]; exact getD_syms hL hm
  · split
    · exact getD_syms hC (by omega)
    · obtain ⟨m, hm, e⟩ := emod_nat (a := i - p - C.length) q1
      rw [e, Int.toNat_natCast]; exact getD_syms hQ hm
theorem pieceP_syms {K : Int} {p : Int} {L C Q : List Int} (hL : Syms K L) (hC : Syms K C) (hQ : Syms K Q) (l1 : 1 ≤ L.length) (q1 : 1 ≤ Q.length) (f : Int) (n : Nat) : Syms K (pieceP p L C Q f n) := by
  intro x hx
  obtain ⟨i, _, rfl⟩ := List.mem_map.1 hx
  exact cellP_syms hL hC hQ l1 q1 _
/-- Where a word of one length stands in the core, the rest is the same. -/
theorem cellP_out {p : Int} {L X a b Q : List Int} (hl : a.length = b.length) {i : Int} (h : i < p + X.length ∨ p + X.length + a.length ≤ i) : cellP p L (X ++ a) Q i = cellP p L (X ++ b) Q i := by
  unfold cellP
  have e : (X ++ a).length = (X ++ b).length := by simp [hl]
  rw [e]
  by_cases h0 : i - p < 0
  · rw [if_pos h0, if_pos h0]
  rw [if_neg h0, if_neg h0]
  by_cases h1 : i - p < (X ++ b).length
  · rw [if_pos h1, if_pos h1]
    have h2 : (i - p).toNat < X.length := by
      rw [List.length_append] at h1
      omega
    rw [List.getD_eq_getElem?_getD, List.getD_eq_getElem?_getD, List.getElem?_append_left h2, List.getElem?_append_left h2]
  · rw [if_neg h1, if_neg h1]
theorem pieceP_core {p : Int} {L X a Q : List Int} : pieceP p L (X ++ a) Q (p + X.length) a.length = a := by
  refine List.ext_getElem (by rw [pieceP_len]) fun i h1 h2 => ?_
  have e : (pieceP p L (X ++ a) Q (p + X.length) a.length)[i] = cellP p L (X ++ a) Q (p + X.length + i) := by simp [pieceP]
  rw [e]
  unfold cellP
  rw [if_neg (by omega), if_pos (by rw [List.length_append]; omega), show (p + (X.length : Int) + i - p).toNat = X.length + i by omega, List.getD_eq_getElem?_getD, List.getElem?_append_right (by omega), Nat.add_sub_cancel_left, List.getElem?_eq_getElem h2]
  rfl
/-- A piece that holds all of the word. -/
theorem pieceP_around {p : Int} {L X Q : List Int} {f : Int} {n m : Nat} (h1 : f ≤ p + X.length) (h2 : p + X.length + m ≤ f + n) : ∃ u v : List Int, ∀ a : List Int, a.length = m → ∃ u' v' : List Int, pieceP p L (X ++ a) Q f n = u' ++ a ++ v' ∧ (∀ b : List Int, b.length = m → pieceP p L (X ++ b) Q f n = u' ++ b ++ v') ∧ u' = u ∧ v' = v := by
  obtain ⟨s, hs⟩ : ∃ s : Nat, (s : Int) = p + X.length - f := ⟨(p + X.length - f).toNat, by omega⟩
  obtain ⟨t, ht⟩ : ∃ t : Nat, n = s + m + t := ⟨n - s - m, by omega⟩
  subst ht
  have key : ∀ a : List Int, a.length = m → pieceP p L (X ++ a) Q f (s + m + t) = pieceP p L (X ++ List.replicate m 0) Q f s ++ a ++ pieceP p L (X ++ List.replicate m 0) Q (f + s + m) t := fun a ha => by
    have hra : a.length = (List.replicate m (0 : Int)).length := by simp [ha]
    rw [pieceP_add, pieceP_add]
    have e1 : pieceP p L (X ++ a) Q f s = pieceP p L (X ++ List.replicate m 0) Q f s := pieceP_congr fun i hi => cellP_out hra (.inl (by omega))
    have e2 : pieceP p L (X ++ a) Q (f + (s + m : Nat)) t = pieceP p L (X ++ List.replicate m 0) Q (f + s + m) t := by
      rw [show f + ((s + m : Nat) : Int) = f + s + m by omega]
      exact pieceP_congr fun i hi => cellP_out hra (.inr (by omega))
    have e3 : pieceP p L (X ++ a) Q (f + s) m = a := by
      have := pieceP_core (p := p) (L := L) (X := X) (a := a) (Q := Q)
      rw [ha] at this
      rw [show f + (s : Int) = p + X.length by omega]; exact this
    rw [e1, e2, e3]
  exact ⟨_, _, fun a ha => ⟨_, _, key a ha, key, rfl, rfl⟩⟩
/-- Both pieces have one image. -/
theorem twins_piece {K R : Nat} {T a b : List Int} (h : IsTwins K R T a b) {p : Int} {L X Q : List Int} {f : Int} {n : Nat} (h1 : f ≤ p + X.length) (h2 : p + X.length + a.length ≤ f + n) :
    imgP K R T (pieceP p L (X ++ a) Q f n) = imgP K R T (pieceP p L (X ++ b) Q f n) := by
  obtain ⟨u, v, k⟩ := pieceP_around (L := L) (Q := Q) h1 h2
  obtain ⟨u', v', e, k2, _, _⟩ := k a rfl
  rw [e, k2 b h.len.symm]
  exact h.context _ _
theorem piece_ne {a b : List Int} (hl : a.length = b.length) (hne : a ≠ b) {p : Int} {L X Q : List Int} {f : Int} {n : Nat} (h1 : f ≤ p + X.length) (h2 : p + X.length + a.length ≤ f + n) :
    pieceP p L (X ++ a) Q f n ≠ pieceP p L (X ++ b) Q f n := by
  obtain ⟨u, v, k⟩ := pieceP_around (L := L) (Q := Q) h1 h2
  obtain ⟨u', v', e, k2, _, _⟩ := k a rfl
  rw [e, k2 b hl.symm]
  intro q
  rw [List.append_assoc, List.append_assoc] at q
  exact hne (List.append_inj_left (List.append_cancel_left q) hl)

/-- The image in parts: behind a front of the image the rest is the image of the rest. -/
theorem img_front {K R : Nat} {T w : List Int} {m : Nat} (hm : 2 * R ≤ m) (hl : m ≤ w.length) : imgP K R T w = imgP K R T (w.take m) ++ imgP K R T (w.drop (m - 2 * R)) := by
  refine List.ext_getElem (by simp [imgP_length]; omega) fun i h1 h2 => ?_
  have h1' := h1
  rw [imgP_length] at h1'
  have gd : ∀ {l : List Int} {j : Nat} (h : j < l.length), l[j] = l.getD j 0 := fun h => by simp [List.getD, h]
  rw [gd h1, gd h2, imgP_getD _ _ _ _ _ h1']
  by_cases hi : i < m - 2 * R
  · have e : (imgP K R T (w.take m)).length = m - 2 * R := by rw [imgP_length, List.length_take]; omega
    rw [List.getD_eq_getElem?_getD (l := _ ++ _), List.getElem?_append_left (by omega), ← List.getD_eq_getElem?_getD, imgP_getD _ _ _ _ _ (by rw [List.length_take]; omega)]
    congr 2
    rw [List.drop_take, List.take_take, Nat.min_eq_left (by omega)]
  · have e : (imgP K R T (w.take m)).length = m - 2 * R := by rw [imgP_length, List.length_take]; omega
    rw [List.getD_eq_getElem?_getD (l := _ ++ _), List.getElem?_append_right (by omega), ← List.getD_eq_getElem?_getD, e, imgP_getD _ _ _ _ _ (by rw [List.length_drop]; omega)]
    have hl2 : (imgP K R T (w.take m)).length ≤ i := by omega
    congr 2
    rw [List.drop_drop, show m - 2 * R + (i - (m - 2 * R)) = i by omega]
end Go.Proofs.YtmhiambkfdkkbaaGreatDoor

namespace Go.Proofs.YtmhiambkfdkkbaaGreatDoor

def sRow : ByteArray := ⟨#[114, 111, 119]⟩
/-- The fault of a row. -/
def rowP (k p : Int) (L C Q : List Int) : PErr :=
  if k < 1 ∨ 4 < k then fresh sRow 0 3
  else if p < -4096 ∨ 4096 < p then fresh sRow 1 3
  else if L.length = 0 then fresh sRow 2 3
  else if Q.length = 0 then fresh sRow 3 3
  else if 8192 < L.length then fresh sRow 2 4
  else if 8192 < Q.length then fresh sRow 3 4
  else if 16384 < C.length then fresh sRow 4 4
  else if 0 ≤ idxOf (odd1 k) (L ++ C ++ Q) then fresh sRow (idxOf (odd1 k) (L ++ C ++ Q)) 2
  else none
structure RowOk (K : Nat) (p : Int) (L C Q : List Int) : Prop where
  k1 : 1 ≤ K
  k4 : K ≤ 4
  p1 : -4096 ≤ p
  p2 : p ≤ 4096
  l1 : 1 ≤ L.length
  l2 : L.length ≤ 8192
  q1 : 1 ≤ Q.length
  q2 : Q.length ≤ 8192
  c2 : C.length ≤ 16384
  sL : Syms K L
  sC : Syms K C
  sQ : Syms K Q
theorem syms_odd {k : Int} {x : List Int} : Syms k x ↔ ∀ y ∈ x, odd1 k y = false := by
  refine ⟨fun h y hy => ?_, fun h y hy => ?_⟩
  · have := h y hy
    unfold odd1
    simp only [Bool.or_eq_false_iff, decide_eq_false_iff_not]
    omega
  · have := h y hy
    unfold odd1 at this
    simp only [Bool.or_eq_false_iff, decide_eq_false_iff_not] at this
    omega
theorem idxOf_syms {k : Int} {x : List Int} : ¬ 0 ≤ idxOf (odd1 k) x ↔ Syms k x := by
  rw [syms_odd]
  rcases idxOf_cases (odd1 k) x with ⟨h1, h2⟩ | ⟨m, h1, h2, h3, _⟩
  · rw [h1]; exact ⟨fun _ => h2, fun _ => by omega⟩
  · rw [h1]
    refine ⟨fun h => by omega, fun h => ?_⟩
    have := h _ (List.getElem_mem h2)
    rw [h3] at this; cases this
theorem rowP_none {k p : Int} {L C Q : List Int} (h : rowP k p L C Q = none) : ∃ K : Nat, k = K ∧ RowOk K p L C Q := by
  unfold rowP at h
  by_cases h1 : k < 1 ∨ 4 < k
  · rw [if_pos h1] at h; cases h
  rw [if_neg h1] at h
  by_cases h2 : p < -4096 ∨ 4096 < p
  · rw [if_pos h2] at h; cases h
  rw [if_neg h2] at h
  by_cases h3 : L.length = 0
  · rw [if_pos h3] at h; cases h
  rw [if_neg h3] at h
  by_cases h4 : Q.length = 0
  · rw [if_pos h4] at h; cases h
  rw [if_neg h4] at h
  by_cases h5 : 8192 < L.length
  · rw [if_pos h5] at h; cases h
  rw [if_neg h5] at h
  by_cases h6 : 8192 < Q.length
  · rw [if_pos h6] at h; cases h
  rw [if_neg h6] at h
  by_cases h7 : 16384 < C.length
  · rw [if_pos h7] at h; cases h
  rw [if_neg h7] at h
  by_cases h8 : 0 ≤ idxOf (odd1 k) (L ++ C ++ Q)
  · rw [if_pos h8] at h; cases h
  have hs := idxOf_syms.1 h8
  obtain ⟨K, rfl⟩ : ∃ K : Nat, k = K := ⟨k.toNat, by omega⟩
  exact ⟨K, rfl, by omega, by omega, by omega, by omega, by omega, by omega, by omega, by omega, by omega, fun x hx => hs x (by simp [hx]), fun x hx => hs x (by simp [hx]), fun x hx => hs x (by simp [hx])⟩
theorem RowOk.none {K : Nat} {p : Int} {L C Q : List Int} (h : RowOk K p L C Q) : rowP K p L C Q = Option.none := by
  have hs : Syms K (L ++ C ++ Q) := fun x hx => by
    rcases List.mem_append.1 hx with hx | hx
    · rcases List.mem_append.1 hx with hx | hx
      · exact h.sL x hx
      · exact h.sC x hx
    · exact h.sQ x hx
  have h1 := h.k1
  have h2 := h.k4
  have h3 := h.p1
  have h4 := h.p2
  have h5 := h.l1
  have h6 := h.l2
  have h7 := h.q1
  have h8 := h.q2
  have h9 := h.c2
  unfold rowP
  rw [if_neg (by omega), if_neg (by omega), if_neg (by omega), if_neg (by omega), if_neg (by omega), if_neg (by omega), if_neg (by omega), if_neg (idxOf_syms.2 hs)]

/-- What twins.Check tells of two words, the rule being small. -/
def twinsP (op : ByteArray) (k : Int) (R : Nat) (img : List Int → List Int) (a b : List Int) : PErr :=
  if 16384 < a.length ∨ 16384 < b.length then fresh op 1 4
  else if 0 ≤ idxOf (odd1 k) a then fresh op (idxOf (odd1 k) a) 2
  else if 0 ≤ idxOf (odd1 k) b then fresh op (a.length + idxOf (odd1 k) b) 2
  else if a.length ≠ b.length ∨ a = b then fresh op 1 3
  else if a.length < 2 * R ∨ a.take (2 * R) ≠ b.take (2 * R) ∨ a.drop (a.length - 2 * R) ≠ b.drop (b.length - 2 * R) then fresh op 2 3
  else if img a ≠ img b then fresh op 3 3
  else none
theorem twinsP_none {op : ByteArray} {K R : Nat} {T a b : List Int} (h : twinsP op K R (imgP K R T) a b = none) : IsTwins K R T a b ∧ a.length ≤ 16384 := by
  unfold twinsP at h
  by_cases h1 : 16384 < a.length ∨ 16384 < b.length
  · rw [if_pos h1] at h; cases h
  rw [if_neg h1] at h
  by_cases h2 : 0 ≤ idxOf (odd1 K) a
  · rw [if_pos h2] at h; cases h
  rw [if_neg h2] at h
  by_cases h3 : 0 ≤ idxOf (odd1 K) b
  · rw [if_pos h3] at h; cases h
  rw [if_neg h3] at h
  by_cases h4 : a.length ≠ b.length ∨ a = b
  · rw [if_pos h4] at h; cases h
  rw [if_neg h4] at h
  by_cases h5 : a.length < 2 * R ∨ a.take (2 * R) ≠ b.take (2 * R) ∨ a.drop (a.length - 2 * R) ≠ b.drop (b.length - 2 * R)
  · rw [if_pos h5] at h; cases h
  rw [if_neg h5] at h
  by_cases h6 : imgP K R T a ≠ imgP K R T b
  · rw [if_pos h6] at h; cases h
  have e4 : a.length = b.length := Classical.byContradiction fun q => h4 (.inl q)
  exact ⟨⟨idxOf_syms.1 h2, idxOf_syms.1 h3, e4, fun q => h4 (.inr q), by omega, Classical.byContradiction fun q => h5 (.inr (.inl q)), Classical.byContradiction fun q => h5 (.inr (.inr q)), Classical.byContradiction h6⟩, by omega⟩
theorem IsTwins.p {op : ByteArray} {K R : Nat} {T a b : List Int} (h : IsTwins K R T a b) (hl : a.length ≤ 16384) : twinsP op K R (imgP K R T) a b = none := by
  have e := h.len
  have e2 := h.low
  unfold twinsP
  rw [if_neg (by omega), if_neg (idxOf_syms.2 h.sa), if_neg (idxOf_syms.2 h.sb), if_neg (fun q => q.elim (fun q => q e) h.ne), if_neg, if_neg (fun q => q h.img)]
  rintro (q | q | q)
  · omega
  · exact q h.front
  · exact q h.back
end Go.Proofs.YtmhiambkfdkkbaaGreatDoor

namespace Go.Proofs.YtmhiambkfdkkbaaGreatDoor
open Go.RowKit
set_option maxRecDepth 100000

theorem tcheck1_any (r : Nat → Addr) (at_ n : Int) (w : World) (hg : Glob r w) (h1 : 1 ≤ n) (h2 : n ≤ 11) :
    Calls Tryz.prog 45 #[.int .i64 at_, .int .i64 n] w (Ret1 (fun v w' => ErrIs r w' (fresh sTwins at_ n) v) w) := by
  go_enter Tryz.func45, Tryz.ntmps45
  go_wp2_with fail
  refine (new_any r _ at_ n w hg h1 h2).mono ?_
  rintro e w' ⟨v, rfl, hb, he⟩
  go_wp2
  go_ret
  exact ⟨v, rfl, hb, he⟩
theorem fresh_shape {r : Nat → Addr} {w : World} {op : ByteArray} {a n : Int} {v : Value} (h : ErrIs r w (fresh op a n) v) : ∃ T p, v = .iface T (.pointer (some p)) := ErrIs.some_shape h

set_option maxHeartbeats 8000000 in
theorem tcheck_ok (r : Nat → Addr) (K R : Nat) (va : Option Addr) (vn vc : Nat) (T : List Int) (u : Value) (a : List Int) (v : Value) (b : List Int) (w : World) (hg : Glob r w) (h : IntsAt w (.slice va vn vc) T) (hr : RuleOk K R T) (hl : T.length ≤ 256) (hu : IntsAt w u a) (hv : IntsAt w v b) :
    Calls Tryz.prog 14 #[.agg #[.int .i64 K, .int .i64 R, .slice va vn vc], u, v] w (Ret1 (fun x w' => ErrIs r w' (twinsP sTwins K R (imgP K R T) a b) x) w) := by
  have b0 := belowAlloc w (.cells #[.int .i64 K, .int .i64 R, .slice va vn vc] 24)
  have q : Box3 (w.alloc (.cells #[.int .i64 K, .int .i64 R, .slice va vn vc] 24)) w.heap.size (.int .i64 K) (.int .i64 R) (.slice va vn vc) := by simp [Box3, go_sem]
  have lA := hu.len
  have lB := hv.len
  have mA := hu.len_le
  have mB := hv.len_le
  have hR3 := hr.r3
  obtain ⟨ua, un, uc, rfl⟩ := hu.shape
  obtain ⟨wa, wn, wc, rfl⟩ := hv.shape
  have hsm : smallP K R T = none := by rw [smallP_ok hr, if_neg (by omega)]
  obtain ⟨W0, hW0⟩ : ∃ W : World, w.alloc (.cells #[.int .i64 K, .int .i64 R, .slice va vn vc] 24) = W := ⟨_, rfl⟩
  replace hg := hg.below b0
  replace h := h.below b0
  replace hu := hu.below b0
  replace hv := hv.below b0
  rw [hW0] at hg h hu hv b0 q
  obtain ⟨e0, he0⟩ : ∃ e0, twinsP sTwins K R (imgP K R T) a b = e0 := ⟨_, rfl⟩
  rw [he0]
  unfold twinsP at he0
  replace hg := Lib.hid hg
  replace h := Lib.hid h
  replace hu := Lib.hid hu
  replace hv := Lib.hid hv
  replace hr := Lib.hid hr
  replace hsm := Lib.hid hsm
  replace hl := Lib.hid hl
  replace he0 := Lib.hid he0
  replace hW0 := Lib.hid hW0
  go_enter Tryz.func14, Tryz.ntmps14
  go_upto_region 2 with fail
  rw [hW0.out]
  have q0 := q
  obtain ⟨⟨z0, z1, z2⟩, -, -, -⟩ := q0
  go_wp2_with fail
  refine (small_any r K R va vn vc T _ hg.out h.out).mono ?_
  rintro e w1 ⟨x, rfl, b1, hx⟩
  rw [hsm.out] at hx
  obtain rfl := hx.none_eq
  clear hx
  have q1 := q.below b1
  clear z0 z1 z2
  obtain ⟨⟨z0, z1, z2⟩, -, -, -⟩ := q1
  have b01 := Below.step b0 b1
  by_cases hA : 16384 < a.length
  · have d1 : decide ((16384 : Int) < (a.length : Int)) = true := decide_eq_true (by omega)
    have he := he0.out
    rw [if_pos (.inl hA)] at he
    replace he := Lib.hid he
    go_wp2_with fail
    refine (tcheck1_any r 1 4 w1 (hg.out.below b1) (by decide) (by decide)).mono ?_
    rintro e w9 ⟨y, rfl, b9, hy⟩
    obtain ⟨T9, a9, rfl⟩ := fresh_shape hy
    replace hy := Lib.hid hy
    clear z0 z1 z2
    go_wp2
    go_ret
    exact ⟨_, rfl, Below.step b01 b9, by rw [← he.out]; exact hy.out⟩
  by_cases hB : 16384 < b.length
  · have d1 : decide ((16384 : Int) < (a.length : Int)) = false := decide_eq_false (by omega)
    have d2 : decide ((16384 : Int) < (b.length : Int)) = true := decide_eq_true (by omega)
    have he := he0.out
    rw [if_pos (.inr hB)] at he
    replace he := Lib.hid he
    go_wp2_with fail
    refine (tcheck1_any r 1 4 w1 (hg.out.below b1) (by decide) (by decide)).mono ?_
    rintro e w9 ⟨y, rfl, b9, hy⟩
    obtain ⟨T9, a9, rfl⟩ := fresh_shape hy
    replace hy := Lib.hid hy
    clear z0 z1 z2
    go_wp2
    go_ret
    exact ⟨_, rfl, Below.step b01 b9, by rw [← he.out]; exact hy.out⟩
  have he1 := he0.out
  rw [if_neg (by omega)] at he1
  replace he1 := Lib.hid he1
  clear he0
  have d1 : decide ((16384 : Int) < (a.length : Int)) = false := decide_eq_false (by omega)
  have d2 : decide ((16384 : Int) < (b.length : Int)) = false := decide_eq_false (by omega)
  go_wp2_with fail
  refine (symbols_any K _ a w1 (hu.out.below b1)).mono ?_
  rintro e w2 ⟨x, rfl, b2, rfl⟩
  have c2 := Below.step b1 b2
  have b02 := Below.step b01 b2
  clear z0 z1 z2
  obtain ⟨⟨z0, z1, z2⟩, -, -, -⟩ := q.below c2
  by_cases hi : 0 ≤ idxOf (odd1 K) a
  · have he := he1.out
    rw [if_pos hi] at he
    replace he := Lib.hid he
    generalize idxOf (odd1 K) a = i at *
    have d3 : decide ((0 : Int) ≤ i) = true := decide_eq_true hi
    go_wp2_with fail
    refine (tcheck1_any r i 2 w2 (hg.out.below c2) (by decide) (by decide)).mono ?_
    rintro e w9 ⟨y, rfl, b9, hy⟩
    obtain ⟨T9, a9, rfl⟩ := fresh_shape hy
    replace hy := Lib.hid hy
    clear z0 z1 z2
    go_wp2
    go_ret
    exact ⟨_, rfl, Below.step b02 b9, by rw [← he.out]; exact hy.out⟩
  have he2 := he1.out
  rw [if_neg hi] at he2
  have sA := idxOf_syms.1 hi
  have eA := sA.odd
  rw [eA]
  replace sA := Lib.hid sA
  replace eA := Lib.hid eA
  replace he2 := Lib.hid he2
  clear he1 hi
  go_wp2_with fail
  refine (symbols_any K _ b w2 (hv.out.below c2)).mono ?_
  rintro e w3 ⟨x, rfl, b3, rfl⟩
  have c3 := Below.step c2 b3
  have b03 := Below.step b02 b3
  clear z0 z1 z2
  obtain ⟨⟨z0, z1, z2⟩, -, -, -⟩ := q.below c3
  by_cases hi : 0 ≤ idxOf (odd1 K) b
  · have he := he2.out
    rw [if_pos hi] at he
    replace he := Lib.hid he
    have hib : idxOf (odd1 K) b < b.length := by
      rcases idxOf_cases (odd1 K) b with ⟨k1, _⟩ | ⟨k, k1, k2, _⟩ <;> omega
    generalize idxOf (odd1 K) b = i at *
    have d3 : decide ((0 : Int) ≤ i) = true := decide_eq_true hi
    go_wp2_with fail
    refine (tcheck1_any r ((a.length : Int) + i) 2 w3 (hg.out.below c3) (by decide) (by decide)).mono ?_
    rintro e w9 ⟨y, rfl, b9, hy⟩
    obtain ⟨T9, a9, rfl⟩ := fresh_shape hy
    replace hy := Lib.hid hy
    clear z0 z1 z2
    go_wp2
    go_ret
    exact ⟨_, rfl, Below.step b03 b9, by rw [← he.out]; exact hy.out⟩
  have he3 := he2.out
  rw [if_neg hi] at he3
  have sB := idxOf_syms.1 hi
  have eB := sB.odd
  rw [eB]
  replace sB := Lib.hid sB
  replace eB := Lib.hid eB
  replace he3 := Lib.hid he3
  clear he2 hi
  by_cases hlen : a.length = b.length
  case neg =>
    have d3 : ((a.length : Int) != (b.length : Int)) = true := by simp; omega
    have he := he3.out
    rw [if_pos (.inl hlen)] at he
    replace he := Lib.hid he
    clear hlen
    go_wp2_with fail
    refine (tcheck1_any r 1 3 w3 (hg.out.below c3) (by decide) (by decide)).mono ?_
    rintro e w9 ⟨y, rfl, b9, hy⟩
    obtain ⟨T9, a9, rfl⟩ := fresh_shape hy
    replace hy := Lib.hid hy
    clear z0 z1 z2
    go_wp2
    go_ret
    exact ⟨_, rfl, Below.step b03 b9, by rw [← he.out]; exact hy.out⟩
  have d3 : ((a.length : Int) != (b.length : Int)) = false := by simp; omega
  replace hlen := Lib.hid hlen
  have heqc := equal_any (.slice ua un uc) (.slice wa wn wc) a b w3 (hu.out.below c3) (hv.out.below c3)
  replace heqc := Lib.hid heqc
  go_wp2_with fail
  refine heqc.out.mono ?_
  rintro e w4 ⟨n4, rfl, rfl⟩
  have c4 := below_drewN c3 n4
  have b04 := below_drewN b03 n4
  clear z0 z1 z2
  obtain ⟨⟨z0, z1, z2⟩, -, -, -⟩ := q.below c4
  by_cases hab : a = b
  · have he := he3.out
    rw [if_pos (.inr hab)] at he
    have d4 : decide (a = b) = true := decide_eq_true hab
    rw [d4]
    replace he := Lib.hid he
    replace hab := Lib.hid hab
    clear d4 heqc
    go_wp2_with fail
    refine (tcheck1_any r 1 3 (w3.drewN n4) (hg.out.below c4) (by decide) (by decide)).mono ?_
    rintro e w9 ⟨y, rfl, b9, hy⟩
    obtain ⟨T9, a9, rfl⟩ := fresh_shape hy
    replace hy := Lib.hid hy
    clear z0 z1 z2
    go_wp2
    go_ret
    exact ⟨_, rfl, Below.step b04 b9, by rw [← he.out]; exact hy.out⟩
  have he4 := he3.out
  rw [if_neg (fun q => q.elim (fun q => q hlen.out) hab)] at he4
  have d4 : decide (a = b) = false := decide_eq_false hab
  rw [d4]
  replace he4 := Lib.hid he4
  replace hab := Lib.hid hab
  clear d4 heqc he3
  obtain ⟨w5, hw5⟩ : ∃ W : World, w3.drewN n4 = W := ⟨_, rfl⟩
  rw [hw5] at c4 b04 z0 z1 z2 ⊢
  clear hw5
  obtain ⟨W5, hW5⟩ : ∃ W : World, w5.drew = W := ⟨_, rfl⟩
  have c5 : Below W0.heap.size W0 W5 := by rw [← hW5]; exact c4.drew
  have b05 : Below w.heap.size w W5 := by rw [← hW5]; exact b04.drew
  replace hW5 := Lib.hid hW5
  have hS : True := trivial
  by_cases hlow : a.length < 2 * R
  · have d5 : decide ((a.length : Int) < 2 * (R : Int)) = true := decide_eq_true (by omega)
    have he := he4.out
    rw [if_pos (.inl hlow)] at he
    replace he := Lib.hid he
    go_upto_region 16 with fail
    refine wp_region_plan (fun _ => True) 30 [(0, true), (1, true), (2, true), (3, true), (4, true), (5, true), (6, true), (7, true), (8, true), (9, true), (10, true), (11, false), (12, true), (13, true), (14, true), (15, true), (16, true), (17, true), (18, true), (19, true), (20, true), (21, true), (22, true), (23, true), (24, true), (25, true), (26, true), (27, false), (28, true), (29, true)] (by kernel_rfl) (by kernel_rfl) ?_
    rw [hW5.out]
    refine headY (v := ?_) (some 66) rfl rfl (Or.inl ⟨by rfl, ?_⟩) hS ?_
    rotate_left
    · rintro W' _; go_simp; try with_reducible rfl
    simp only [Act.put, List.setIfInBounds_toArray, List.set_cons_zero, List.set_cons_succ]
    refine headY (v := ?_) (some 67) rfl rfl (Or.inl ⟨by rfl, ?_⟩) hS ?_
    rotate_left
    · rintro W' _; go_simp; try with_reducible rfl
    simp only [Act.put, List.setIfInBounds_toArray, List.set_cons_zero, List.set_cons_succ]
    refine headY (v := ?_) (some 68) rfl rfl (Or.inl ⟨by rfl, ?_⟩) hS ?_
    rotate_left
    · rintro W' _; go_simp; try with_reducible rfl
    simp only [Act.put, List.setIfInBounds_toArray, List.set_cons_zero, List.set_cons_succ]
    refine headY (v := ?_) (some 69) rfl rfl (Or.inl ⟨by rfl, ?_⟩) hS ?_
    rotate_left
    · rintro W' _; go_simp; try with_reducible rfl
    simp only [Act.put, List.setIfInBounds_toArray, List.set_cons_zero, List.set_cons_succ]
    refine headY (v := ?_) (some 70) rfl rfl (Or.inl ⟨by rfl, ?_⟩) hS ?_
    rotate_left
    · rintro W' _; go_simp; try with_reducible rfl
    simp only [Act.put, List.setIfInBounds_toArray, List.set_cons_zero, List.set_cons_succ]
    refine headY (v := undef) (some 71) rfl rfl (Or.inr ⟨by rfl, rfl⟩) hS ?_
    simp only [Act.put, List.setIfInBounds_toArray, List.set_cons_zero, List.set_cons_succ]
    refine headY (v := undef) (some 72) rfl rfl (Or.inr ⟨by rfl, rfl⟩) hS ?_
    simp only [Act.put, List.setIfInBounds_toArray, List.set_cons_zero, List.set_cons_succ]
    refine headY (v := undef) (some 73) rfl rfl (Or.inr ⟨by rfl, rfl⟩) hS ?_
    simp only [Act.put, List.setIfInBounds_toArray, List.set_cons_zero, List.set_cons_succ]
    refine headY (v := undef) (some 74) rfl rfl (Or.inr ⟨by rfl, rfl⟩) hS ?_
    simp only [Act.put, List.setIfInBounds_toArray, List.set_cons_zero, List.set_cons_succ]
    refine headY (v := undef) (some 75) rfl rfl (Or.inr ⟨by rfl, rfl⟩) hS ?_
    simp only [Act.put, List.setIfInBounds_toArray, List.set_cons_zero, List.set_cons_succ]
    refine headY (v := undef) (some 76) rfl rfl (Or.inr ⟨by rfl, rfl⟩) hS ?_
    simp only [Act.put, List.setIfInBounds_toArray, List.set_cons_zero, List.set_cons_succ]
    refine headC rfl (fun KK hK => ?_)
    go_simp
    refine hK _ _ hS ?_
    clear hK KK
    refine headY (v := undef) (some 78) rfl rfl (Or.inr ⟨by rfl, rfl⟩) hS ?_
    simp only [Act.put, List.setIfInBounds_toArray, List.set_cons_zero, List.set_cons_succ]
    refine headY (v := ?_) (some 79) rfl rfl (Or.inl ⟨by rfl, ?_⟩) hS ?_
    rotate_left
    · rintro W' _; go_simp; try with_reducible rfl
    simp only [Act.put, List.setIfInBounds_toArray, List.set_cons_zero, List.set_cons_succ]
    refine headY (v := ?_) (some 80) rfl rfl (Or.inl ⟨by rfl, ?_⟩) hS ?_
    rotate_left
    · rintro W' _; go_simp; try with_reducible rfl
    simp only [Act.put, List.setIfInBounds_toArray, List.set_cons_zero, List.set_cons_succ]
    refine headY (v := undef) (some 81) rfl rfl (Or.inr ⟨by rfl, rfl⟩) hS ?_
    simp only [Act.put, List.setIfInBounds_toArray, List.set_cons_zero, List.set_cons_succ]
    refine headY (v := undef) (some 82) rfl rfl (Or.inr ⟨by rfl, rfl⟩) hS ?_
    simp only [Act.put, List.setIfInBounds_toArray, List.set_cons_zero, List.set_cons_succ]
    refine headY (v := undef) (some 83) rfl rfl (Or.inr ⟨by rfl, rfl⟩) hS ?_
    simp only [Act.put, List.setIfInBounds_toArray, List.set_cons_zero, List.set_cons_succ]
    refine headY (v := undef) (some 84) rfl rfl (Or.inr ⟨by rfl, rfl⟩) hS ?_
    simp only [Act.put, List.setIfInBounds_toArray, List.set_cons_zero, List.set_cons_succ]
    refine headY (v := undef) (some 85) rfl rfl (Or.inr ⟨by rfl, rfl⟩) hS ?_
    simp only [Act.put, List.setIfInBounds_toArray, List.set_cons_zero, List.set_cons_succ]
    refine headY (v := undef) (some 86) rfl rfl (Or.inr ⟨by rfl, rfl⟩) hS ?_
    simp only [Act.put, List.setIfInBounds_toArray, List.set_cons_zero, List.set_cons_succ]
    refine headY (v := undef) (some 87) rfl rfl (Or.inr ⟨by rfl, rfl⟩) hS ?_
    simp only [Act.put, List.setIfInBounds_toArray, List.set_cons_zero, List.set_cons_succ]
    refine headY (v := undef) (some 88) rfl rfl (Or.inr ⟨by rfl, rfl⟩) hS ?_
    simp only [Act.put, List.setIfInBounds_toArray, List.set_cons_zero, List.set_cons_succ]
    refine headY (v := undef) (some 89) rfl rfl (Or.inr ⟨by rfl, rfl⟩) hS ?_
    simp only [Act.put, List.setIfInBounds_toArray, List.set_cons_zero, List.set_cons_succ]
    refine headY (v := undef) (some 90) rfl rfl (Or.inr ⟨by rfl, rfl⟩) hS ?_
    simp only [Act.put, List.setIfInBounds_toArray, List.set_cons_zero, List.set_cons_succ]
    refine headY (v := undef) (some 91) rfl rfl (Or.inr ⟨by rfl, rfl⟩) hS ?_
    simp only [Act.put, List.setIfInBounds_toArray, List.set_cons_zero, List.set_cons_succ]
    refine headY (v := undef) (some 92) rfl rfl (Or.inr ⟨by rfl, rfl⟩) hS ?_
    simp only [Act.put, List.setIfInBounds_toArray, List.set_cons_zero, List.set_cons_succ]
    refine headC rfl (fun KK hK => ?_)
    go_simp
    refine hK _ _ hS ?_
    clear hK KK
    refine headY (v := undef) (some 94) rfl rfl (Or.inr ⟨by rfl, rfl⟩) hS ?_
    simp only [Act.put, List.setIfInBounds_toArray, List.set_cons_zero, List.set_cons_succ]
    refine headY (v := ?_) (some 95) rfl rfl (Or.inl ⟨by rfl, ?_⟩) hS ?_
    rotate_left
    · rintro W' _; go_simp; try with_reducible rfl
    simp only [Act.put, List.setIfInBounds_toArray, List.set_cons_zero, List.set_cons_succ]
    refine head0 ?_
    simp only [List.drop_succ_cons, List.drop_zero]
    clear z0 z1 z2
    obtain ⟨⟨z0, z1, z2⟩, -, -, -⟩ := q.below c5
    go_wp2
    refine NoPanic.normal ?_
    go_wp2_with fail
    refine (tcheck1_any r 2 3 W5 (hg.out.below c5) (by decide) (by decide)).mono ?_
    rintro e w9 ⟨y, rfl, b9, hy⟩
    obtain ⟨T9, a9, rfl⟩ := fresh_shape hy
    replace hy := Lib.hid hy
    clear z0 z1 z2
    go_wp2
    go_ret
    exact ⟨_, rfl, Below.step b05 b9, by rw [← he.out]; exact hy.out⟩
  have d5 : decide ((a.length : Int) < 2 * (R : Int)) = false := decide_eq_false (by omega)
  obtain ⟨fa, hfa, hFA⟩ := (hu.out.below c5).front (2 * R) (by omega)
  obtain ⟨fb, hfb, hFB⟩ := (hv.out.below c5).front (2 * R) (by have := hlen.out; omega)
  have hsa : ∀ w', (Instr.slice 22 (.slice ua un uc) none (some (.int .i64 (2 * (R : Int)))) none).run Tryz.prog w' = .ok fa w' := by
    intro w'; have := hfa w'; rwa [show (((2 * R : Nat) : Nat) : Int) = 2 * (R : Int) by omega] at this
  have hsb : ∀ w', (Instr.slice 22 (.slice wa wn wc) none (some (.int .i64 (2 * (R : Int)))) none).run Tryz.prog w' = .ok fb w' := by
    intro w'; have := hfb w'; rwa [show (((2 * R : Nat) : Nat) : Int) = 2 * (R : Int) by omega] at this
  obtain ⟨ga, hga, hGA⟩ := (hu.out.below c5).post (a.length - 2 * R) (by omega)
  obtain ⟨gb, hgb, hGB⟩ := (hv.out.below c5).post (b.length - 2 * R) (by omega)
  have hta : ∀ w', (Instr.slice 22 (.slice ua un uc) (some (.int .i64 ((a.length : Int) - 2 * (R : Int)))) none none).run Tryz.prog w' = .ok ga w' := by
    intro w'; have := hga w'; rwa [show (((a.length - 2 * R : Nat) : Nat) : Int) = (a.length : Int) - 2 * (R : Int) by omega] at this
  have htb : ∀ w', (Instr.slice 22 (.slice wa wn wc) (some (.int .i64 ((b.length : Int) - 2 * (R : Int)))) none none).run Tryz.prog w' = .ok gb w' := by
    intro w'; have := hgb w'; rwa [show (((b.length - 2 * R : Nat) : Nat) : Int) = (b.length : Int) - 2 * (R : Int) by have := hlen.out; omega] at this
  obtain ⟨fa1, fa2, fa3, rfl⟩ := hFA.shape
  obtain ⟨fb1, fb2, fb3, rfl⟩ := hFB.shape
  obtain ⟨ga1, ga2, ga3, rfl⟩ := hGA.shape
  obtain ⟨gb1, gb2, gb3, rfl⟩ := hGB.shape
  clear hfa hfb hga hgb
  have hwa : IntKind.i64.wrap ((a.length : Int) - 2 * (R : Int)) = (a.length : Int) - 2 * (R : Int) := wrapK (by omega) (by omega)
  have hwb : IntKind.i64.wrap ((b.length : Int) - 2 * (R : Int)) = (b.length : Int) - 2 * (R : Int) := wrapK (by omega) (by omega)
  have hq1 := equal_any _ _ _ _ W5 hFA hFB
  replace hq1 := Lib.hid hq1
  replace hFA := Lib.hid hFA
  replace hFB := Lib.hid hFB
  replace hGA := Lib.hid hGA
  replace hGB := Lib.hid hGB
  go_upto_region 16 with fail
  refine wp_region_plan (fun _ => True) 30 [(0, true), (1, true), (2, true), (3, true), (4, true), (5, true), (6, true), (7, true), (8, true), (9, true), (10, true), (11, false), (12, true), (13, true), (14, true), (15, true), (16, true), (17, true), (18, true), (19, true), (20, true), (21, true), (22, true), (23, true), (24, true), (25, true), (26, true), (27, false), (28, true), (29, true)] (by kernel_rfl) (by kernel_rfl) ?_
  rw [hW5.out]
  refine headY (v := ?_) (some 66) rfl rfl (Or.inl ⟨by rfl, ?_⟩) hS ?_
  rotate_left
  · rintro W' _; go_simp; try with_reducible rfl
  simp only [Act.put, List.setIfInBounds_toArray, List.set_cons_zero, List.set_cons_succ]
  refine headY (v := ?_) (some 67) rfl rfl (Or.inl ⟨by rfl, ?_⟩) hS ?_
  rotate_left
  · rintro W' _; go_simp; try with_reducible rfl
  simp only [Act.put, List.setIfInBounds_toArray, List.set_cons_zero, List.set_cons_succ]
  refine headY (v := ?_) (some 68) rfl rfl (Or.inl ⟨by rfl, ?_⟩) hS ?_
  rotate_left
  · rintro W' _; go_simp; try with_reducible rfl
  simp only [Act.put, List.setIfInBounds_toArray, List.set_cons_zero, List.set_cons_succ]
  refine headY (v := ?_) (some 69) rfl rfl (Or.inl ⟨by rfl, ?_⟩) hS ?_
  rotate_left
  · rintro W' _; go_simp; try with_reducible rfl
  simp only [Act.put, List.setIfInBounds_toArray, List.set_cons_zero, List.set_cons_succ]
  refine headY (v := ?_) (some 70) rfl rfl (Or.inl ⟨by rfl, ?_⟩) hS ?_
  rotate_left
  · rintro W' _; go_simp; try with_reducible rfl
  simp only [Act.put, List.setIfInBounds_toArray, List.set_cons_zero, List.set_cons_succ]
  refine headY (v := ?_) (some 71) rfl rfl (Or.inl ⟨by rfl, ?_⟩) hS ?_
  rotate_left
  · rintro W' _; go_simp; try with_reducible rfl
  simp only [Act.put, List.setIfInBounds_toArray, List.set_cons_zero, List.set_cons_succ]
  refine headY (v := ?_) (some 72) rfl rfl (Or.inl ⟨by rfl, ?_⟩) hS ?_
  rotate_left
  · rintro W' _; go_simp; try with_reducible rfl
  simp only [Act.put, List.setIfInBounds_toArray, List.set_cons_zero, List.set_cons_succ]
  refine headY (v := ?_) (some 73) rfl rfl (Or.inl ⟨by rfl, ?_⟩) hS ?_
  rotate_left
  · rintro W' _; go_simp; try with_reducible rfl
  simp only [Act.put, List.setIfInBounds_toArray, List.set_cons_zero, List.set_cons_succ]
  refine headY (v := ?_) (some 74) rfl rfl (Or.inl ⟨by rfl, ?_⟩) hS ?_
  rotate_left
  · rintro W' _; go_simp; try with_reducible rfl
  simp only [Act.put, List.setIfInBounds_toArray, List.set_cons_zero, List.set_cons_succ]
  refine headY (v := ?_) (some 75) rfl rfl (Or.inl ⟨by rfl, ?_⟩) hS ?_
  rotate_left
  · rintro W' _; go_simp; try with_reducible rfl
  simp only [Act.put, List.setIfInBounds_toArray, List.set_cons_zero, List.set_cons_succ]
  refine headY (v := ?_) (some 76) rfl rfl (Or.inl ⟨by rfl, ?_⟩) hS ?_
  rotate_left
  · rintro W' _; go_simp; try with_reducible rfl
  simp only [Act.put, List.setIfInBounds_toArray, List.set_cons_zero, List.set_cons_succ]
  refine headC rfl (fun KK hK => ?_)
  go_simp
  refine hq1.out.mono ?_
  rintro e w6 ⟨n6, rfl, rfl⟩
  refine hK _ _ hS ?_
  clear hK KK hq1
  have c6 := below_drewN c5 n6
  have b06 := below_drewN b05 n6
  obtain ⟨W6, hW6⟩ : ∃ W : World, W5.drewN n6 = W := ⟨_, rfl⟩
  have hGA6 : IntsAt W6 (.slice ga1 ga2 ga3) (a.drop (a.length - 2 * R)) := by rw [← hW6]; exact hGA.out.drewN n6
  have hGB6 : IntsAt W6 (.slice gb1 gb2 gb3) (b.drop (b.length - 2 * R)) := by rw [← hW6]; exact hGB.out.drewN n6
  rw [hW6] at c6 b06 ⊢
  clear hW6
  by_cases hfr : a.take (2 * R) = b.take (2 * R)
  case neg =>
    have he := he4.out
    rw [if_pos (.inr (.inl hfr))] at he
    replace he := Lib.hid he
    rw [decide_eq_false hfr]
    clear hfr hGA6 hGB6
    refine headY (v := ?_) (some 78) rfl rfl (Or.inl ⟨by rfl, ?_⟩) hS ?_
    rotate_left
    · rintro W' _; go_simp; try with_reducible rfl
    simp only [Act.put, List.setIfInBounds_toArray, List.set_cons_zero, List.set_cons_succ]
    refine headY (v := ?_) (some 79) rfl rfl (Or.inl ⟨by rfl, ?_⟩) hS ?_
    rotate_left
    · rintro W' _; go_simp; try with_reducible rfl
    simp only [Act.put, List.setIfInBounds_toArray, List.set_cons_zero, List.set_cons_succ]
    refine headY (v := ?_) (some 80) rfl rfl (Or.inl ⟨by rfl, ?_⟩) hS ?_
    rotate_left
    · rintro W' _; go_simp; try with_reducible rfl
    simp only [Act.put, List.setIfInBounds_toArray, List.set_cons_zero, List.set_cons_succ]
    refine headY (v := undef) (some 81) rfl rfl (Or.inr ⟨by rfl, rfl⟩) hS ?_
    simp only [Act.put, List.setIfInBounds_toArray, List.set_cons_zero, List.set_cons_succ]
    refine headY (v := undef) (some 82) rfl rfl (Or.inr ⟨by rfl, rfl⟩) hS ?_
    simp only [Act.put, List.setIfInBounds_toArray, List.set_cons_zero, List.set_cons_succ]
    refine headY (v := undef) (some 83) rfl rfl (Or.inr ⟨by rfl, rfl⟩) hS ?_
    simp only [Act.put, List.setIfInBounds_toArray, List.set_cons_zero, List.set_cons_succ]
    refine headY (v := undef) (some 84) rfl rfl (Or.inr ⟨by rfl, rfl⟩) hS ?_
    simp only [Act.put, List.setIfInBounds_toArray, List.set_cons_zero, List.set_cons_succ]
    refine headY (v := undef) (some 85) rfl rfl (Or.inr ⟨by rfl, rfl⟩) hS ?_
    simp only [Act.put, List.setIfInBounds_toArray, List.set_cons_zero, List.set_cons_succ]
    refine headY (v := undef) (some 86) rfl rfl (Or.inr ⟨by rfl, rfl⟩) hS ?_
    simp only [Act.put, List.setIfInBounds_toArray, List.set_cons_zero, List.set_cons_succ]
    refine headY (v := undef) (some 87) rfl rfl (Or.inr ⟨by rfl, rfl⟩) hS ?_
    simp only [Act.put, List.setIfInBounds_toArray, List.set_cons_zero, List.set_cons_succ]
    refine headY (v := undef) (some 88) rfl rfl (Or.inr ⟨by rfl, rfl⟩) hS ?_
    simp only [Act.put, List.setIfInBounds_toArray, List.set_cons_zero, List.set_cons_succ]
    refine headY (v := undef) (some 89) rfl rfl (Or.inr ⟨by rfl, rfl⟩) hS ?_
    simp only [Act.put, List.setIfInBounds_toArray, List.set_cons_zero, List.set_cons_succ]
    refine headY (v := undef) (some 90) rfl rfl (Or.inr ⟨by rfl, rfl⟩) hS ?_
    simp only [Act.put, List.setIfInBounds_toArray, List.set_cons_zero, List.set_cons_succ]
    refine headY (v := undef) (some 91) rfl rfl (Or.inr ⟨by rfl, rfl⟩) hS ?_
    simp only [Act.put, List.setIfInBounds_toArray, List.set_cons_zero, List.set_cons_succ]
    refine headY (v := undef) (some 92) rfl rfl (Or.inr ⟨by rfl, rfl⟩) hS ?_
    simp only [Act.put, List.setIfInBounds_toArray, List.set_cons_zero, List.set_cons_succ]
    refine headC rfl (fun KK hK => ?_)
    go_simp
    refine hK _ _ hS ?_
    clear hK KK
    refine headY (v := undef) (some 94) rfl rfl (Or.inr ⟨by rfl, rfl⟩) hS ?_
    simp only [Act.put, List.setIfInBounds_toArray, List.set_cons_zero, List.set_cons_succ]
    refine headY (v := ?_) (some 95) rfl rfl (Or.inl ⟨by rfl, ?_⟩) hS ?_
    rotate_left
    · rintro W' _; go_simp; try with_reducible rfl
    simp only [Act.put, List.setIfInBounds_toArray, List.set_cons_zero, List.set_cons_succ]
    refine head0 ?_
    simp only [List.drop_succ_cons, List.drop_zero]
    clear z0 z1 z2
    obtain ⟨⟨z0, z1, z2⟩, -, -, -⟩ := q.below c6
    go_wp2
    refine NoPanic.normal ?_
    go_wp2_with fail
    refine (tcheck1_any r 2 3 W6 (hg.out.below c6) (by decide) (by decide)).mono ?_
    rintro e w9 ⟨y, rfl, b9, hy⟩
    obtain ⟨T9, a9, rfl⟩ := fresh_shape hy
    replace hy := Lib.hid hy
    clear z0 z1 z2
    go_wp2
    go_ret
    exact ⟨_, rfl, Below.step b06 b9, by rw [← he.out]; exact hy.out⟩
  rw [decide_eq_true hfr]
  have hq2 := equal_any _ _ _ _ W6 hGA6 hGB6
  replace hfr := Lib.hid hfr
  replace hq2 := Lib.hid hq2
  clear hGA6 hGB6
  refine headY (v := ?_) (some 78) rfl rfl (Or.inl ⟨by rfl, ?_⟩) hS ?_
  rotate_left
  · rintro W' _; go_simp; try with_reducible rfl
  simp only [Act.put, List.setIfInBounds_toArray, List.set_cons_zero, List.set_cons_succ]
  refine headY (v := ?_) (some 79) rfl rfl (Or.inl ⟨by rfl, ?_⟩) hS ?_
  rotate_left
  · rintro W' _; go_simp; try with_reducible rfl
  simp only [Act.put, List.setIfInBounds_toArray, List.set_cons_zero, List.set_cons_succ]
  refine headY (v := ?_) (some 80) rfl rfl (Or.inl ⟨by rfl, ?_⟩) hS ?_
  rotate_left
  · rintro W' _; go_simp; try with_reducible rfl
  simp only [Act.put, List.setIfInBounds_toArray, List.set_cons_zero, List.set_cons_succ]
  refine headY (v := ?_) (some 81) rfl rfl (Or.inl ⟨by rfl, ?_⟩) hS ?_
  rotate_left
  · rintro W' _; go_simp; try with_reducible rfl
  simp only [Act.put, List.setIfInBounds_toArray, List.set_cons_zero, List.set_cons_succ]
  refine headY (v := ?_) (some 82) rfl rfl (Or.inl ⟨by rfl, ?_⟩) hS ?_
  rotate_left
  · rintro W' _; go_simp; try with_reducible rfl
  simp only [Act.put, List.setIfInBounds_toArray, List.set_cons_zero, List.set_cons_succ]
  refine headY (v := ?_) (some 83) rfl rfl (Or.inl ⟨by rfl, ?_⟩) hS ?_
  rotate_left
  · rintro W' _; go_simp; try with_reducible rfl
  simp only [Act.put, List.setIfInBounds_toArray, List.set_cons_zero, List.set_cons_succ]
  refine headY (v := ?_) (some 84) rfl rfl (Or.inl ⟨by rfl, ?_⟩) hS ?_
  rotate_left
  · rintro W' _; go_simp; try with_reducible rfl
  simp only [Act.put, List.setIfInBounds_toArray, List.set_cons_zero, List.set_cons_succ]
  refine headY (v := ?_) (some 85) rfl rfl (Or.inl ⟨by rfl, ?_⟩) hS ?_
  rotate_left
  · rintro W' _; go_simp; try with_reducible rfl
  simp only [Act.put, List.setIfInBounds_toArray, List.set_cons_zero, List.set_cons_succ]
  refine headY (v := ?_) (some 86) rfl rfl (Or.inl ⟨by rfl, ?_⟩) hS ?_
  rotate_left
  · rintro W' _; go_simp; try with_reducible rfl
  simp only [Act.put, List.setIfInBounds_toArray, List.set_cons_zero, List.set_cons_succ]
  refine headY (v := ?_) (some 87) rfl rfl (Or.inl ⟨by rfl, ?_⟩) hS ?_
  rotate_left
  · rintro W' _; go_simp; try with_reducible rfl
  simp only [Act.put, List.setIfInBounds_toArray, List.set_cons_zero, List.set_cons_succ]
  refine headY (v := ?_) (some 88) rfl rfl (Or.inl ⟨by rfl, ?_⟩) hS ?_
  rotate_left
  · rintro W' _; go_simp; try with_reducible rfl
  simp only [Act.put, List.setIfInBounds_toArray, List.set_cons_zero, List.set_cons_succ]
  refine headY (v := ?_) (some 89) rfl rfl (Or.inl ⟨by rfl, ?_⟩) hS ?_
  rotate_left
  · rintro W' _; go_simp; try with_reducible rfl
  simp only [Act.put, List.setIfInBounds_toArray, List.set_cons_zero, List.set_cons_succ]
  refine headY (v := ?_) (some 90) rfl rfl (Or.inl ⟨by rfl, ?_⟩) hS ?_
  rotate_left
  · rintro W' _; go_simp; try with_reducible rfl
  simp only [Act.put, List.setIfInBounds_toArray, List.set_cons_zero, List.set_cons_succ]
  refine headY (v := ?_) (some 91) rfl rfl (Or.inl ⟨by rfl, ?_⟩) hS ?_
  rotate_left
  · rintro W' _; go_simp; try with_reducible rfl
  simp only [Act.put, List.setIfInBounds_toArray, List.set_cons_zero, List.set_cons_succ]
  refine headY (v := ?_) (some 92) rfl rfl (Or.inl ⟨by rfl, ?_⟩) hS ?_
  rotate_left
  · rintro W' _; go_simp; try with_reducible rfl
  simp only [Act.put, List.setIfInBounds_toArray, List.set_cons_zero, List.set_cons_succ]
  refine headC rfl (fun KK hK => ?_)
  go_simp
  refine hq2.out.mono ?_
  rintro e w7 ⟨n7, rfl, rfl⟩
  refine hK _ _ hS ?_
  clear hK KK hq2
  have c7 := below_drewN c6 n7
  have b07 := below_drewN b06 n7
  obtain ⟨W7, hW7⟩ : ∃ W : World, W6.drewN n7 = W := ⟨_, rfl⟩
  rw [hW7] at c7 b07 ⊢
  clear hW7
  by_cases hbk : a.drop (a.length - 2 * R) = b.drop (b.length - 2 * R)
  case neg =>
    have he := he4.out
    rw [if_pos (.inr (.inr hbk))] at he
    replace he := Lib.hid he
    rw [decide_eq_false hbk]
    clear hbk
    refine headY (v := ?_) (some 94) rfl rfl (Or.inl ⟨by rfl, ?_⟩) hS ?_
    rotate_left
    · rintro W' _; go_simp; try with_reducible rfl
    simp only [Act.put, List.setIfInBounds_toArray, List.set_cons_zero, List.set_cons_succ]
    refine headY (v := ?_) (some 95) rfl rfl (Or.inl ⟨by rfl, ?_⟩) hS ?_
    rotate_left
    · rintro W' _; go_simp; try with_reducible rfl
    simp only [Act.put, List.setIfInBounds_toArray, List.set_cons_zero, List.set_cons_succ]
    refine head0 ?_
    simp only [List.drop_succ_cons, List.drop_zero]
    clear z0 z1 z2
    obtain ⟨⟨z0, z1, z2⟩, -, -, -⟩ := q.below c7
    go_wp2
    refine NoPanic.normal ?_
    go_wp2_with fail
    refine (tcheck1_any r 2 3 W7 (hg.out.below c7) (by decide) (by decide)).mono ?_
    rintro e w9 ⟨y, rfl, b9, hy⟩
    obtain ⟨T9, a9, rfl⟩ := fresh_shape hy
    replace hy := Lib.hid hy
    clear z0 z1 z2
    go_wp2
    go_ret
    exact ⟨_, rfl, Below.step b07 b9, by rw [← he.out]; exact hy.out⟩
  rw [decide_eq_true hbk]
  have he5 := he4.out
  rw [if_neg (fun q => q.elim hlow (fun q => q.elim (fun q => q hfr.out) (fun q => q hbk)))] at he5
  replace he5 := Lib.hid he5
  replace hbk := Lib.hid hbk
  clear he4
  refine headY (v := ?_) (some 94) rfl rfl (Or.inl ⟨by rfl, ?_⟩) hS ?_
  rotate_left
  · rintro W' _; go_simp; try with_reducible rfl
  simp only [Act.put, List.setIfInBounds_toArray, List.set_cons_zero, List.set_cons_succ]
  refine headY (v := ?_) (some 95) rfl rfl (Or.inl ⟨by rfl, ?_⟩) hS ?_
  rotate_left
  · rintro W' _; go_simp; try with_reducible rfl
  simp only [Act.put, List.setIfInBounds_toArray, List.set_cons_zero, List.set_cons_succ]
  refine head0 ?_
  simp only [List.drop_succ_cons, List.drop_zero]
  clear z0 z1 z2
  obtain ⟨⟨z0, z1, z2⟩, -, -, -⟩ := q.below c7
  obtain ⟨W8, hW8⟩ : ∃ W : World, W7.drew = W := ⟨_, rfl⟩
  have c8 : Below W0.heap.size W0 W8 := by rw [← hW8]; exact c7.drew
  have b08 : Below w.heap.size w W8 := by rw [← hW8]; exact b07.drew
  replace hW8 := Lib.hid hW8
  go_wp2
  refine NoPanic.normal ?_
  go_upto_region 18 with fail
  have hS8 : W8.cell? ⟨w.heap.size, 0, none⟩ = some (.int .i64 K) ∧ W8.cell? ⟨w.heap.size, 1, none⟩ = some (.int .i64 R) ∧ W8.cell? ⟨w.heap.size, 2, none⟩ = some (.slice va vn vc) := by
    obtain ⟨⟨y0, y1, y2⟩, -, -, -⟩ := q.below c8
    exact ⟨y0, y1, y2⟩
  refine wp_region_plan (fun w' => w'.cell? ⟨w.heap.size, 0, none⟩ = some (.int .i64 K) ∧ w'.cell? ⟨w.heap.size, 1, none⟩ = some (.int .i64 R) ∧ w'.cell? ⟨w.heap.size, 2, none⟩ = some (.slice va vn vc)) 8 [(0, true), (1, true), (3, true), (4, true), (2, false), (5, false), (6, false), (7, true)] (by kernel_rfl) (by kernel_rfl) ?_
  rw [hW8.out]
  clear z0 z1 z2
  refine headY (v := ?_) (some 99) rfl rfl (Or.inl ⟨by rfl, ?_⟩) hS8 ?_
  rotate_left
  · rintro W' ⟨s0, s1, s2⟩; go_simp; try with_reducible rfl
  simp only [Act.put, List.setIfInBounds_toArray, List.set_cons_zero, List.set_cons_succ]
  refine headY (v := ?_) (some 100) rfl rfl (Or.inl ⟨by rfl, ?_⟩) hS8 ?_
  rotate_left
  · rintro W' ⟨s0, s1, s2⟩; go_simp; try with_reducible rfl
  simp only [Act.put, List.setIfInBounds_toArray, List.set_cons_zero, List.set_cons_succ]
  refine headY (v := ?_) (some 102) rfl rfl (Or.inl ⟨by rfl, ?_⟩) hS8 ?_
  rotate_left
  · rintro W' ⟨s0, s1, s2⟩; go_simp; try with_reducible rfl
  simp only [Act.put, List.setIfInBounds_toArray, List.set_cons_zero, List.set_cons_succ]
  refine headY (v := ?_) (some 103) rfl rfl (Or.inl ⟨by rfl, ?_⟩) hS8 ?_
  rotate_left
  · rintro W' ⟨s0, s1, s2⟩; go_simp; try with_reducible rfl
  simp only [Act.put, List.setIfInBounds_toArray, List.set_cons_zero, List.set_cons_succ]
  refine headC rfl (fun KK hK => ?_)
  go_simp
  refine (timage_ok K R va vn vc T _ a W8 (h.out.below c8) hr.out (hu.out.below c8) sA.out (by omega)).mono ?_
  rintro e w9 ⟨x1, rfl, b9, ho1⟩
  have c9 := Below.step c8 b9
  have hS9 : w9.cell? ⟨w.heap.size, 0, none⟩ = some (.int .i64 K) ∧ w9.cell? ⟨w.heap.size, 1, none⟩ = some (.int .i64 R) ∧ w9.cell? ⟨w.heap.size, 2, none⟩ = some (.slice va vn vc) := by
    obtain ⟨⟨y0, y1, y2⟩, -, -, -⟩ := q.below c9
    exact ⟨y0, y1, y2⟩
  obtain ⟨x1a, x1b, x1c, rfl⟩ := ho1.at.shape
  replace ho1 := Lib.hid ho1
  refine hK _ _ hS9 ?_
  clear hK KK hS8
  refine headC rfl (fun KK hK => ?_)
  go_simp
  refine (timage_ok K R va vn vc T _ b w9 (h.out.below c9) hr.out (hv.out.below c9) sB.out (by omega)).mono ?_
  rintro e w10 ⟨x2, rfl, b10, ho2⟩
  have c10 := Below.step c9 b10
  have b010 := Below.step (Below.step b08 b9) b10
  have hS10 : w10.cell? ⟨w.heap.size, 0, none⟩ = some (.int .i64 K) ∧ w10.cell? ⟨w.heap.size, 1, none⟩ = some (.int .i64 R) ∧ w10.cell? ⟨w.heap.size, 2, none⟩ = some (.slice va vn vc) := by
    obtain ⟨⟨y0, y1, y2⟩, -, -, -⟩ := q.below c10
    exact ⟨y0, y1, y2⟩
  obtain ⟨x2a, x2b, x2c, rfl⟩ := ho2.at.shape
  have hq3 := equal_any _ _ _ _ w10 (ho1.out.at.below b10) ho2.at
  replace hq3 := Lib.hid hq3
  replace ho2 := Lib.hid ho2
  refine hK _ _ hS10 ?_
  clear hK KK hS9
  refine headC rfl (fun KK hK => ?_)
  go_simp
  refine hq3.out.mono ?_
  rintro e w11 ⟨n11, rfl, rfl⟩
  have c11 := below_drewN c10 n11
  have b011 := below_drewN b010 n11
  refine hK _ _ hS10 ?_
  clear hK KK hq3
  obtain ⟨W11, hW11⟩ : ∃ W : World, w10.drewN n11 = W := ⟨_, rfl⟩
  have hS11 : W11.cell? ⟨w.heap.size, 0, none⟩ = some (.int .i64 K) ∧ W11.cell? ⟨w.heap.size, 1, none⟩ = some (.int .i64 R) ∧ W11.cell? ⟨w.heap.size, 2, none⟩ = some (.slice va vn vc) := by rw [← hW11]; exact hS10
  rw [hW11] at c11 b011 ⊢
  clear hS10 hW11
  refine headY (v := ?_) (some 106) rfl rfl (Or.inl ⟨by rfl, ?_⟩) hS11 ?_
  rotate_left
  · rintro W' ⟨s0, s1, s2⟩; go_simp; try with_reducible rfl
  simp only [Act.put, List.setIfInBounds_toArray, List.set_cons_zero, List.set_cons_succ]
  refine head0 ?_
  simp only [List.drop_succ_cons, List.drop_zero]
  obtain ⟨z0, z1, z2⟩ := hS11
  by_cases him : imgP K R T a = imgP K R T b
  · have he := he5.out
    rw [if_neg (fun q => q him)] at he
    replace he := Lib.hid he
    rw [decide_eq_true him]
    replace him := Lib.hid him
    go_wp2
    refine NoPanic.normal ?_
    go_wp2
    go_ret
    exact ⟨_, rfl, b011, by rw [← he.out]; rfl⟩
  · have he := he5.out
    rw [if_pos him] at he
    replace he := Lib.hid he
    rw [decide_eq_false him]
    clear him
    go_wp2
    refine NoPanic.normal ?_
    go_wp2_with fail
    refine (tcheck1_any r 3 3 W11 (hg.out.below c11) (by decide) (by decide)).mono ?_
    rintro e w9 ⟨y, rfl, b9, hy⟩
    obtain ⟨T9, a9, rfl⟩ := fresh_shape hy
    replace hy := Lib.hid hy
    clear z0 z1 z2
    go_wp2
    go_ret
    exact ⟨_, rfl, Below.step b011 b9, by rw [← he.out]; exact hy.out⟩
end Go.Proofs.YtmhiambkfdkkbaaGreatDoor

namespace Go.Proofs.YtmhiambkfdkkbaaGreatDoor
open Go.RowKit
set_option maxRecDepth 100000

end Go.Proofs.YtmhiambkfdkkbaaGreatDoor

namespace Go.Proofs.YtmhiambkfdkkbaaGreatDoor
open Go.RowKit
set_option maxRecDepth 100000

end Go.Proofs.YtmhiambkfdkkbaaGreatDoor

namespace Go.Proofs.YtmhiambkfdkkbaaGreatDoor
open Go.RowKit
set_option maxRecDepth 100000

/-- What Onto, One answer. -/
def toldP (may : Int → Bool) (k : Int) (f : List Int) : Bool := if factP k f = none then wholeP may k f else false
theorem factP_none {k : Int} {f : List Int} (h : factP k f = none) : 1 ≤ k ∧ k ≤ 4 ∧ oddP f.length = true ∧ Syms k f := by
  unfold factP at h
  by_cases hk : k < 1 ∨ 4 < k
  · rw [if_pos hk] at h; cases h
  rw [if_neg hk] at h
  cases ho : oddP f.length
  · rw [ho, if_pos rfl] at h; cases h
  · rw [ho, if_neg (by decide)] at h
    exact ⟨by omega, by omega, rfl, numP_none h⟩

end Go.Proofs.YtmhiambkfdkkbaaGreatDoor

namespace Go.Proofs.YtmhiambkfdkkbaaGreatDoor
open Go.RowKit
set_option maxRecDepth 100000

theorem EOwn.drew {B : Nat} {w : World} {t : PErr} {v : Value} (h : EOwn B w t v) : EOwn B w.drew t v := by
  match t, h with
  | none, h => exact h
  | some (n, l), h => exact h
theorem factP_num {k : Int} {f : List Int} {t : Int × List (ByteArray × Int)} (h : factP k f = some t) : 1 ≤ t.1 ∧ t.1 ≤ 11 ∧ t.2.length = 1 := by
  unfold factP numP fresh at h
  split at h
  · cases h; decide
  · split at h
    · cases h; decide
    · split at h
      · cases h
      · cases h; exact ⟨by simp, by simp, rfl⟩

end Go.Proofs.YtmhiambkfdkkbaaGreatDoor

namespace Go.Proofs.YtmhiambkfdkkbaaGreatDoor
open Go.RowKit
set_option maxRecDepth 100000

end Go.Proofs.YtmhiambkfdkkbaaGreatDoor

namespace Go.Proofs.YtmhiambkfdkkbaaGreatDoor
open Go.RowKit
set_option maxRecDepth 100000

theorem fresh_fine {op : ByteArray} {at_ n : Int} (h1 : 1 ≤ n) (h2 : n ≤ 11) : (fresh op at_ n).Fine := ⟨h1, h2, by simp⟩
theorem checkP_num {k R : Int} {xs : List Int} {t : Int × List (ByteArray × Int)} (h : checkP k R xs = some t) : t.1 = 1 ∧ t.2.length = 1 := by
  unfold checkP fresh at h
  split at h
  · cases h; exact ⟨rfl, rfl⟩
  · split at h
    · cases h; exact ⟨rfl, rfl⟩
    · split at h
      · cases h; exact ⟨rfl, rfl⟩
      · split at h
        · cases h
        · cases h; exact ⟨rfl, rfl⟩

theorem under_check_fine (op : ByteArray) (k R : Int) (T : List Int) : (under op 0 (checkP k R T)).Fine := by
  cases hc : checkP k R T with
  | none => trivial
  | some t =>
    obtain ⟨n, l⟩ := t
    have := checkP_num hc
    simp only at this
    exact ⟨by omega, by omega, by simp; omega⟩
end Go.Proofs.YtmhiambkfdkkbaaGreatDoor

namespace Go.Proofs.YtmhiambkfdkkbaaGreatDoor

/-- The factors that may be, the first i of them found. -/
def facU (K n : Nat) (xs : List Int) (i : Nat) : List Int := (List.range n).map fun j => if j < i then xs.getD (pw K (n - 1 - j)) 0 else 0
theorem facU_length (K n : Nat) (xs : List Int) (i : Nat) : (facU K n xs i).length = n := by simp [facU]
theorem facU_zero (K n : Nat) (xs : List Int) : facU K n xs 0 = List.replicate n 0 := by
  refine List.ext_getElem (by simp [facU]) fun j h1 h2 => ?_
  simp [facU]
theorem facU_succ (K n : Nat) (xs : List Int) (i : Nat) : (facU K n xs i).set i (xs.getD (pw K (n - 1 - i)) 0) = facU K n xs (i + 1) := by
  refine List.ext_getElem (by simp [facU]) fun j h1 h2 => ?_
  rw [List.getElem_set]
  simp only [facU, List.getElem_map, List.getElem_range]
  by_cases e : i = j
  · subst e; simp
  · rw [if_neg e]
    by_cases c : j < i
    · rw [if_pos c, if_pos (by omega)]
    · rw [if_neg c, if_neg (by omega)]
theorem facU_all {K R : Nat} (hK : 1 < K) (xs : List Int) : facU K (2 * R + 1) xs (2 * R + 1) = facs K R xs := by
  unfold facs facI facL facU
  rw [if_pos hK]
  refine List.map_congr_left fun j hj => ?_
  have := List.mem_range.1 hj
  rw [if_pos this, if_pos (by omega)]
theorem facs_one {K R : Nat} (hK : ¬ 1 < K) (xs : List Int) : facs K R xs = List.replicate (2 * R + 1) 0 := by
  unfold facs facI
  rw [if_neg hK]
end Go.Proofs.YtmhiambkfdkkbaaGreatDoor

namespace Go.Proofs.YtmhiambkfdkkbaaGreatDoor
open Go.RowKit
set_option maxRecDepth 100000

end Go.Proofs.YtmhiambkfdkkbaaGreatDoor

namespace Go.Proofs.YtmhiambkfdkkbaaGreatDoor
open Go.RowKit
set_option maxRecDepth 100000

theorem ref_value (K : Nat) (u : Value) (ys : List Int) (w : World) (hk1 : 1 ≤ K) (hk4 : K ≤ 4) (hu : IntsAt w u ys) (hy : Syms K ys) (hyl : ys.length ≤ 7) :
    Calls Tryz.prog 80 #[.int .i64 K, u] w fun e w' => e = .returned (.int .i64 (numW K ys)) ∧ w = w' := by
  have l1 := hu.len
  replace hu := Lib.hid hu
  replace hy := Lib.hid hy
  go_enter Tryz.func80, Tryz.ntmps80
  go_wp2
  go_loop [5, 6] (fun n i => ∃ j : Nat, j ≤ ys.length ∧ i = .int .i64 j ∧ n = .int .i64 (numW K (ys.take j))) (fun _ i => ys.length - (intOf i).toNat)
  case atStart => exact ⟨0, by omega, rfl, rfl⟩
  case round =>
    obtain ⟨j, hj, rfl, rfl⟩ := hrel
    by_cases hjl : j < ys.length
    · have i1 := hu.out.idx j hjl
      have c1 := hu.out.cell j hjl
      have hx := hy.out ys[j] (by simp)
      have hn : Hid (numW K (ys.take (j + 1)) = numW K (ys.take j) * K + ys[j].toNat) := by
        show _ = _
        rw [take_snoc ys j hjl, numW_snoc]
      have hn2 : numW K (ys.take j) ≤ 16384 := by
        have h1 := numW_lt (ys.take j) (fun x hx => hy.out x (List.mem_of_mem_take hx))
        have h2 := pw_le hk1 hk4 (i := (ys.take j).length) (by simp; omega)
        omega
      generalize ys[j] = x at c1 hx hn
      generalize numW K (ys.take j) = N at hn hn2
      have hm1 : 0 ≤ (N : Int) * (K : Int) := Int.mul_nonneg (by omega) (by omega)
      have hm2 : (N : Int) * (K : Int) ≤ 65536 := by
        have : N * K ≤ 65536 := Nat.mul_le_mul hn2 hk4
        have h2 := Int.ofNat_le.2 this
        rw [Int.natCast_mul] at h2
        exact h2
      go_wp2
      go_round
      case rel => exact ⟨j + 1, by omega, by go_num, by rw [hn.out]; go_num⟩
      case measure => simp [intOf]; omega
    · obtain rfl : j = ys.length := by omega
      rw [List.take_length]
      go_wp2
      go_ret
      exact ⟨rfl, rfl⟩

theorem f05_fault (at_ k R : Int) (va : Option Addr) (vn vc : Nat) (xs : List Int) (w : World) (h : IntsAt w (.slice va vn vc) xs) :
    Calls Tryz.prog 155 #[.int .i64 at_, .agg #[.int .i64 k, .int .i64 R, .slice va vn vc]] w (Ret1 (fun x w' => EOwn w.heap.size w' (under sForms at_ (checkP k R xs)) x) w) := by
  have b0 := Below.step (belowAlloc w (.cells #[.int .i64 k, .int .i64 R, .slice va vn vc] 24)) (belowAlloc _ (.cells #[.int .i64 0, .slice none 0 0, .slice none 0 0] 34))
  have q4 : Box3 ((w.alloc (.cells #[.int .i64 k, .int .i64 R, .slice va vn vc] 24)).alloc (.cells #[.int .i64 0, .slice none 0 0, .slice none 0 0] 34)) (w.heap.size + 1) (.int .i64 0) (.slice none 0 0) (.slice none 0 0) := by simp [Box3, go_sem]
  replace h := Lib.hid (h.below b0)
  go_enter Tryz.func155, Tryz.ntmps155
  go_wp2_with fail
  refine (ref_check k R va vn vc xs _ h.out).mono ?_
  rintro e w1 ⟨x, rfl, b1, he⟩
  go_wp2_with fail
  refine (raw_under _ at_ (checkP k R xs) x _ he.at (fun n l e => by
    have := checkP_num e
    simp only at this
    exact ⟨by omega, by omega, by omega⟩)).mono ?_
  rintro e w2 ⟨x2, rfl, b2, he2⟩
  obtain ⟨q, a1, n1, c1, a2, n2, c2, rfl⟩ := he2.shape
  have q4' := q4.below (Below.step b1 b2)
  obtain ⟨⟨y0, y1, y2⟩, f0, f1, f2⟩ := q4'
  have hs := b1.size
  simp only [World.size_alloc] at hs
  replace he2 := Lib.hid he2
  go_wp2
  exact bodyPost_ret (v := .agg #[.int .i64 q, .slice a1 n1 c1, .slice a2 n2 c2]) (by simp [results, Tryz.results155, go_sem, y0, y1, y2]) rfl ⟨_, rfl, below_set3 (Below.step b0 (Below.step b1 b2)) (Nat.le_succ _) _ _ _, (he2.out.set3 (by omega) _ _ _).mono (by omega)⟩
end Go.Proofs.YtmhiambkfdkkbaaGreatDoor

namespace Go.Proofs.YtmhiambkfdkkbaaGreatDoor
open Go.RowKit
set_option maxRecDepth 100000

theorem err_box8 (w1 : World) (x0 x1 x2 : Value) :
    Below w1.heap.size w1 (w1.alloc (.cells #[x0, x1, x2] 34)) ∧ Box3 (w1.alloc (.cells #[x0, x1, x2] 34)) w1.heap.size x0 x1 x2 := by
  obtain ⟨y0, y1, y2, f⟩ := cells3 (Below.refl (w1.alloc (.cells #[x0, x1, x2] 34)).heap.size (w1.alloc (.cells #[x0, x1, x2] 34)))
  exact ⟨belowAlloc w1 _, ⟨y0, y1, y2⟩, f⟩
theorem smallP_num {k R : Int} {T : List Int} {n : Int} {l : List (ByteArray × Int)} (h : smallP k R T = some (n, l)) : 1 ≤ n ∧ n ≤ 11 ∧ l.length = 1 := by
  unfold smallP at h
  cases hc : checkP k R T with
  | some t =>
    rw [hc] at h
    injection h with h
    subst h
    have := checkP_num hc
    simp only at this
    omega
  | none =>
    rw [hc] at h
    dsimp only at h
    split at h
    · injection h with h
      injection h with h1 h2
      subst h1; subst h2
      simp
    · cases h

set_option maxHeartbeats 2000000 in
theorem ref_small (k R : Int) (va : Option Addr) (vn vc : Nat) (T : List Int) (w : World) (h : IntsAt w (.slice va vn vc) T) :
    Calls Tryz.prog 102 #[.agg #[.int .i64 k, .int .i64 R, .slice va vn vc]] w (Ret1 (fun x w' => EOwn w.heap.size w' (smallP k R T) x) w) := by
  have b0 := Below.step (belowAlloc w (.cells #[.int .i64 k, .int .i64 R, .slice va vn vc] 24)) (belowAlloc _ (.cells #[.int .i64 0, .slice none 0 0, .slice none 0 0] 34))
  have q : Box3 ((w.alloc (.cells #[.int .i64 k, .int .i64 R, .slice va vn vc] 24)).alloc (.cells #[.int .i64 0, .slice none 0 0, .slice none 0 0] 34)) w.heap.size (.int .i64 k) (.int .i64 R) (.slice va vn vc) := by simp [Box3, go_sem]
  have q4 : Box3 ((w.alloc (.cells #[.int .i64 k, .int .i64 R, .slice va vn vc] 24)).alloc (.cells #[.int .i64 0, .slice none 0 0, .slice none 0 0] 34)) (w.heap.size + 1) (.int .i64 0) (.slice none 0 0) (.slice none 0 0) := by simp [Box3, go_sem]
  have lT := h.len
  have s0 : ((w.alloc (.cells #[.int .i64 k, .int .i64 R, .slice va vn vc] 24)).alloc (.cells #[.int .i64 0, .slice none 0 0, .slice none 0 0] 34)).heap.size = w.heap.size + 2 := by simp
  replace h := Lib.hid (h.below b0)
  obtain ⟨e0, hsm, he0⟩ : ∃ e0, (smallP k R T = match e0 with | some t => some t | none => if 256 < T.length then fresh sRule 0 4 else none) ∧ checkP k R T = e0 := ⟨_, rfl, rfl⟩
  replace he0 := Lib.hid he0
  replace s0 := Lib.hid s0
  go_enter Tryz.func102, Tryz.ntmps102
  go_wp2_with fail
  refine (ref_check k R va vn vc T _ h.out).mono ?_
  rintro e w1 ⟨x, rfl, b1, he⟩
  rw [he0.out] at he
  obtain ⟨qn, a1, n1, c1, a2, n2, c2, rfl⟩ := he.shape
  obtain ⟨be, bx⟩ := err_box8 w1 (.int .i64 qn) (.slice a1 n1 c1) (.slice a2 n2 c2)
  have c1e := Below.step b1 be
  have q' := q.below c1e
  have q4' := q4.below c1e
  have heb := he.below be
  have s1 := b1.size
  rw [s0.out] at s1
  obtain ⟨W2, hW2⟩ : ∃ W2 : World, w1.alloc (.cells #[.int .i64 qn, .slice a1 n1 c1, .slice a2 n2 c2] 34) = W2 := ⟨_, rfl⟩
  have s2 : w1.heap.size < W2.heap.size := by rw [← hW2]; simp
  have b02 := Below.step b0 c1e
  rw [hW2] at be bx c1e q' q4' heb b02
  replace hW2 := Lib.hid hW2
  obtain ⟨⟨y0, y1, y2⟩, -, -, -⟩ := bx
  have hq : (qn != 0) = e0.isSome := by
    cases e0 with
    | none =>
      have : Value.agg #[.int .i64 qn, .slice a1 n1 c1, .slice a2 n2 c2] = .agg #[.int .i64 0, .slice none 0 0, .slice none 0 0] := he
      injection this with this
      injection this with this
      injection this with h1 h2
      injection h1 with _ h1
      rw [h1]; rfl
    | some t =>
      obtain ⟨n, l⟩ := t
      obtain ⟨_, _, _, _, _, _, e, _⟩ := he
      injection e with e
      injection e with e
      injection e with h1 h2
      injection h1 with _ h1
      have := checkP_num he0.out
      simp only at this
      rw [h1, this.1]; rfl
  replace he := Lib.hid he
  replace heb := Lib.hid heb
  go_upto_region 2 with fail
  rw [hW2.out]
  go_wp2_with fail
  refine (err_bad _ _ _ _ _ _ _ W2).mono ?_
  rintro e w3 ⟨_, rfl, b3, rfl⟩
  rw [hq]
  replace hq := Lib.hid hq
  have hey := heb.out.below b3
  have bxx : Box3 W2 w1.heap.size (.int .i64 qn) (.slice a1 n1 c1) (.slice a2 n2 c2) → True := fun _ => trivial
  clear bxx
  have y0' := (b3.cell (World.block_lt_of_cell? _ _ y0)).trans y0
  have y1' := (b3.cell (World.block_lt_of_cell? _ _ y1)).trans y1
  have y2' := (b3.cell (World.block_lt_of_cell? _ _ y2)).trans y2
  obtain ⟨⟨z0, z1, z2⟩, -, -, -⟩ := q'.below b3
  obtain ⟨⟨u0, u1, u2⟩, f0, f1, f2⟩ := q4'.below b3
  have b03 := Below.step b02 b3
  clear y0 y1 y2
  cases e0 with
  | some t =>
    simp only [] at hsm
    replace hsm := Lib.hid hsm
    replace hey := Lib.hid hey
    go_wp2
    refine bodyPost_ret (v := .agg #[.int .i64 qn, .slice a1 n1 c1, .slice a2 n2 c2]) (by simp [results, Tryz.results102, go_sem, u0, u1, u2]) rfl ⟨_, rfl, below_set3 b03 (by omega) _ _ _, ?_⟩
    rw [hsm.out]
    refine ((hey.out.set3 ?_ _ _ _)).mono ?_
    · have := s0.out; omega
    · have := s0.out; omega
  | none =>
    simp only [] at hsm
    by_cases hl : 256 < T.length
    · rw [if_pos hl] at hsm
      have d1 : decide ((256 : Int) < (T.length : Int)) = true := decide_eq_true (by omega)
      replace hsm := Lib.hid hsm
      replace hey := Lib.hid hey
      go_wp2_with fail
      refine (raw_new _ _ _ _).mono ?_
      rintro e w4 ⟨x4, rfl, b4, he4⟩
      obtain ⟨q9, a9, n9, c9, a8, n8, c8, rfl⟩ := he4.shape
      have bb := Below.step b03 b4
      obtain ⟨⟨u0', u1', u2'⟩, g0, g1, g2⟩ := q4.below (Below.step c1e (Below.step b3 b4))
      have s4 := (Below.step b3 b4).size
      replace he4 := Lib.hid he4
      clear u0 u1 u2 f0 f1 f2 z0 z1 z2 y0' y1' y2'
      go_wp2
      refine bodyPost_ret (v := .agg #[.int .i64 q9, .slice a9 n9 c9, .slice a8 n8 c8]) (by simp [results, Tryz.results102, go_sem, u0', u1', u2']) rfl ⟨_, rfl, below_set3 bb (by omega) _ _ _, ?_⟩
      rw [hsm.out]
      have s3 := b3.size
      exact (he4.out.set3 (by omega) _ _ _).mono (by omega)
    · rw [if_neg hl] at hsm
      have d1 : decide ((256 : Int) < (T.length : Int)) = false := decide_eq_false (by omega)
      replace hsm := Lib.hid hsm
      replace hey := Lib.hid hey
      go_wp2
      refine bodyPost_ret (v := .agg #[.int .i64 qn, .slice a1 n1 c1, .slice a2 n2 c2]) (by simp [results, Tryz.results102, go_sem, u0, u1, u2]) rfl ⟨_, rfl, below_set3 b03 (by omega) _ _ _, ?_⟩
      rw [hsm.out]
      refine ((hey.out.set3 ?_ _ _ _)).mono ?_
      · have := s0.out; omega
      · have := s0.out; omega

theorem ref08_fault (op : ByteArray) (k R : Int) (va : Option Addr) (vn vc : Nat) (T : List Int) (w : World) (h : IntsAt w (.slice va vn vc) T) :
    Calls Tryz.prog 52 #[.string op, .agg #[.int .i64 k, .int .i64 R, .slice va vn vc]] w (Ret1 (fun x w' => EOwn w.heap.size w' (under op 0 (smallP k R T)) x) w) := by
  have b0 := Below.step (belowAlloc w (.cells #[.int .i64 k, .int .i64 R, .slice va vn vc] 24)) (belowAlloc _ (.cells #[.int .i64 0, .slice none 0 0, .slice none 0 0] 34))
  have q4 : Box3 ((w.alloc (.cells #[.int .i64 k, .int .i64 R, .slice va vn vc] 24)).alloc (.cells #[.int .i64 0, .slice none 0 0, .slice none 0 0] 34)) (w.heap.size + 1) (.int .i64 0) (.slice none 0 0) (.slice none 0 0) := by simp [Box3, go_sem]
  replace h := Lib.hid (h.below b0)
  go_enter Tryz.func52, Tryz.ntmps52
  go_wp2_with fail
  refine (ref_small k R va vn vc T _ h.out).mono ?_
  rintro e w1 ⟨x, rfl, b1, he⟩
  go_wp2_with fail
  refine (raw_under _ 0 (smallP k R T) x _ he.at (fun n l e => by
    have := smallP_num e
    exact ⟨by omega, by omega, by omega⟩)).mono ?_
  rintro e w2 ⟨x2, rfl, b2, he2⟩
  obtain ⟨q, a1, n1, c1, a2, n2, c2, rfl⟩ := he2.shape
  have q4' := q4.below (Below.step b1 b2)
  obtain ⟨⟨y0, y1, y2⟩, f0, f1, f2⟩ := q4'
  have hs := b1.size
  simp only [World.size_alloc] at hs
  replace he2 := Lib.hid he2
  go_wp2
  exact bodyPost_ret (v := .agg #[.int .i64 q, .slice a1 n1 c1, .slice a2 n2 c2]) (by simp [results, Tryz.results52, go_sem, y0, y1, y2]) rfl ⟨_, rfl, below_set3 (Below.step b0 (Below.step b1 b2)) (Nat.le_succ _) _ _ _, (he2.out.set3 (by omega) _ _ _).mono (by omega)⟩

set_option maxHeartbeats 2000000 in
theorem ref_image (K R : Nat) (va : Option Addr) (vn vc : Nat) (T : List Int) (u : Value) (x : List Int) (w : World) (h : IntsAt w (.slice va vn vc) T) (hr : RuleOk K R T) (hu : IntsAt w u x) (hx : Syms K x) (hl : x.length ≤ 100000) :
    Calls Tryz.prog 55 #[.agg #[.int .i64 K, .int .i64 R, .slice va vn vc], u] w (Ret1 (fun v w' => OwnI w.heap.size w' v (imgP K R T x)) w) := by
  have b0 := belowAlloc w (.cells #[.int .i64 K, .int .i64 R, .slice va vn vc] 24)
  have q : Box3 (w.alloc (.cells #[.int .i64 K, .int .i64 R, .slice va vn vc] 24)) w.heap.size (.int .i64 K) (.int .i64 R) (.slice va vn vc) := by simp [Box3, go_sem]
  have hR3 := hr.r3
  have hk1 := hr.k1
  have hk4 := hr.k4
  have lX := hu.len
  obtain ⟨ua, un, uc, rfl⟩ := hu.shape
  replace h := Lib.hid (h.below b0)
  replace hu := Lib.hid (hu.below b0)
  replace hr := Lib.hid hr
  replace hx := Lib.hid hx
  obtain ⟨W0, hW0⟩ : ∃ W : World, w.alloc (.cells #[.int .i64 K, .int .i64 R, .slice va vn vc] 24) = W := ⟨_, rfl⟩
  have s0 : w.heap.size ≤ W0.heap.size := by rw [← hW0]; simp
  rw [hW0] at h hu q b0
  replace hW0 := Lib.hid hW0
  go_enter Tryz.func55, Tryz.ntmps55
  go_upto_region 3 with fail
  rw [hW0.out]
  clear hW0
  go_loopw [5, 6] (fun ov iv wr => ∃ (i : Nat) (ow : Value), ow = ov ∧ iv = .int .i64 i ∧ i ≤ x.length - 2 * R ∧ OwnI W0.heap.size wr ow ((imgP K R T x).take i) ∧ Below W0.heap.size W0 wr) (fun _ iv _ => x.length - (intOf iv).toNat)
  case atStart => exact ⟨0, _, rfl, rfl, Nat.zero_le _, OwnI.nil _ _, Below.refl _ _⟩
  case round =>
    obtain ⟨i, ow, rfl, rfl, hi, hO, hB⟩ := hrel
    obtain ⟨wo, rfl⟩ : ∃ wo : World, wo = wr := ⟨_, rfl⟩
    obtain ⟨⟨z0, z1, z2⟩, -, -, -⟩ := q.below hB
    by_cases hlt : i + 2 * R < x.length
    · obtain ⟨W, hW⟩ : ∃ W : World, wo.drew = W := ⟨_, rfl⟩
      have hBW : Below W0.heap.size W0 W := by rw [← hW]; exact hB.drew
      have hOW : OwnI W0.heap.size W ow ((imgP K R T x).take i) := by rw [← hW]; exact hO
      obtain ⟨pv, hsl, hP⟩ := (hu.out.below hBW).mid i (i + 2 * R + 1) (by omega) (by omega)
      have hwin : (x.take (i + 2 * R + 1)).drop i = (x.drop i).take (2 * R + 1) := by rw [List.drop_take]; congr 1; omega
      rw [hwin] at hP
      have hwl : ((x.drop i).take (2 * R + 1)).length = 2 * R + 1 := by rw [List.length_take, List.length_drop]; omega
      have hws : Syms K ((x.drop i).take (2 * R + 1)) := syms_take (syms_drop hx.out i) _
      have hnl := numW_lt _ hws
      rw [hwl, ← hr.out.len] at hnl
      have hT := h.out.below hBW
      have iT := fun w' => hT.idx _ hnl w'
      have cT := hT.cellD _ hnl
      have hg := imgP_getD K R T x i (by omega)
      have htk : (imgP K R T x).take (i + 1) = (imgP K R T x).take i ++ [(imgP K R T x).getD i 0] := by
        rw [List.take_add_one, List.getElem?_eq_getElem (by rw [imgP_length]; omega), List.getD_eq_getElem?_getD, List.getElem?_eq_getElem (by rw [imgP_length]; omega)]; rfl
      rw [hg] at htk
      have hval := ref_value K pv _ W hk1 hk4 hP hws (by rw [hwl]; omega)
      obtain ⟨pa, pn, pc, rfl⟩ := hP.shape
      have hsl2 : ∀ w', (Instr.slice 22 (.slice ua un uc) (some (.int .i64 (i : Int))) (some (.int .i64 ((i : Int) + 2 * (R : Int) + 1))) none).run Tryz.prog w' = .ok (.slice pa pn pc) w' := by
        intro w'; have := hsl w'; rwa [show (((i + 2 * R + 1 : Nat) : Nat) : Int) = (i : Int) + 2 * (R : Int) + 1 by omega] at this
      have hnl2 : numW K ((x.drop i).take (2 * R + 1)) < T.length := hnl
      have hta0 : (valAt (.slice va vn vc) (numW K ((x.drop i).take (2 * R + 1)))).block < W0.heap.size := World.block_lt_of_cell? _ _ (h.out.cellD _ hnl)
      generalize T.getD (numW K ((x.drop i).take (2 * R + 1))) 0 = y at *
      generalize numW K ((x.drop i).take (2 * R + 1)) = N at *
      generalize valAt (.slice va vn vc) N = ta at *
      have hol : ((imgP K R T x).take i).length = i := by rw [List.length_take, imgP_length]; omega
      have sW := hBW.size
      have hta := World.block_lt_of_cell? _ _ cT
      have hS : W.cell? ⟨w.heap.size, 0, none⟩ = some (.int .i64 K) ∧ W.cell? ⟨w.heap.size, 1, none⟩ = some (.int .i64 R) ∧ W.cell? ⟨w.heap.size, 2, none⟩ = some (.slice va vn vc) ∧ W.cell? ta = some (.int .i64 y) := by
        obtain ⟨⟨y0, y1, y2⟩, -, -, -⟩ := q.below hBW
        exact ⟨y0, y1, y2, cT⟩
      have bl := belowAlloc W (.cells #[.int .i64 y] 3)
      have hlit := OwnI.lit W.heap.size W (Nat.le_refl _) [y] (by simp [maxLen]) #[.int .i64 y] rfl 1 rfl
      have hOl := hOW.below bl
      have hBl : W0.heap.size ≤ (W.alloc (.cells #[.int .i64 y] 3)).heap.size := by simp; omega
      have hS1 : (W.alloc (.cells #[.int .i64 y] 3)).cell? ⟨w.heap.size, 0, none⟩ = some (.int .i64 K) ∧ (W.alloc (.cells #[.int .i64 y] 3)).cell? ⟨w.heap.size, 1, none⟩ = some (.int .i64 R) ∧ (W.alloc (.cells #[.int .i64 y] 3)).cell? ⟨w.heap.size, 2, none⟩ = some (.slice va vn vc) ∧ (W.alloc (.cells #[.int .i64 y] 3)).cell? ta = some (.int .i64 y) := by
        have h0 := World.block_lt_of_cell? _ _ hS.1
        exact ⟨(bl.cell h0).trans hS.1, (bl.cell (World.block_lt_of_cell? _ _ hS.2.1)).trans hS.2.1, (bl.cell (World.block_lt_of_cell? _ _ hS.2.2.1)).trans hS.2.2.1, (bl.cell hta).trans hS.2.2.2⟩
      replace hOl := Lib.hid hOl
      replace hval := Lib.hid hval
      replace hT := Lib.hid hT
      replace hOW := Lib.hid hOW
      replace hO := Lib.hid hO
      replace hP := Lib.hid hP
      replace hws := Lib.hid hws
      replace hwl := Lib.hid hwl
      replace hwin := Lib.hid hwin
      replace hg := Lib.hid hg
      replace htk := Lib.hid htk
      replace hol := Lib.hid hol
      replace hW := Lib.hid hW
      replace hlit := Lib.hid hlit
      clear hsl cT
      have hw1 : IntKind.i64.wrap (2 * (R : Int)) = 2 * (R : Int) := wrapK (by omega) (by omega)
      have hw2 : IntKind.i64.wrap ((i : Int) + 2 * (R : Int)) = (i : Int) + 2 * (R : Int) := wrapK (by omega) (by omega)
      have hw3 : IntKind.i64.wrap ((i : Int) + 2 * (R : Int) + 1) = (i : Int) + 2 * (R : Int) + 1 := wrapK (by omega) (by omega)
      go_upto_region 5 with fail
      refine wp_region_plan (fun w' => w'.cell? ⟨w.heap.size, 0, none⟩ = some (.int .i64 K) ∧ w'.cell? ⟨w.heap.size, 1, none⟩ = some (.int .i64 R) ∧ w'.cell? ⟨w.heap.size, 2, none⟩ = some (.slice va vn vc) ∧ w'.cell? ta = some (.int .i64 y)) 19 [(0, true), (1, true), (2, true), (3, true), (4, true), (5, true), (6, true), (7, true), (8, true), (9, true), (10, true), (11, true), (12, true), (13, true), (14, false), (15, true), (16, true), (17, false), (18, false)] (by kernel_rfl) (by kernel_rfl) ?_
      rw [hW.out]
      clear z0 z1 z2
      refine headY (v := ?_) (some 17) rfl rfl (Or.inl ⟨by rfl, ?_⟩) hS ?_
      rotate_left
      · rintro W' ⟨s0, s1, s2, s3⟩; go_simp; try with_reducible rfl
      simp only [Act.put, List.setIfInBounds_toArray, List.set_cons_zero, List.set_cons_succ]
      refine headY (v := ?_) (some 18) rfl rfl (Or.inl ⟨by rfl, ?_⟩) hS ?_
      rotate_left
      · rintro W' ⟨s0, s1, s2, s3⟩; go_simp; try with_reducible rfl
      simp only [Act.put, List.setIfInBounds_toArray, List.set_cons_zero, List.set_cons_succ]
      refine headY (v := ?_) (some 19) rfl rfl (Or.inl ⟨by rfl, ?_⟩) hS ?_
      rotate_left
      · rintro W' ⟨s0, s1, s2, s3⟩; go_simp; try with_reducible rfl
      simp only [Act.put, List.setIfInBounds_toArray, List.set_cons_zero, List.set_cons_succ]
      refine headY (v := ?_) (some 20) rfl rfl (Or.inl ⟨by rfl, ?_⟩) hS ?_
      rotate_left
      · rintro W' ⟨s0, s1, s2, s3⟩; go_simp; try with_reducible rfl
      simp only [Act.put, List.setIfInBounds_toArray, List.set_cons_zero, List.set_cons_succ]
      refine headY (v := ?_) (some 21) rfl rfl (Or.inl ⟨by rfl, ?_⟩) hS ?_
      rotate_left
      · rintro W' ⟨s0, s1, s2, s3⟩; go_simp; try with_reducible rfl
      simp only [Act.put, List.setIfInBounds_toArray, List.set_cons_zero, List.set_cons_succ]
      refine headY (v := ?_) (some 22) rfl rfl (Or.inl ⟨by rfl, ?_⟩) hS ?_
      rotate_left
      · rintro W' ⟨s0, s1, s2, s3⟩; go_simp; try with_reducible rfl
      simp only [Act.put, List.setIfInBounds_toArray, List.set_cons_zero, List.set_cons_succ]
      refine headY (v := ?_) (some 23) rfl rfl (Or.inl ⟨by rfl, ?_⟩) hS ?_
      rotate_left
      · rintro W' ⟨s0, s1, s2, s3⟩; go_simp; try with_reducible rfl
      simp only [Act.put, List.setIfInBounds_toArray, List.set_cons_zero, List.set_cons_succ]
      refine headY (v := ?_) (some 24) rfl rfl (Or.inl ⟨by rfl, ?_⟩) hS ?_
      rotate_left
      · rintro W' ⟨s0, s1, s2, s3⟩; go_simp; try with_reducible rfl
      simp only [Act.put, List.setIfInBounds_toArray, List.set_cons_zero, List.set_cons_succ]
      refine headY (v := ?_) (some 25) rfl rfl (Or.inl ⟨by rfl, ?_⟩) hS ?_
      rotate_left
      · rintro W' ⟨s0, s1, s2, s3⟩; go_simp; try with_reducible rfl
      simp only [Act.put, List.setIfInBounds_toArray, List.set_cons_zero, List.set_cons_succ]
      refine headY (v := ?_) (some 26) rfl rfl (Or.inl ⟨by rfl, ?_⟩) hS ?_
      rotate_left
      · rintro W' ⟨s0, s1, s2, s3⟩; go_simp; try with_reducible rfl
      simp only [Act.put, List.setIfInBounds_toArray, List.set_cons_zero, List.set_cons_succ]
      refine headY (v := ?_) (some 27) rfl rfl (Or.inl ⟨by rfl, ?_⟩) hS ?_
      rotate_left
      · rintro W' ⟨s0, s1, s2, s3⟩; go_simp; try with_reducible rfl
      simp only [Act.put, List.setIfInBounds_toArray, List.set_cons_zero, List.set_cons_succ]
      refine headY (v := ?_) (some 28) rfl rfl (Or.inl ⟨by rfl, ?_⟩) hS ?_
      rotate_left
      · rintro W' ⟨s0, s1, s2, s3⟩; go_simp; try with_reducible rfl
      simp only [Act.put, List.setIfInBounds_toArray, List.set_cons_zero, List.set_cons_succ]
      refine headY (v := ?_) (some 29) rfl rfl (Or.inl ⟨by rfl, ?_⟩) hS ?_
      rotate_left
      · rintro W' ⟨s0, s1, s2, s3⟩; go_simp; try with_reducible rfl
      simp only [Act.put, List.setIfInBounds_toArray, List.set_cons_zero, List.set_cons_succ]
      refine headY (v := ?_) (some 30) rfl rfl (Or.inl ⟨by rfl, ?_⟩) hS ?_
      rotate_left
      · rintro W' ⟨s0, s1, s2, s3⟩; go_simp; try with_reducible rfl
      simp only [Act.put, List.setIfInBounds_toArray, List.set_cons_zero, List.set_cons_succ]
      refine headC rfl (fun KK hK => ?_)
      go_simp
      refine hval.out.mono ?_
      rintro e w5 ⟨rfl, rfl⟩
      refine hK _ _ hS ?_
      clear hK KK
      refine headY (v := ?_) (some 32) rfl rfl (Or.inl ⟨by rfl, ?_⟩) hS ?_
      rotate_left
      · rintro W' ⟨s0, s1, s2, s3⟩; go_simp; try with_reducible rfl
      simp only [Act.put, List.setIfInBounds_toArray, List.set_cons_zero, List.set_cons_succ]
      refine headY (v := ?_) (some 33) rfl rfl (Or.inl ⟨by rfl, ?_⟩) hS ?_
      rotate_left
      · rintro W' ⟨s0, s1, s2, s3⟩; go_simp; try with_reducible rfl
      simp only [Act.put, List.setIfInBounds_toArray, List.set_cons_zero, List.set_cons_succ]
      refine headC rfl (fun KK hK => ?_)
      go_simp
      refine hK _ _ hS1 ?_
      clear hK KK
      refine headC rfl (fun KK hK => ?_)
      refine step_appI rfl _ _ rfl W0.heap.size ow (.slice (some ⟨W.heap.size, 0, none⟩) 1 1) _ [y] rfl rfl hOl.out hlit.out.at (by rw [hol.out]; simp; omega) hBl ?_
      intro v9 w9 ho9 b9
      rw [← htk.out] at ho9
      have b99 := (hBW.trans (bl.mono sW)).trans b9
      obtain ⟨v9a, v9b, v9c, rfl⟩ := ho9.at.shape
      replace ho9 := Lib.hid ho9
      have hS9 : w9.cell? ⟨w.heap.size, 0, none⟩ = some (.int .i64 K) ∧ w9.cell? ⟨w.heap.size, 1, none⟩ = some (.int .i64 R) ∧ w9.cell? ⟨w.heap.size, 2, none⟩ = some (.slice va vn vc) ∧ w9.cell? ta = some (.int .i64 y) := by
        obtain ⟨⟨y0, y1, y2⟩, -, -, -⟩ := q.below b99
        exact ⟨y0, y1, y2, (b9.cell hta0).trans hS1.2.2.2⟩
      refine hK _ _ hS9 ?_
      clear hK KK
      refine head0 ?_
      simp only [List.drop_succ_cons, List.drop_zero]
      clear hS hS1 hS9
      go_wp2
      refine NoPanic.normal ?_
      go_wp2
      go_roundw
      case measure => simp [intOf]; omega
      case rel => exact ⟨i + 1, _, rfl, by go_num, by omega, ho9.out, b99⟩
    · have hke : i = x.length - 2 * R := by omega
      have hfin : (imgP K R T x).take i = imgP K R T x := List.take_of_length_le (by rw [imgP_length]; omega)
      rw [hfin] at hO
      have d1 : decide ((i : Int) + 2 * (R : Int) < (x.length : Int)) = false := decide_eq_false (by omega)
      replace hO := Lib.hid hO
      replace hfin := Lib.hid hfin
      replace hke := Lib.hid hke
      obtain ⟨oa, on, oc, hov⟩ := hO.out.at.shape
      subst hov
      go_wp2
      go_ret
      exact ⟨_, rfl, b0.trans (hB.mono s0), hO.out.mono s0⟩
end Go.Proofs.YtmhiambkfdkkbaaGreatDoor

namespace Go.Proofs.YtmhiambkfdkkbaaGreatDoor
open Go.RowKit
set_option maxRecDepth 100000

set_option maxHeartbeats 2000000 in
theorem ref15c_bad (k R : Int) (va : Option Addr) (vn vc : Nat) (T : List Int) (u v : Value) (t : Int × List (ByteArray × Int)) (w : World) (h : IntsAt w (.slice va vn vc) T) (hc : smallP k R T = some t) :
    Calls Tryz.prog 15 #[.agg #[.int .i64 k, .int .i64 R, .slice va vn vc], u, v] w (Ret1 (fun x w' => EOwn w.heap.size w' (under sTwins 0 (some t)) x) w) := by
  have b0 := Below.step (belowAlloc w (.cells #[.int .i64 k, .int .i64 R, .slice va vn vc] 24)) (belowAlloc _ (.cells #[.int .i64 0, .slice none 0 0, .slice none 0 0] 34))
  have q4 : Box3 ((w.alloc (.cells #[.int .i64 k, .int .i64 R, .slice va vn vc] 24)).alloc (.cells #[.int .i64 0, .slice none 0 0, .slice none 0 0] 34)) (w.heap.size + 1) (.int .i64 0) (.slice none 0 0) (.slice none 0 0) := by simp [Box3, go_sem]
  have s0 : ((w.alloc (.cells #[.int .i64 k, .int .i64 R, .slice va vn vc] 24)).alloc (.cells #[.int .i64 0, .slice none 0 0, .slice none 0 0] 34)).heap.size = w.heap.size + 2 := by simp
  replace h := Lib.hid (h.below b0)
  replace hc := Lib.hid hc
  replace s0 := Lib.hid s0
  go_enter Tryz.func15, Tryz.ntmps15
  go_wp2_with fail
  refine (ref08_fault _ k R va vn vc T _ h.out).mono ?_
  rintro e w1 ⟨x, rfl, b1, he⟩
  rw [hc.out] at he
  obtain ⟨n, l⟩ := t
  have hn := smallP_num hc.out
  have he' := he
  obtain ⟨a1, n1, c1, a2, n2, c2, rfl, _, _⟩ := he'
  obtain ⟨be, ⟨⟨y0, y1, y2⟩, -, -, -⟩⟩ := err_box8 w1 (.int .i64 n) (.slice a1 n1 c1) (.slice a2 n2 c2)
  have c1e := Below.step b1 be
  have hs1 := b1.size
  rw [s0.out] at hs1
  have hn0 : (n != 0) = true := by rw [bne_iff_ne]; omega
  have heb := he.below be
  obtain ⟨W2, hW2⟩ : ∃ W2 : World, w1.alloc (.cells #[.int .i64 n, .slice a1 n1 c1, .slice a2 n2 c2] 34) = W2 := ⟨_, rfl⟩
  rw [hW2] at be c1e heb y0 y1 y2
  replace hW2 := Lib.hid hW2
  replace he := Lib.hid he
  replace heb := Lib.hid heb
  go_upto_region 2 with fail
  rw [hW2.out]
  go_wp2_with fail
  refine (err_bad _ _ _ _ _ _ _ W2).mono ?_
  rintro e w3 ⟨_, rfl, b3, rfl⟩
  rw [hn0]
  have hey := heb.out.below b3
  have c3 := Below.step c1e b3
  obtain ⟨⟨u0, u1, u2⟩, f0, f1, f2⟩ := q4.below c3
  replace y0 := (b3.cell (World.block_lt_of_cell? _ _ y0)).trans y0
  replace y1 := (b3.cell (World.block_lt_of_cell? _ _ y1)).trans y1
  replace y2 := (b3.cell (World.block_lt_of_cell? _ _ y2)).trans y2
  replace hey := Lib.hid hey
  go_wp2
  refine bodyPost_ret (v := .agg #[.int .i64 n, .slice a1 n1 c1, .slice a2 n2 c2]) (by simp [results, Tryz.results15, go_sem, u0, u1, u2]) rfl ⟨_, rfl, below_set3 (Below.step b0 c3) (by omega) _ _ _, ?_⟩
  have := s0.out
  exact (hey.out.set3 (by omega) _ _ _).mono (by omega)

set_option maxHeartbeats 8000000 in
theorem ref15c_ok (K R : Nat) (va : Option Addr) (vn vc : Nat) (T : List Int) (u : Value) (a : List Int) (v : Value) (b : List Int) (w : World) (h : IntsAt w (.slice va vn vc) T) (hr : RuleOk K R T) (hl : T.length ≤ 256) (hu : IntsAt w u a) (hv : IntsAt w v b) :
    Calls Tryz.prog 15 #[.agg #[.int .i64 K, .int .i64 R, .slice va vn vc], u, v] w (Ret1 (fun x w' => EOwn w.heap.size w' (twinsP sTwins K R (imgP K R T) a b) x) w) := by
  have bA := Below.step (belowAlloc w (.cells #[.int .i64 K, .int .i64 R, .slice va vn vc] 24)) (belowAlloc _ (.cells #[.int .i64 0, .slice none 0 0, .slice none 0 0] 34))
  have qA : Box3 ((w.alloc (.cells #[.int .i64 K, .int .i64 R, .slice va vn vc] 24)).alloc (.cells #[.int .i64 0, .slice none 0 0, .slice none 0 0] 34)) w.heap.size (.int .i64 K) (.int .i64 R) (.slice va vn vc) := by simp [Box3, go_sem]
  have q4A : Box3 ((w.alloc (.cells #[.int .i64 K, .int .i64 R, .slice va vn vc] 24)).alloc (.cells #[.int .i64 0, .slice none 0 0, .slice none 0 0] 34)) (w.heap.size + 1) (.int .i64 0) (.slice none 0 0) (.slice none 0 0) := by simp [Box3, go_sem]
  have sA0 : ((w.alloc (.cells #[.int .i64 K, .int .i64 R, .slice va vn vc] 24)).alloc (.cells #[.int .i64 0, .slice none 0 0, .slice none 0 0] 34)).heap.size = w.heap.size + 2 := by simp
  have lA := hu.len
  have lB := hv.len
  have mA := hu.len_le
  have mB := hv.len_le
  have hR3 := hr.r3
  obtain ⟨ua, un, uc, rfl⟩ := hu.shape
  obtain ⟨wa, wn, wc, rfl⟩ := hv.shape
  have hsm : smallP K R T = none := by rw [smallP_ok hr, if_neg (by omega)]
  obtain ⟨WA, hWA⟩ : ∃ W : World, ((w.alloc (.cells #[.int .i64 K, .int .i64 R, .slice va vn vc] 24)).alloc (.cells #[.int .i64 0, .slice none 0 0, .slice none 0 0] 34)) = W := ⟨_, rfl⟩
  replace h := h.below bA
  replace hu := hu.below bA
  replace hv := hv.below bA
  rw [hWA] at h hu hv bA qA q4A sA0
  obtain ⟨e0, he0⟩ : ∃ e0, twinsP sTwins K R (imgP K R T) a b = e0 := ⟨_, rfl⟩
  rw [he0]
  unfold twinsP at he0
  replace h := Lib.hid h
  replace hu := Lib.hid hu
  replace hv := Lib.hid hv
  replace hr := Lib.hid hr
  replace hsm := Lib.hid hsm
  replace hl := Lib.hid hl
  replace he0 := Lib.hid he0
  replace hWA := Lib.hid hWA
  replace sA0 := Lib.hid sA0
  have qA0 := qA
  obtain ⟨⟨z0, z1, z2⟩, -, -, -⟩ := qA0
  go_enter Tryz.func15, Tryz.ntmps15
  go_upto_region 1 with fail
  rw [hWA.out]
  go_wp2_with fail
  refine (ref08_fault _ K R va vn vc T WA h.out).mono ?_
  rintro e w1 ⟨x, rfl, b1, he⟩
  rw [hsm.out] at he
  obtain rfl : x = .agg #[.int .i64 0, .slice none 0 0, .slice none 0 0] := he
  obtain ⟨be, ⟨⟨y0, y1, y2⟩, -, -, -⟩⟩ := err_box8 w1 (.int .i64 0) (.slice none 0 0) (.slice none 0 0)
  have c1e := Below.step b1 be
  obtain ⟨W2, hW2⟩ : ∃ W2 : World, w1.alloc (.cells #[.int .i64 0, .slice none 0 0, .slice none 0 0] 34) = W2 := ⟨_, rfl⟩
  rw [hW2] at be c1e y0 y1 y2
  replace hW2 := Lib.hid hW2
  clear z0 z1 z2
  go_upto_region 2 with fail
  rw [hW2.out]
  go_wp2_with fail
  refine (err_bad _ _ _ _ _ _ _ W2).mono ?_
  rintro e W0 ⟨_, rfl, b3, rfl⟩
  rw [show ((0 : Int) != 0) = false from rfl]
  have cA := Below.step c1e b3
  have b0 := Below.step bA cA
  have q := qA.below cA
  have q4 := q4A.below cA
  have s0 := cA.size
  rw [sA0.out] at s0
  replace h := Lib.hid (h.out.below cA)
  replace hu := Lib.hid (hu.out.below cA)
  replace hv := Lib.hid (hv.out.below cA)
  clear y0 y1 y2 qA q4A
  have q0 := q
  obtain ⟨⟨z0, z1, z2⟩, -, -, -⟩ := q0
  by_cases hA : 16384 < a.length
  · have d1 : decide ((16384 : Int) < (a.length : Int)) = true := decide_eq_true (by omega)
    have he := he0.out
    rw [if_pos (.inl hA)] at he
    replace he := Lib.hid he
    go_wp2_with fail
    refine (raw_new _ 1 4 W0).mono ?_
    rintro e w9 ⟨y, rfl, b9, hy⟩
    obtain ⟨q9, a9, n9, c9, a8, n8, c8, rfl⟩ := hy.shape
    obtain ⟨⟨v0, v1, v2⟩, g0, g1, g2⟩ := q4.below (Below.step (Below.refl W0.heap.size W0) b9)
    have sW := ((Below.refl W0.heap.size W0)).size
    replace hy := Lib.hid hy
    clear z0 z1 z2
    go_wp2
    refine bodyPost_ret (v := .agg #[.int .i64 q9, .slice a9 n9 c9, .slice a8 n8 c8]) (by simp [results, Tryz.results15, go_sem, v0, v1, v2]) rfl ⟨_, rfl, below_set3 (Below.step b0 b9) (by omega) _ _ _, ?_⟩
    rw [← he.out]
    exact (hy.out.set3 (by omega) _ _ _).mono (by omega)
  by_cases hB : 16384 < b.length
  · have d1 : decide ((16384 : Int) < (a.length : Int)) = false := decide_eq_false (by omega)
    have d2 : decide ((16384 : Int) < (b.length : Int)) = true := decide_eq_true (by omega)
    have he := he0.out
    rw [if_pos (.inr hB)] at he
    replace he := Lib.hid he
    go_wp2_with fail
    refine (raw_new _ 1 4 W0).mono ?_
    rintro e w9 ⟨y, rfl, b9, hy⟩
    obtain ⟨q9, a9, n9, c9, a8, n8, c8, rfl⟩ := hy.shape
    obtain ⟨⟨v0, v1, v2⟩, g0, g1, g2⟩ := q4.below (Below.step (Below.refl W0.heap.size W0) b9)
    have sW := ((Below.refl W0.heap.size W0)).size
    replace hy := Lib.hid hy
    clear z0 z1 z2
    go_wp2
    refine bodyPost_ret (v := .agg #[.int .i64 q9, .slice a9 n9 c9, .slice a8 n8 c8]) (by simp [results, Tryz.results15, go_sem, v0, v1, v2]) rfl ⟨_, rfl, below_set3 (Below.step b0 b9) (by omega) _ _ _, ?_⟩
    rw [← he.out]
    exact (hy.out.set3 (by omega) _ _ _).mono (by omega)
  have he1 := he0.out
  rw [if_neg (by omega)] at he1
  replace he1 := Lib.hid he1
  clear he0
  have d1 : decide ((16384 : Int) < (a.length : Int)) = false := decide_eq_false (by omega)
  have d2 : decide ((16384 : Int) < (b.length : Int)) = false := decide_eq_false (by omega)
  go_wp2_with fail
  refine (ref_bad K _ a W0 hu.out).mono ?_
  rintro e w2 ⟨rfl, rfl⟩
  by_cases hi : 0 ≤ idxOf (odd1 K) a
  · have he := he1.out
    rw [if_pos hi] at he
    replace he := Lib.hid he
    generalize idxOf (odd1 K) a = i at *
    have d3 : decide ((0 : Int) ≤ i) = true := decide_eq_true hi
    go_wp2_with fail
    refine (raw_new _ i 2 W0).mono ?_
    rintro e w9 ⟨y, rfl, b9, hy⟩
    obtain ⟨q9, a9, n9, c9, a8, n8, c8, rfl⟩ := hy.shape
    obtain ⟨⟨v0, v1, v2⟩, g0, g1, g2⟩ := q4.below (Below.step (Below.refl W0.heap.size W0) b9)
    have sW := ((Below.refl W0.heap.size W0)).size
    replace hy := Lib.hid hy
    clear z0 z1 z2
    go_wp2
    refine bodyPost_ret (v := .agg #[.int .i64 q9, .slice a9 n9 c9, .slice a8 n8 c8]) (by simp [results, Tryz.results15, go_sem, v0, v1, v2]) rfl ⟨_, rfl, below_set3 (Below.step b0 b9) (by omega) _ _ _, ?_⟩
    rw [← he.out]
    exact (hy.out.set3 (by omega) _ _ _).mono (by omega)
  have he2 := he1.out
  rw [if_neg hi] at he2
  have sA := idxOf_syms.1 hi
  have eA := sA.odd
  rw [eA]
  replace sA := Lib.hid sA
  replace eA := Lib.hid eA
  replace he2 := Lib.hid he2
  clear he1 hi
  go_wp2_with fail
  refine (ref_bad K _ b W0 hv.out).mono ?_
  rintro e w2 ⟨rfl, rfl⟩
  by_cases hi : 0 ≤ idxOf (odd1 K) b
  · have he := he2.out
    rw [if_pos hi] at he
    replace he := Lib.hid he
    have hib : idxOf (odd1 K) b < b.length := by
      rcases idxOf_cases (odd1 K) b with ⟨k1, _⟩ | ⟨k, k1, k2, _⟩ <;> omega
    generalize idxOf (odd1 K) b = i at *
    have d3 : decide ((0 : Int) ≤ i) = true := decide_eq_true hi
    go_wp2_with fail
    refine (raw_new _ ((a.length : Int) + i) 2 W0).mono ?_
    rintro e w9 ⟨y, rfl, b9, hy⟩
    obtain ⟨q9, a9, n9, c9, a8, n8, c8, rfl⟩ := hy.shape
    obtain ⟨⟨v0, v1, v2⟩, g0, g1, g2⟩ := q4.below (Below.step (Below.refl W0.heap.size W0) b9)
    have sW := ((Below.refl W0.heap.size W0)).size
    replace hy := Lib.hid hy
    clear z0 z1 z2
    go_wp2
    refine bodyPost_ret (v := .agg #[.int .i64 q9, .slice a9 n9 c9, .slice a8 n8 c8]) (by simp [results, Tryz.results15, go_sem, v0, v1, v2]) rfl ⟨_, rfl, below_set3 (Below.step b0 b9) (by omega) _ _ _, ?_⟩
    rw [← he.out]
    exact (hy.out.set3 (by omega) _ _ _).mono (by omega)
  have he3 := he2.out
  rw [if_neg hi] at he3
  have sB := idxOf_syms.1 hi
  have eB := sB.odd
  rw [eB]
  replace sB := Lib.hid sB
  replace eB := Lib.hid eB
  replace he3 := Lib.hid he3
  clear he2 hi
  by_cases hlen : a.length = b.length
  case neg =>
    have d3 : ((a.length : Int) != (b.length : Int)) = true := by simp; omega
    have he := he3.out
    rw [if_pos (.inl hlen)] at he
    replace he := Lib.hid he
    clear hlen
    go_wp2_with fail
    refine (raw_new _ 1 3 W0).mono ?_
    rintro e w9 ⟨y, rfl, b9, hy⟩
    obtain ⟨q9, a9, n9, c9, a8, n8, c8, rfl⟩ := hy.shape
    obtain ⟨⟨v0, v1, v2⟩, g0, g1, g2⟩ := q4.below (Below.step (Below.refl W0.heap.size W0) b9)
    have sW := ((Below.refl W0.heap.size W0)).size
    replace hy := Lib.hid hy
    clear z0 z1 z2
    go_wp2
    refine bodyPost_ret (v := .agg #[.int .i64 q9, .slice a9 n9 c9, .slice a8 n8 c8]) (by simp [results, Tryz.results15, go_sem, v0, v1, v2]) rfl ⟨_, rfl, below_set3 (Below.step b0 b9) (by omega) _ _ _, ?_⟩
    rw [← he.out]
    exact (hy.out.set3 (by omega) _ _ _).mono (by omega)
  have d3 : ((a.length : Int) != (b.length : Int)) = false := by simp; omega
  replace hlen := Lib.hid hlen
  have heqc := ints_any (.slice ua un uc) (.slice wa wn wc) a b W0 hu.out hv.out
  replace heqc := Lib.hid heqc
  go_wp2_with fail
  refine heqc.out.mono ?_
  rintro e w4 ⟨n4, rfl, rfl⟩
  have c4 := below_drewN (Below.refl W0.heap.size W0) n4
  have b04 := below_drewN b0 n4
  clear z0 z1 z2
  obtain ⟨⟨z0, z1, z2⟩, -, -, -⟩ := q.below c4
  by_cases hab : a = b
  · have he := he3.out
    rw [if_pos (.inr hab)] at he
    have d4 : decide (a = b) = true := decide_eq_true hab
    rw [d4]
    replace he := Lib.hid he
    replace hab := Lib.hid hab
    clear d4 heqc
    go_wp2_with fail
    refine (raw_new _ 1 3 (W0.drewN n4)).mono ?_
    rintro e w9 ⟨y, rfl, b9, hy⟩
    obtain ⟨q9, a9, n9, c9, a8, n8, c8, rfl⟩ := hy.shape
    obtain ⟨⟨v0, v1, v2⟩, g0, g1, g2⟩ := q4.below (Below.step c4 b9)
    have sW := (c4).size
    replace hy := Lib.hid hy
    clear z0 z1 z2
    go_wp2
    refine bodyPost_ret (v := .agg #[.int .i64 q9, .slice a9 n9 c9, .slice a8 n8 c8]) (by simp [results, Tryz.results15, go_sem, v0, v1, v2]) rfl ⟨_, rfl, below_set3 (Below.step b04 b9) (by omega) _ _ _, ?_⟩
    rw [← he.out]
    exact (hy.out.set3 (by omega) _ _ _).mono (by omega)
  have he4 := he3.out
  rw [if_neg (fun q => q.elim (fun q => q hlen.out) hab)] at he4
  have d4 : decide (a = b) = false := decide_eq_false hab
  rw [d4]
  replace he4 := Lib.hid he4
  replace hab := Lib.hid hab
  clear d4 heqc he3
  obtain ⟨w5, hw5⟩ : ∃ W : World, W0.drewN n4 = W := ⟨_, rfl⟩
  rw [hw5] at c4 b04 z0 z1 z2 ⊢
  clear hw5
  obtain ⟨W5, hW5⟩ : ∃ W : World, w5.drew = W := ⟨_, rfl⟩
  have c5 : Below W0.heap.size W0 W5 := by rw [← hW5]; exact c4.drew
  have b05 : Below w.heap.size w W5 := by rw [← hW5]; exact b04.drew
  replace hW5 := Lib.hid hW5
  have hS : True := trivial
  by_cases hlow : a.length < 2 * R
  · have d5 : decide ((a.length : Int) < 2 * (R : Int)) = true := decide_eq_true (by omega)
    have he := he4.out
    rw [if_pos (.inl hlow)] at he
    replace he := Lib.hid he
    go_upto_region 15 with fail
    refine wp_region_plan (fun _ => True) 29 [(0, true), (1, true), (2, true), (3, true), (4, true), (5, true), (6, true), (7, true), (8, true), (9, true), (10, true), (11, false), (12, true), (13, true), (14, true), (15, true), (16, true), (17, true), (18, true), (19, true), (20, true), (21, true), (22, true), (23, true), (24, true), (25, true), (26, true), (27, false), (28, true)] (by kernel_rfl) (by kernel_rfl) ?_
    rw [hW5.out]
    refine headY (v := ?_) (some 57) rfl rfl (Or.inl ⟨by rfl, ?_⟩) hS ?_
    rotate_left
    · rintro W' _; go_simp; try with_reducible rfl
    simp only [Act.put, List.setIfInBounds_toArray, List.set_cons_zero, List.set_cons_succ]
    refine headY (v := ?_) (some 58) rfl rfl (Or.inl ⟨by rfl, ?_⟩) hS ?_
    rotate_left
    · rintro W' _; go_simp; try with_reducible rfl
    simp only [Act.put, List.setIfInBounds_toArray, List.set_cons_zero, List.set_cons_succ]
    refine headY (v := ?_) (some 59) rfl rfl (Or.inl ⟨by rfl, ?_⟩) hS ?_
    rotate_left
    · rintro W' _; go_simp; try with_reducible rfl
    simp only [Act.put, List.setIfInBounds_toArray, List.set_cons_zero, List.set_cons_succ]
    refine headY (v := ?_) (some 60) rfl rfl (Or.inl ⟨by rfl, ?_⟩) hS ?_
    rotate_left
    · rintro W' _; go_simp; try with_reducible rfl
    simp only [Act.put, List.setIfInBounds_toArray, List.set_cons_zero, List.set_cons_succ]
    refine headY (v := ?_) (some 61) rfl rfl (Or.inl ⟨by rfl, ?_⟩) hS ?_
    rotate_left
    · rintro W' _; go_simp; try with_reducible rfl
    simp only [Act.put, List.setIfInBounds_toArray, List.set_cons_zero, List.set_cons_succ]
    refine headY (v := undef) (some 62) rfl rfl (Or.inr ⟨by rfl, rfl⟩) hS ?_
    simp only [Act.put, List.setIfInBounds_toArray, List.set_cons_zero, List.set_cons_succ]
    refine headY (v := undef) (some 63) rfl rfl (Or.inr ⟨by rfl, rfl⟩) hS ?_
    simp only [Act.put, List.setIfInBounds_toArray, List.set_cons_zero, List.set_cons_succ]
    refine headY (v := undef) (some 64) rfl rfl (Or.inr ⟨by rfl, rfl⟩) hS ?_
    simp only [Act.put, List.setIfInBounds_toArray, List.set_cons_zero, List.set_cons_succ]
    refine headY (v := undef) (some 65) rfl rfl (Or.inr ⟨by rfl, rfl⟩) hS ?_
    simp only [Act.put, List.setIfInBounds_toArray, List.set_cons_zero, List.set_cons_succ]
    refine headY (v := undef) (some 66) rfl rfl (Or.inr ⟨by rfl, rfl⟩) hS ?_
    simp only [Act.put, List.setIfInBounds_toArray, List.set_cons_zero, List.set_cons_succ]
    refine headY (v := undef) (some 67) rfl rfl (Or.inr ⟨by rfl, rfl⟩) hS ?_
    simp only [Act.put, List.setIfInBounds_toArray, List.set_cons_zero, List.set_cons_succ]
    refine headC rfl (fun KK hK => ?_)
    go_simp
    refine hK _ _ hS ?_
    clear hK KK
    refine headY (v := undef) (some 69) rfl rfl (Or.inr ⟨by rfl, rfl⟩) hS ?_
    simp only [Act.put, List.setIfInBounds_toArray, List.set_cons_zero, List.set_cons_succ]
    refine headY (v := ?_) (some 70) rfl rfl (Or.inl ⟨by rfl, ?_⟩) hS ?_
    rotate_left
    · rintro W' _; go_simp; try with_reducible rfl
    simp only [Act.put, List.setIfInBounds_toArray, List.set_cons_zero, List.set_cons_succ]
    refine headY (v := ?_) (some 71) rfl rfl (Or.inl ⟨by rfl, ?_⟩) hS ?_
    rotate_left
    · rintro W' _; go_simp; try with_reducible rfl
    simp only [Act.put, List.setIfInBounds_toArray, List.set_cons_zero, List.set_cons_succ]
    refine headY (v := undef) (some 72) rfl rfl (Or.inr ⟨by rfl, rfl⟩) hS ?_
    simp only [Act.put, List.setIfInBounds_toArray, List.set_cons_zero, List.set_cons_succ]
    refine headY (v := undef) (some 73) rfl rfl (Or.inr ⟨by rfl, rfl⟩) hS ?_
    simp only [Act.put, List.setIfInBounds_toArray, List.set_cons_zero, List.set_cons_succ]
    refine headY (v := undef) (some 74) rfl rfl (Or.inr ⟨by rfl, rfl⟩) hS ?_
    simp only [Act.put, List.setIfInBounds_toArray, List.set_cons_zero, List.set_cons_succ]
    refine headY (v := undef) (some 75) rfl rfl (Or.inr ⟨by rfl, rfl⟩) hS ?_
    simp only [Act.put, List.setIfInBounds_toArray, List.set_cons_zero, List.set_cons_succ]
    refine headY (v := undef) (some 76) rfl rfl (Or.inr ⟨by rfl, rfl⟩) hS ?_
    simp only [Act.put, List.setIfInBounds_toArray, List.set_cons_zero, List.set_cons_succ]
    refine headY (v := undef) (some 77) rfl rfl (Or.inr ⟨by rfl, rfl⟩) hS ?_
    simp only [Act.put, List.setIfInBounds_toArray, List.set_cons_zero, List.set_cons_succ]
    refine headY (v := undef) (some 78) rfl rfl (Or.inr ⟨by rfl, rfl⟩) hS ?_
    simp only [Act.put, List.setIfInBounds_toArray, List.set_cons_zero, List.set_cons_succ]
    refine headY (v := undef) (some 79) rfl rfl (Or.inr ⟨by rfl, rfl⟩) hS ?_
    simp only [Act.put, List.setIfInBounds_toArray, List.set_cons_zero, List.set_cons_succ]
    refine headY (v := undef) (some 80) rfl rfl (Or.inr ⟨by rfl, rfl⟩) hS ?_
    simp only [Act.put, List.setIfInBounds_toArray, List.set_cons_zero, List.set_cons_succ]
    refine headY (v := undef) (some 81) rfl rfl (Or.inr ⟨by rfl, rfl⟩) hS ?_
    simp only [Act.put, List.setIfInBounds_toArray, List.set_cons_zero, List.set_cons_succ]
    refine headY (v := undef) (some 82) rfl rfl (Or.inr ⟨by rfl, rfl⟩) hS ?_
    simp only [Act.put, List.setIfInBounds_toArray, List.set_cons_zero, List.set_cons_succ]
    refine headY (v := undef) (some 83) rfl rfl (Or.inr ⟨by rfl, rfl⟩) hS ?_
    simp only [Act.put, List.setIfInBounds_toArray, List.set_cons_zero, List.set_cons_succ]
    refine headC rfl (fun KK hK => ?_)
    go_simp
    refine hK _ _ hS ?_
    clear hK KK
    refine headY (v := undef) (some 85) rfl rfl (Or.inr ⟨by rfl, rfl⟩) hS ?_
    simp only [Act.put, List.setIfInBounds_toArray, List.set_cons_zero, List.set_cons_succ]
    refine head0 ?_
    simp only [List.drop_succ_cons, List.drop_zero]
    clear z0 z1 z2
    obtain ⟨⟨z0, z1, z2⟩, -, -, -⟩ := q.below c5
    go_wp2
    refine NoPanic.normal ?_
    go_wp2_with fail
    refine (raw_new _ 2 3 W5).mono ?_
    rintro e w9 ⟨y, rfl, b9, hy⟩
    obtain ⟨q9, a9, n9, c9, a8, n8, c8, rfl⟩ := hy.shape
    obtain ⟨⟨v0, v1, v2⟩, g0, g1, g2⟩ := q4.below (Below.step c5 b9)
    have sW := (c5).size
    replace hy := Lib.hid hy
    clear z0 z1 z2
    go_wp2
    refine bodyPost_ret (v := .agg #[.int .i64 q9, .slice a9 n9 c9, .slice a8 n8 c8]) (by simp [results, Tryz.results15, go_sem, v0, v1, v2]) rfl ⟨_, rfl, below_set3 (Below.step b05 b9) (by omega) _ _ _, ?_⟩
    rw [← he.out]
    exact (hy.out.set3 (by omega) _ _ _).mono (by omega)
  have d5 : decide ((a.length : Int) < 2 * (R : Int)) = false := decide_eq_false (by omega)
  obtain ⟨fa, hfa, hFA⟩ := (hu.out.below c5).front (2 * R) (by omega)
  obtain ⟨fb, hfb, hFB⟩ := (hv.out.below c5).front (2 * R) (by have := hlen.out; omega)
  have hsa : ∀ w', (Instr.slice 22 (.slice ua un uc) none (some (.int .i64 (2 * (R : Int)))) none).run Tryz.prog w' = .ok fa w' := by
    intro w'; have := hfa w'; rwa [show (((2 * R : Nat) : Nat) : Int) = 2 * (R : Int) by omega] at this
  have hsb : ∀ w', (Instr.slice 22 (.slice wa wn wc) none (some (.int .i64 (2 * (R : Int)))) none).run Tryz.prog w' = .ok fb w' := by
    intro w'; have := hfb w'; rwa [show (((2 * R : Nat) : Nat) : Int) = 2 * (R : Int) by omega] at this
  obtain ⟨ga, hga, hGA⟩ := (hu.out.below c5).post (a.length - 2 * R) (by omega)
  obtain ⟨gb, hgb, hGB⟩ := (hv.out.below c5).post (b.length - 2 * R) (by omega)
  have hta : ∀ w', (Instr.slice 22 (.slice ua un uc) (some (.int .i64 ((a.length : Int) - 2 * (R : Int)))) none none).run Tryz.prog w' = .ok ga w' := by
    intro w'; have := hga w'; rwa [show (((a.length - 2 * R : Nat) : Nat) : Int) = (a.length : Int) - 2 * (R : Int) by omega] at this
  have htb : ∀ w', (Instr.slice 22 (.slice wa wn wc) (some (.int .i64 ((b.length : Int) - 2 * (R : Int)))) none none).run Tryz.prog w' = .ok gb w' := by
    intro w'; have := hgb w'; rwa [show (((b.length - 2 * R : Nat) : Nat) : Int) = (b.length : Int) - 2 * (R : Int) by have := hlen.out; omega] at this
  obtain ⟨fa1, fa2, fa3, rfl⟩ := hFA.shape
  obtain ⟨fb1, fb2, fb3, rfl⟩ := hFB.shape
  obtain ⟨ga1, ga2, ga3, rfl⟩ := hGA.shape
  obtain ⟨gb1, gb2, gb3, rfl⟩ := hGB.shape
  clear hfa hfb hga hgb
  have hwa : IntKind.i64.wrap ((a.length : Int) - 2 * (R : Int)) = (a.length : Int) - 2 * (R : Int) := wrapK (by omega) (by omega)
  have hwb : IntKind.i64.wrap ((b.length : Int) - 2 * (R : Int)) = (b.length : Int) - 2 * (R : Int) := wrapK (by omega) (by omega)
  have hq1 := ints_any _ _ _ _ W5 hFA hFB
  replace hq1 := Lib.hid hq1
  replace hFA := Lib.hid hFA
  replace hFB := Lib.hid hFB
  replace hGA := Lib.hid hGA
  replace hGB := Lib.hid hGB
  go_upto_region 15 with fail
  refine wp_region_plan (fun _ => True) 29 [(0, true), (1, true), (2, true), (3, true), (4, true), (5, true), (6, true), (7, true), (8, true), (9, true), (10, true), (11, false), (12, true), (13, true), (14, true), (15, true), (16, true), (17, true), (18, true), (19, true), (20, true), (21, true), (22, true), (23, true), (24, true), (25, true), (26, true), (27, false), (28, true)] (by kernel_rfl) (by kernel_rfl) ?_
  rw [hW5.out]
  refine headY (v := ?_) (some 57) rfl rfl (Or.inl ⟨by rfl, ?_⟩) hS ?_
  rotate_left
  · rintro W' _; go_simp; try with_reducible rfl
  simp only [Act.put, List.setIfInBounds_toArray, List.set_cons_zero, List.set_cons_succ]
  refine headY (v := ?_) (some 58) rfl rfl (Or.inl ⟨by rfl, ?_⟩) hS ?_
  rotate_left
  · rintro W' _; go_simp; try with_reducible rfl
  simp only [Act.put, List.setIfInBounds_toArray, List.set_cons_zero, List.set_cons_succ]
  refine headY (v := ?_) (some 59) rfl rfl (Or.inl ⟨by rfl, ?_⟩) hS ?_
  rotate_left
  · rintro W' _; go_simp; try with_reducible rfl
  simp only [Act.put, List.setIfInBounds_toArray, List.set_cons_zero, List.set_cons_succ]
  refine headY (v := ?_) (some 60) rfl rfl (Or.inl ⟨by rfl, ?_⟩) hS ?_
  rotate_left
  · rintro W' _; go_simp; try with_reducible rfl
  simp only [Act.put, List.setIfInBounds_toArray, List.set_cons_zero, List.set_cons_succ]
  refine headY (v := ?_) (some 61) rfl rfl (Or.inl ⟨by rfl, ?_⟩) hS ?_
  rotate_left
  · rintro W' _; go_simp; try with_reducible rfl
  simp only [Act.put, List.setIfInBounds_toArray, List.set_cons_zero, List.set_cons_succ]
  refine headY (v := ?_) (some 62) rfl rfl (Or.inl ⟨by rfl, ?_⟩) hS ?_
  rotate_left
  · rintro W' _; go_simp; try with_reducible rfl
  simp only [Act.put, List.setIfInBounds_toArray, List.set_cons_zero, List.set_cons_succ]
  refine headY (v := ?_) (some 63) rfl rfl (Or.inl ⟨by rfl, ?_⟩) hS ?_
  rotate_left
  · rintro W' _; go_simp; try with_reducible rfl
  simp only [Act.put, List.setIfInBounds_toArray, List.set_cons_zero, List.set_cons_succ]
  refine headY (v := ?_) (some 64) rfl rfl (Or.inl ⟨by rfl, ?_⟩) hS ?_
  rotate_left
  · rintro W' _; go_simp; try with_reducible rfl
  simp only [Act.put, List.setIfInBounds_toArray, List.set_cons_zero, List.set_cons_succ]
  refine headY (v := ?_) (some 65) rfl rfl (Or.inl ⟨by rfl, ?_⟩) hS ?_
  rotate_left
  · rintro W' _; go_simp; try with_reducible rfl
  simp only [Act.put, List.setIfInBounds_toArray, List.set_cons_zero, List.set_cons_succ]
  refine headY (v := ?_) (some 66) rfl rfl (Or.inl ⟨by rfl, ?_⟩) hS ?_
  rotate_left
  · rintro W' _; go_simp; try with_reducible rfl
  simp only [Act.put, List.setIfInBounds_toArray, List.set_cons_zero, List.set_cons_succ]
  refine headY (v := ?_) (some 67) rfl rfl (Or.inl ⟨by rfl, ?_⟩) hS ?_
  rotate_left
  · rintro W' _; go_simp; try with_reducible rfl
  simp only [Act.put, List.setIfInBounds_toArray, List.set_cons_zero, List.set_cons_succ]
  refine headC rfl (fun KK hK => ?_)
  go_simp
  refine hq1.out.mono ?_
  rintro e w6 ⟨n6, rfl, rfl⟩
  refine hK _ _ hS ?_
  clear hK KK hq1
  have c6 := below_drewN c5 n6
  have b06 := below_drewN b05 n6
  obtain ⟨W6, hW6⟩ : ∃ W : World, W5.drewN n6 = W := ⟨_, rfl⟩
  have hGA6 : IntsAt W6 (.slice ga1 ga2 ga3) (a.drop (a.length - 2 * R)) := by rw [← hW6]; exact hGA.out.drewN n6
  have hGB6 : IntsAt W6 (.slice gb1 gb2 gb3) (b.drop (b.length - 2 * R)) := by rw [← hW6]; exact hGB.out.drewN n6
  rw [hW6] at c6 b06 ⊢
  clear hW6
  by_cases hfr : a.take (2 * R) = b.take (2 * R)
  case neg =>
    have he := he4.out
    rw [if_pos (.inr (.inl hfr))] at he
    replace he := Lib.hid he
    rw [decide_eq_false hfr]
    clear hfr hGA6 hGB6
    refine headY (v := ?_) (some 69) rfl rfl (Or.inl ⟨by rfl, ?_⟩) hS ?_
    rotate_left
    · rintro W' _; go_simp; try with_reducible rfl
    simp only [Act.put, List.setIfInBounds_toArray, List.set_cons_zero, List.set_cons_succ]
    refine headY (v := ?_) (some 70) rfl rfl (Or.inl ⟨by rfl, ?_⟩) hS ?_
    rotate_left
    · rintro W' _; go_simp; try with_reducible rfl
    simp only [Act.put, List.setIfInBounds_toArray, List.set_cons_zero, List.set_cons_succ]
    refine headY (v := ?_) (some 71) rfl rfl (Or.inl ⟨by rfl, ?_⟩) hS ?_
    rotate_left
    · rintro W' _; go_simp; try with_reducible rfl
    simp only [Act.put, List.setIfInBounds_toArray, List.set_cons_zero, List.set_cons_succ]
    refine headY (v := undef) (some 72) rfl rfl (Or.inr ⟨by rfl, rfl⟩) hS ?_
    simp only [Act.put, List.setIfInBounds_toArray, List.set_cons_zero, List.set_cons_succ]
    refine headY (v := undef) (some 73) rfl rfl (Or.inr ⟨by rfl, rfl⟩) hS ?_
    simp only [Act.put, List.setIfInBounds_toArray, List.set_cons_zero, List.set_cons_succ]
    refine headY (v := undef) (some 74) rfl rfl (Or.inr ⟨by rfl, rfl⟩) hS ?_
    simp only [Act.put, List.setIfInBounds_toArray, List.set_cons_zero, List.set_cons_succ]
    refine headY (v := undef) (some 75) rfl rfl (Or.inr ⟨by rfl, rfl⟩) hS ?_
    simp only [Act.put, List.setIfInBounds_toArray, List.set_cons_zero, List.set_cons_succ]
    refine headY (v := undef) (some 76) rfl rfl (Or.inr ⟨by rfl, rfl⟩) hS ?_
    simp only [Act.put, List.setIfInBounds_toArray, List.set_cons_zero, List.set_cons_succ]
    refine headY (v := undef) (some 77) rfl rfl (Or.inr ⟨by rfl, rfl⟩) hS ?_
    simp only [Act.put, List.setIfInBounds_toArray, List.set_cons_zero, List.set_cons_succ]
    refine headY (v := undef) (some 78) rfl rfl (Or.inr ⟨by rfl, rfl⟩) hS ?_
    simp only [Act.put, List.setIfInBounds_toArray, List.set_cons_zero, List.set_cons_succ]
    refine headY (v := undef) (some 79) rfl rfl (Or.inr ⟨by rfl, rfl⟩) hS ?_
    simp only [Act.put, List.setIfInBounds_toArray, List.set_cons_zero, List.set_cons_succ]
    refine headY (v := undef) (some 80) rfl rfl (Or.inr ⟨by rfl, rfl⟩) hS ?_
    simp only [Act.put, List.setIfInBounds_toArray, List.set_cons_zero, List.set_cons_succ]
    refine headY (v := undef) (some 81) rfl rfl (Or.inr ⟨by rfl, rfl⟩) hS ?_
    simp only [Act.put, List.setIfInBounds_toArray, List.set_cons_zero, List.set_cons_succ]
    refine headY (v := undef) (some 82) rfl rfl (Or.inr ⟨by rfl, rfl⟩) hS ?_
    simp only [Act.put, List.setIfInBounds_toArray, List.set_cons_zero, List.set_cons_succ]
    refine headY (v := undef) (some 83) rfl rfl (Or.inr ⟨by rfl, rfl⟩) hS ?_
    simp only [Act.put, List.setIfInBounds_toArray, List.set_cons_zero, List.set_cons_succ]
    refine headC rfl (fun KK hK => ?_)
    go_simp
    refine hK _ _ hS ?_
    clear hK KK
    refine headY (v := undef) (some 85) rfl rfl (Or.inr ⟨by rfl, rfl⟩) hS ?_
    simp only [Act.put, List.setIfInBounds_toArray, List.set_cons_zero, List.set_cons_succ]
    refine head0 ?_
    simp only [List.drop_succ_cons, List.drop_zero]
    clear z0 z1 z2
    obtain ⟨⟨z0, z1, z2⟩, -, -, -⟩ := q.below c6
    go_wp2
    refine NoPanic.normal ?_
    go_wp2_with fail
    refine (raw_new _ 2 3 W6).mono ?_
    rintro e w9 ⟨y, rfl, b9, hy⟩
    obtain ⟨q9, a9, n9, c9, a8, n8, c8, rfl⟩ := hy.shape
    obtain ⟨⟨v0, v1, v2⟩, g0, g1, g2⟩ := q4.below (Below.step c6 b9)
    have sW := (c6).size
    replace hy := Lib.hid hy
    clear z0 z1 z2
    go_wp2
    refine bodyPost_ret (v := .agg #[.int .i64 q9, .slice a9 n9 c9, .slice a8 n8 c8]) (by simp [results, Tryz.results15, go_sem, v0, v1, v2]) rfl ⟨_, rfl, below_set3 (Below.step b06 b9) (by omega) _ _ _, ?_⟩
    rw [← he.out]
    exact (hy.out.set3 (by omega) _ _ _).mono (by omega)
  rw [decide_eq_true hfr]
  have hq2 := ints_any _ _ _ _ W6 hGA6 hGB6
  replace hfr := Lib.hid hfr
  replace hq2 := Lib.hid hq2
  clear hGA6 hGB6
  refine headY (v := ?_) (some 69) rfl rfl (Or.inl ⟨by rfl, ?_⟩) hS ?_
  rotate_left
  · rintro W' _; go_simp; try with_reducible rfl
  simp only [Act.put, List.setIfInBounds_toArray, List.set_cons_zero, List.set_cons_succ]
  refine headY (v := ?_) (some 70) rfl rfl (Or.inl ⟨by rfl, ?_⟩) hS ?_
  rotate_left
  · rintro W' _; go_simp; try with_reducible rfl
  simp only [Act.put, List.setIfInBounds_toArray, List.set_cons_zero, List.set_cons_succ]
  refine headY (v := ?_) (some 71) rfl rfl (Or.inl ⟨by rfl, ?_⟩) hS ?_
  rotate_left
  · rintro W' _; go_simp; try with_reducible rfl
  simp only [Act.put, List.setIfInBounds_toArray, List.set_cons_zero, List.set_cons_succ]
  refine headY (v := ?_) (some 72) rfl rfl (Or.inl ⟨by rfl, ?_⟩) hS ?_
  rotate_left
  · rintro W' _; go_simp; try with_reducible rfl
  simp only [Act.put, List.setIfInBounds_toArray, List.set_cons_zero, List.set_cons_succ]
  refine headY (v := ?_) (some 73) rfl rfl (Or.inl ⟨by rfl, ?_⟩) hS ?_
  rotate_left
  · rintro W' _; go_simp; try with_reducible rfl
  simp only [Act.put, List.setIfInBounds_toArray, List.set_cons_zero, List.set_cons_succ]
  refine headY (v := ?_) (some 74) rfl rfl (Or.inl ⟨by rfl, ?_⟩) hS ?_
  rotate_left
  · rintro W' _; go_simp; try with_reducible rfl
  simp only [Act.put, List.setIfInBounds_toArray, List.set_cons_zero, List.set_cons_succ]
  refine headY (v := ?_) (some 75) rfl rfl (Or.inl ⟨by rfl, ?_⟩) hS ?_
  rotate_left
  · rintro W' _; go_simp; try with_reducible rfl
  simp only [Act.put, List.setIfInBounds_toArray, List.set_cons_zero, List.set_cons_succ]
  refine headY (v := ?_) (some 76) rfl rfl (Or.inl ⟨by rfl, ?_⟩) hS ?_
  rotate_left
  · rintro W' _; go_simp; try with_reducible rfl
  simp only [Act.put, List.setIfInBounds_toArray, List.set_cons_zero, List.set_cons_succ]
  refine headY (v := ?_) (some 77) rfl rfl (Or.inl ⟨by rfl, ?_⟩) hS ?_
  rotate_left
  · rintro W' _; go_simp; try with_reducible rfl
  simp only [Act.put, List.setIfInBounds_toArray, List.set_cons_zero, List.set_cons_succ]
  refine headY (v := ?_) (some 78) rfl rfl (Or.inl ⟨by rfl, ?_⟩) hS ?_
  rotate_left
  · rintro W' _; go_simp; try with_reducible rfl
  simp only [Act.put, List.setIfInBounds_toArray, List.set_cons_zero, List.set_cons_succ]
  refine headY (v := ?_) (some 79) rfl rfl (Or.inl ⟨by rfl, ?_⟩) hS ?_
  rotate_left
  · rintro W' _; go_simp; try with_reducible rfl
  simp only [Act.put, List.setIfInBounds_toArray, List.set_cons_zero, List.set_cons_succ]
  refine headY (v := ?_) (some 80) rfl rfl (Or.inl ⟨by rfl, ?_⟩) hS ?_
  rotate_left
  · rintro W' _; go_simp; try with_reducible rfl
  simp only [Act.put, List.setIfInBounds_toArray, List.set_cons_zero, List.set_cons_succ]
  refine headY (v := ?_) (some 81) rfl rfl (Or.inl ⟨by rfl, ?_⟩) hS ?_
  rotate_left
  · rintro W' _; go_simp; try with_reducible rfl
  simp only [Act.put, List.setIfInBounds_toArray, List.set_cons_zero, List.set_cons_succ]
  refine headY (v := ?_) (some 82) rfl rfl (Or.inl ⟨by rfl, ?_⟩) hS ?_
  rotate_left
  · rintro W' _; go_simp; try with_reducible rfl
  simp only [Act.put, List.setIfInBounds_toArray, List.set_cons_zero, List.set_cons_succ]
  refine headY (v := ?_) (some 83) rfl rfl (Or.inl ⟨by rfl, ?_⟩) hS ?_
  rotate_left
  · rintro W' _; go_simp; try with_reducible rfl
  simp only [Act.put, List.setIfInBounds_toArray, List.set_cons_zero, List.set_cons_succ]
  refine headC rfl (fun KK hK => ?_)
  go_simp
  refine hq2.out.mono ?_
  rintro e w7 ⟨n7, rfl, rfl⟩
  refine hK _ _ hS ?_
  clear hK KK hq2
  have c7 := below_drewN c6 n7
  have b07 := below_drewN b06 n7
  obtain ⟨W7, hW7⟩ : ∃ W : World, W6.drewN n7 = W := ⟨_, rfl⟩
  rw [hW7] at c7 b07 ⊢
  clear hW7
  by_cases hbk : a.drop (a.length - 2 * R) = b.drop (b.length - 2 * R)
  case neg =>
    have he := he4.out
    rw [if_pos (.inr (.inr hbk))] at he
    replace he := Lib.hid he
    rw [decide_eq_false hbk]
    clear hbk
    refine headY (v := ?_) (some 85) rfl rfl (Or.inl ⟨by rfl, ?_⟩) hS ?_
    rotate_left
    · rintro W' _; go_simp; try with_reducible rfl
    simp only [Act.put, List.setIfInBounds_toArray, List.set_cons_zero, List.set_cons_succ]
    refine head0 ?_
    simp only [List.drop_succ_cons, List.drop_zero]
    clear z0 z1 z2
    obtain ⟨⟨z0, z1, z2⟩, -, -, -⟩ := q.below c7
    go_wp2
    refine NoPanic.normal ?_
    go_wp2_with fail
    refine (raw_new _ 2 3 W7).mono ?_
    rintro e w9 ⟨y, rfl, b9, hy⟩
    obtain ⟨q9, a9, n9, c9, a8, n8, c8, rfl⟩ := hy.shape
    obtain ⟨⟨v0, v1, v2⟩, g0, g1, g2⟩ := q4.below (Below.step c7 b9)
    have sW := (c7).size
    replace hy := Lib.hid hy
    clear z0 z1 z2
    go_wp2
    refine bodyPost_ret (v := .agg #[.int .i64 q9, .slice a9 n9 c9, .slice a8 n8 c8]) (by simp [results, Tryz.results15, go_sem, v0, v1, v2]) rfl ⟨_, rfl, below_set3 (Below.step b07 b9) (by omega) _ _ _, ?_⟩
    rw [← he.out]
    exact (hy.out.set3 (by omega) _ _ _).mono (by omega)
  rw [decide_eq_true hbk]
  have he5 := he4.out
  rw [if_neg (fun q => q.elim hlow (fun q => q.elim (fun q => q hfr.out) (fun q => q hbk)))] at he5
  replace he5 := Lib.hid he5
  replace hbk := Lib.hid hbk
  clear he4
  refine headY (v := ?_) (some 85) rfl rfl (Or.inl ⟨by rfl, ?_⟩) hS ?_
  rotate_left
  · rintro W' _; go_simp; try with_reducible rfl
  simp only [Act.put, List.setIfInBounds_toArray, List.set_cons_zero, List.set_cons_succ]
  refine head0 ?_
  simp only [List.drop_succ_cons, List.drop_zero]
  clear z0 z1 z2
  obtain ⟨⟨z0, z1, z2⟩, -, -, -⟩ := q.below c7
  obtain ⟨W8, hW8⟩ : ∃ W : World, W7.drew = W := ⟨_, rfl⟩
  have c8 : Below W0.heap.size W0 W8 := by rw [← hW8]; exact c7.drew
  have b08 : Below w.heap.size w W8 := by rw [← hW8]; exact b07.drew
  replace hW8 := Lib.hid hW8
  go_wp2
  refine NoPanic.normal ?_
  go_upto_region 17 with fail
  have hS8 : W8.cell? ⟨w.heap.size, 0, none⟩ = some (.int .i64 K) ∧ W8.cell? ⟨w.heap.size, 1, none⟩ = some (.int .i64 R) ∧ W8.cell? ⟨w.heap.size, 2, none⟩ = some (.slice va vn vc) := by
    obtain ⟨⟨y0, y1, y2⟩, -, -, -⟩ := q.below c8
    exact ⟨y0, y1, y2⟩
  refine wp_region_plan (fun w' => w'.cell? ⟨w.heap.size, 0, none⟩ = some (.int .i64 K) ∧ w'.cell? ⟨w.heap.size, 1, none⟩ = some (.int .i64 R) ∧ w'.cell? ⟨w.heap.size, 2, none⟩ = some (.slice va vn vc)) 7 [(0, true), (1, true), (3, true), (4, true), (2, false), (5, false), (6, false)] (by kernel_rfl) (by kernel_rfl) ?_
  rw [hW8.out]
  clear z0 z1 z2
  refine headY (v := ?_) (some 88) rfl rfl (Or.inl ⟨by rfl, ?_⟩) hS8 ?_
  rotate_left
  · rintro W' ⟨s0, s1, s2⟩; go_simp; try with_reducible rfl
  simp only [Act.put, List.setIfInBounds_toArray, List.set_cons_zero, List.set_cons_succ]
  refine headY (v := ?_) (some 89) rfl rfl (Or.inl ⟨by rfl, ?_⟩) hS8 ?_
  rotate_left
  · rintro W' ⟨s0, s1, s2⟩; go_simp; try with_reducible rfl
  simp only [Act.put, List.setIfInBounds_toArray, List.set_cons_zero, List.set_cons_succ]
  refine headY (v := ?_) (some 91) rfl rfl (Or.inl ⟨by rfl, ?_⟩) hS8 ?_
  rotate_left
  · rintro W' ⟨s0, s1, s2⟩; go_simp; try with_reducible rfl
  simp only [Act.put, List.setIfInBounds_toArray, List.set_cons_zero, List.set_cons_succ]
  refine headY (v := ?_) (some 92) rfl rfl (Or.inl ⟨by rfl, ?_⟩) hS8 ?_
  rotate_left
  · rintro W' ⟨s0, s1, s2⟩; go_simp; try with_reducible rfl
  simp only [Act.put, List.setIfInBounds_toArray, List.set_cons_zero, List.set_cons_succ]
  refine headC rfl (fun KK hK => ?_)
  go_simp
  refine (ref_image K R va vn vc T _ a W8 (h.out.below c8) hr.out (hu.out.below c8) sA.out (by omega)).mono ?_
  rintro e w9 ⟨x1, rfl, b9, ho1⟩
  have c9 := Below.step c8 b9
  have hS9 : w9.cell? ⟨w.heap.size, 0, none⟩ = some (.int .i64 K) ∧ w9.cell? ⟨w.heap.size, 1, none⟩ = some (.int .i64 R) ∧ w9.cell? ⟨w.heap.size, 2, none⟩ = some (.slice va vn vc) := by
    obtain ⟨⟨y0, y1, y2⟩, -, -, -⟩ := q.below c9
    exact ⟨y0, y1, y2⟩
  obtain ⟨x1a, x1b, x1c, rfl⟩ := ho1.at.shape
  replace ho1 := Lib.hid ho1
  refine hK _ _ hS9 ?_
  clear hK KK hS8
  refine headC rfl (fun KK hK => ?_)
  go_simp
  refine (ref_image K R va vn vc T _ b w9 (h.out.below c9) hr.out (hv.out.below c9) sB.out (by omega)).mono ?_
  rintro e w10 ⟨x2, rfl, b10, ho2⟩
  have c10 := Below.step c9 b10
  have b010 := Below.step (Below.step b08 b9) b10
  have hS10 : w10.cell? ⟨w.heap.size, 0, none⟩ = some (.int .i64 K) ∧ w10.cell? ⟨w.heap.size, 1, none⟩ = some (.int .i64 R) ∧ w10.cell? ⟨w.heap.size, 2, none⟩ = some (.slice va vn vc) := by
    obtain ⟨⟨y0, y1, y2⟩, -, -, -⟩ := q.below c10
    exact ⟨y0, y1, y2⟩
  obtain ⟨x2a, x2b, x2c, rfl⟩ := ho2.at.shape
  have hq3 := ints_any _ _ _ _ w10 (ho1.out.at.below b10) ho2.at
  replace hq3 := Lib.hid hq3
  replace ho2 := Lib.hid ho2
  refine hK _ _ hS10 ?_
  clear hK KK hS9
  refine headC rfl (fun KK hK => ?_)
  go_simp
  refine hq3.out.mono ?_
  rintro e w11 ⟨n11, rfl, rfl⟩
  have c11 := below_drewN c10 n11
  have b011 := below_drewN b010 n11
  refine hK _ _ hS10 ?_
  clear hK KK hq3
  obtain ⟨W11, hW11⟩ : ∃ W : World, w10.drewN n11 = W := ⟨_, rfl⟩
  have hS11 : W11.cell? ⟨w.heap.size, 0, none⟩ = some (.int .i64 K) ∧ W11.cell? ⟨w.heap.size, 1, none⟩ = some (.int .i64 R) ∧ W11.cell? ⟨w.heap.size, 2, none⟩ = some (.slice va vn vc) := by rw [← hW11]; exact hS10
  rw [hW11] at c11 b011 ⊢
  clear hS10 hW11
  refine head0 ?_
  simp only [List.drop_succ_cons, List.drop_zero]
  obtain ⟨z0, z1, z2⟩ := hS11
  by_cases him : imgP K R T a = imgP K R T b
  · have he := he5.out
    rw [if_neg (fun q => q him)] at he
    replace he := Lib.hid he
    rw [decide_eq_true him]
    replace him := Lib.hid him
    obtain ⟨⟨v0, v1, v2⟩, g0, g1, g2⟩ := q4.below c11
    go_wp2
    refine NoPanic.normal ?_
    go_wp2
    refine bodyPost_ret (v := .agg #[.int .i64 0, .slice none 0 0, .slice none 0 0]) (by simp [results, Tryz.results15, go_sem, v0, v1, v2]) rfl ⟨_, rfl, below_set3 b011 (by omega) _ _ _, ?_⟩
    rw [← he.out]
    rfl
  · have he := he5.out
    rw [if_pos him] at he
    replace he := Lib.hid he
    rw [decide_eq_false him]
    clear him
    go_wp2
    refine NoPanic.normal ?_
    go_wp2_with fail
    refine (raw_new _ 3 3 W11).mono ?_
    rintro e w9 ⟨y, rfl, b9, hy⟩
    obtain ⟨q9, a9, n9, c9, a8, n8, c8, rfl⟩ := hy.shape
    obtain ⟨⟨v0, v1, v2⟩, g0, g1, g2⟩ := q4.below (Below.step c11 b9)
    have sW := (c11).size
    replace hy := Lib.hid hy
    clear z0 z1 z2
    go_wp2
    refine bodyPost_ret (v := .agg #[.int .i64 q9, .slice a9 n9 c9, .slice a8 n8 c8]) (by simp [results, Tryz.results15, go_sem, v0, v1, v2]) rfl ⟨_, rfl, below_set3 (Below.step b011 b9) (by omega) _ _ _, ?_⟩
    rw [← he.out]
    exact (hy.out.set3 (by omega) _ _ _).mono (by omega)
end Go.Proofs.YtmhiambkfdkkbaaGreatDoor

namespace Go.Proofs.YtmhiambkfdkkbaaGreatDoor

/-- The search: the levels D, the queue q; the first i of it have been gone through, and of the next, v, the arrows to pre. -/
structure MIn (N : Nat) (adj : Nat → List Nat) (D : Nat → Nat) (q : List Nat) (i v : Nat) (pre : List Nat) : Prop where
  at_ : q[i]? = some v
  nodup : q.Nodup
  low : ∀ x ∈ q, x < N * N
  diag : ∀ x, x < N * N → Diag N x → x ∈ q ∧ D x = 0
  old : ∀ x, x < N * N → ¬ Diag N x → (x ∈ q ↔ 0 < D x)
  mono : ∀ (j k x y : Nat), j ≤ k → q[j]? = some x → q[k]? = some y → D x ≤ D y
  top : ∀ x ∈ q, D x ≤ D v + 1
  bnd : ∀ x ∈ q, D x ≤ q.length
  done : ∀ (k x : Nat), k < i → q[k]? = some x → ∀ t ∈ adj x, (¬ Diag N t → t ∈ q ∧ D t ≤ D x + 1) ∧ (Diag N t → Diag N x)
  now : ∀ t ∈ pre, (¬ Diag N t → t ∈ q ∧ D t ≤ D v + 1) ∧ (Diag N t → Diag N v)
/-- Between two of the queue: the first i have been gone through. -/
structure MOut (N : Nat) (adj : Nat → List Nat) (D : Nat → Nat) (q : List Nat) (i : Nat) : Prop where
  nodup : q.Nodup
  low : ∀ x ∈ q, x < N * N
  diag : ∀ x, x < N * N → Diag N x → x ∈ q ∧ D x = 0
  old : ∀ x, x < N * N → ¬ Diag N x → (x ∈ q ↔ 0 < D x)
  mono : ∀ (j k x y : Nat), j ≤ k → q[j]? = some x → q[k]? = some y → D x ≤ D y
  top : ∀ v : Nat, q[i]? = some v → ∀ x ∈ q, D x ≤ D v + 1
  bnd : ∀ x ∈ q, D x ≤ q.length
  done : ∀ (k x : Nat), k < i → q[k]? = some x → ∀ t ∈ adj x, (¬ Diag N t → t ∈ q ∧ D t ≤ D x + 1) ∧ (Diag N t → Diag N x)
section
variable {N : Nat} {adj : Nat → List Nat} {D : Nat → Nat} {q : List Nat} {i v : Nat} {pre : List Nat}
/-- The pairs of equal nodes, in order. -/
def diags (N : Nat) : List Nat := (List.range N).map fun u => u * N + u
theorem mem_diags {N x : Nat} : x ∈ diags N ↔ ∃ u, u < N ∧ x = u * N + u := by
  unfold diags; rw [List.mem_map]
  constructor
  · rintro ⟨u, h, rfl⟩; exact ⟨u, List.mem_range.1 h, rfl⟩
  · rintro ⟨u, h, rfl⟩; exact ⟨u, List.mem_range.2 h, rfl⟩
theorem MOut.init (N : Nat) (adj : Nat → List Nat) : MOut N adj (fun _ => 0) (diags N) 0 := by
  refine ⟨?_, fun x hx => ?_, fun x hx hd => ⟨mem_diags.2 ⟨x / N, div_lt_of hx, hd.eq⟩, rfl⟩, fun x hx hd => ⟨fun h => ?_, fun h => absurd h (by simp)⟩, fun _ _ _ _ _ _ _ => Nat.le_refl _, fun _ _ _ _ => by simp, fun _ _ => Nat.zero_le _, fun k x hk => by omega⟩
  · unfold diags
    rw [List.nodup_iff_pairwise_ne, List.pairwise_map]
    refine List.pairwise_lt_range.imp_of_mem fun {a b} ha hb h e => ?_
    have hb := List.mem_range.1 hb
    have := Nat.mul_le_mul_right N (show a + 1 ≤ b by omega)
    rw [Nat.add_mul] at this
    omega
  · obtain ⟨u, hu, rfl⟩ := mem_diags.1 hx
    exact pair_lt hu hu
  · obtain ⟨u, hu, rfl⟩ := mem_diags.1 h
    exact absurd (diag_mk hu) hd
theorem MOut.enter (h : MOut N adj D q i) (hv : q[i]? = some v) : MIn N adj D q i v [] :=
  ⟨hv, h.nodup, h.low, h.diag, h.old, h.mono, h.top v hv, h.bnd, h.done, fun _ ht => by cases ht⟩
theorem MIn.leave (h : MIn N adj D q i v pre) (hp : pre = adj v) : MOut N adj D q (i + 1) := by
  subst hp
  refine ⟨h.nodup, h.low, h.diag, h.old, h.mono, fun y hy x hx => ?_, h.bnd, fun k x hk hx => ?_⟩
  · have := h.mono i (i + 1) v y (by omega) h.at_ hy
    have := h.top x hx
    omega
  · by_cases e : k = i
    · subst e
      rw [h.at_] at hx; cases hx
      exact h.now
    · exact h.done k x (by omega) hx
/-- An arrow that is passed over: to a pair of equal nodes from one, to one that has come up. -/
theorem MIn.skip (h : MIn N adj D q i v pre) {t : Nat} (ht : (Diag N t ∧ Diag N v) ∨ (¬ Diag N t ∧ t ∈ q)) : MIn N adj D q i v (pre ++ [t]) := by
  refine ⟨h.at_, h.nodup, h.low, h.diag, h.old, h.mono, h.top, h.bnd, h.done, fun s hs => ?_⟩
  rcases List.mem_append.1 hs with hs | hs
  · exact h.now s hs
  · cases List.mem_singleton.1 hs
    rcases ht with ⟨h1, h2⟩ | ⟨h1, h2⟩
    · exact ⟨fun q => absurd h1 q, fun _ => h2⟩
    · exact ⟨fun _ => ⟨h2, h.top _ h2⟩, fun q => absurd q h1⟩
/-- A new one. -/
theorem MIn.add (h : MIn N adj D q i v pre) {t : Nat} (htl : t < N * N) (ht : ¬ Diag N t) (hq : t ∉ q) : MIn N adj (updN D t (D v + 1)) (q ++ [t]) i v (pre ++ [t]) := by
  have hi : i < q.length := (List.getElem?_eq_some_iff.1 h.at_).1
  have hvq : v ∈ q := List.mem_of_getElem? h.at_
  have hvt : v ≠ t := fun e => hq (by rw [← e]; exact hvq)
  have hD : ∀ x, x ∈ q → updN D t (D v + 1) x = D x := fun x hx => updN_other _ _ _ (fun e => hq (by rw [← e]; exact hx))
  have hget : ∀ k x, (q ++ [t])[k]? = some x → (q[k]? = some x ∧ k < q.length) ∨ (k = q.length ∧ x = t) := fun k x hx => by
    rw [List.getElem?_append] at hx
    split at hx
    · exact .inl ⟨hx, by assumption⟩
    · right
      cases hk : k - q.length with
      | zero => rw [hk] at hx; simp at hx; exact ⟨by omega, hx.symm⟩
      | succ n => rw [hk] at hx; simp at hx
  refine ⟨by rw [List.getElem?_append_left hi]; exact h.at_, List.nodup_append.2 ⟨h.nodup, by simp, fun a ha b hb e => by cases List.mem_singleton.1 hb; subst e; exact hq ha⟩, fun x hx => ?_, fun x hx hd => ?_, fun x hx hd => ?_, fun j k x y hjk hx hy => ?_, fun x hx => ?_, fun x hx => ?_, fun k x hk hx s hs => ?_, fun s hs => ?_⟩
  · rcases List.mem_append.1 hx with hx | hx
    · exact h.low x hx
    · cases List.mem_singleton.1 hx; exact htl
  · obtain ⟨h1, h2⟩ := h.diag x hx hd
    exact ⟨List.mem_append_left _ h1, by rw [hD x h1]; exact h2⟩
  · by_cases e : x = t
    · subst e; rw [updN_same]; simp
    · rw [updN_other _ _ _ e, ← h.old x hx hd]; simp [e]
  · rcases hget j x hx with ⟨a1, _⟩ | ⟨a1, rfl⟩
    · rw [hD x (List.mem_of_getElem? a1)]
      rcases hget k y hy with ⟨b1, _⟩ | ⟨b1, rfl⟩
      · rw [hD y (List.mem_of_getElem? b1)]; exact h.mono j k x y hjk a1 b1
      · rw [updN_same]; exact h.top x (List.mem_of_getElem? a1)
    · rcases hget k y hy with ⟨b1, b2⟩ | ⟨b1, rfl⟩
      · omega
      · exact Nat.le_refl _
  · rw [updN_other D t (D v + 1) hvt]
    rcases List.mem_append.1 hx with hx | hx
    · rw [hD x hx]; exact h.top x hx
    · cases List.mem_singleton.1 hx; rw [updN_same]; exact Nat.le_refl _
  · rw [List.length_append, List.length_singleton]
    rcases List.mem_append.1 hx with hx | hx
    · rw [hD x hx]; have := h.bnd x hx; omega
    · cases List.mem_singleton.1 hx; rw [updN_same]; have := h.bnd v hvq; omega
  · rcases hget k x hx with ⟨a1, _⟩ | ⟨a1, rfl⟩
    · rw [hD x (List.mem_of_getElem? a1)]
      obtain ⟨c1, c2⟩ := h.done k x hk a1 s hs
      exact ⟨fun q' => by
        obtain ⟨d1, d2⟩ := c1 q'
        exact ⟨List.mem_append_left _ d1, by rw [hD s d1]; exact d2⟩, c2⟩
    · omega
  · rw [updN_other D t (D v + 1) hvt]
    rcases List.mem_append.1 hs with hs | hs
    · obtain ⟨c1, c2⟩ := h.now s hs
      exact ⟨fun q' => by
        obtain ⟨d1, d2⟩ := c1 q'
        exact ⟨List.mem_append_left _ d1, by rw [hD s d1]; exact d2⟩, c2⟩
    · cases List.mem_singleton.1 hs
      exact ⟨fun _ => ⟨List.mem_append_right _ (by simp), by rw [updN_same]; exact Nat.le_refl _⟩, fun q' => absurd q' ht⟩
/-- Of a way, whose vertices are gone through as far as j, the next one lies in the queue. -/
theorem MOut.along (h : MOut N adj D q i) {u : List Nat} (hu : ApartWay N adj u) : ∀ j, j + 1 < u.length →
    (∃ k, k ≤ j ∧ u.getD k 0 ∈ q ∧ D (u.getD k 0) ≤ k ∧ ∀ m, m < i → q[m]? ≠ some (u.getD k 0)) ∨ (u.getD j 0 ∈ q ∧ D (u.getD j 0) ≤ j ∧ ∃ m, m < i ∧ q[m]? = some (u.getD j 0))
  | 0, h1 => by
    obtain ⟨a, b⟩ := h.diag _ (hu.low 0 (by omega)) hu.fst
    by_cases q' : ∃ m, m < i ∧ q[m]? = some (u.getD 0 0)
    · exact .inr ⟨a, by omega, q'⟩
    · exact .inl ⟨0, Nat.le_refl _, a, by omega, fun m hm e => q' ⟨m, hm, e⟩⟩
  | j + 1, h1 => by
    rcases h.along hu j (by omega) with ⟨k, k1, k2, k3, k4⟩ | ⟨_, a2, m, m1, m2⟩
    · exact .inl ⟨k, by omega, k2, k3, k4⟩
    · obtain ⟨c1, _⟩ := h.done m _ m1 m2 _ (hu.arr j (by omega))
      obtain ⟨d1, d2⟩ := c1 (hu.inn (j + 1) (by omega) h1)
      by_cases q' : ∃ m, m < i ∧ q[m]? = some (u.getD (j + 1) 0)
      · exact .inr ⟨d1, by omega, q'⟩
      · exact .inl ⟨j + 1, Nat.le_refl _, d1, by omega, fun m hm e => q' ⟨m, hm, e⟩⟩
/-- At the end of the queue: there is no such way. -/
theorem MOut.none (h : MOut N adj D q i) (hi : q.length ≤ i) (u : List Nat) : ¬ ApartWay N adj u := fun hu => by
  have h3 := hu.len
  rcases h.along hu (u.length - 2) (by omega) with ⟨k, _, k2, _, k4⟩ | ⟨_, _, m, m1, m2⟩
  · obtain ⟨m, hm⟩ := List.mem_iff_getElem?.1 k2
    have := (List.getElem?_eq_some_iff.1 hm).1
    exact k4 m (by omega) hm
  · obtain ⟨_, c2⟩ := h.done m _ m1 m2 _ (hu.arr (u.length - 2) (by omega))
    refine hu.inn (u.length - 2) (by omega) (by omega) (c2 ?_)
    rw [show u.length - 2 + 1 = u.length - 1 by omega]
    exact hu.lst
/-- Whoever is met from v: no way is shorter. -/
theorem MIn.best (h : MIn N adj D q i v pre) {u : List Nat} (hu : ApartWay N adj u) : D v + 3 ≤ u.length + 1 := by
  have h3 := hu.len
  have ho : MOut N adj D q i := ⟨h.nodup, h.low, h.diag, h.old, h.mono, fun y hy => by rw [h.at_] at hy; cases hy; exact h.top, h.bnd, h.done⟩
  rcases ho.along hu (u.length - 2) (by omega) with ⟨k, k1, k2, k3, k4⟩ | ⟨_, _, m, m1, m2⟩
  · obtain ⟨m, hm⟩ := List.mem_iff_getElem?.1 k2
    have hmi : i ≤ m := Nat.le_of_not_lt fun q' => k4 m q' hm
    have := h.mono i m v _ hmi h.at_ hm
    omega
  · obtain ⟨_, c2⟩ := h.done m _ m1 m2 _ (hu.arr (u.length - 2) (by omega))
    refine absurd (c2 ?_) (hu.inn (u.length - 2) (by omega) (by omega))
    rw [show u.length - 2 + 1 = u.length - 1 by omega]
    exact hu.lst

/-- From whom each came. -/
def CameOf (N : Nat) (adj : Nat → List Nat) (D : Nat → Nat) (q : List Nat) (came : Nat → Int) : Prop :=
  (∀ x, x < N * N → ((came x < 0 ↔ Diag N x ∨ x ∉ q) ∧ (came x < 0 → came x = -1))) ∧ ∀ x, x < N * N → 0 ≤ came x → ∃ p : Nat, came x = p ∧ p ∈ q ∧ x ∈ adj p ∧ D x = D p + 1
theorem CameOf.init (N : Nat) (adj : Nat → List Nat) : CameOf N adj (fun _ => 0) (diags N) (fun _ => -1) := by
  refine ⟨fun x hx => ⟨⟨fun _ => ?_, fun _ => (by show (-1 : Int) < 0; decide)⟩, fun _ => rfl⟩, fun x _ h => by simp at h⟩
  by_cases hd : Diag N x
  · exact .inl hd
  · right
    intro hm
    obtain ⟨u, hu, rfl⟩ := mem_diags.1 hm
    exact hd (diag_mk hu)
theorem CameOf.add (h : MIn N adj D q i v pre) {came : Nat → Int} (hc : CameOf N adj D q came) {t : Nat} (ht : ¬ Diag N t) (hq : t ∉ q) (ha : t ∈ adj v) : CameOf N adj (updN D t (D v + 1)) (q ++ [t]) (updN came t (v : Int)) := by
  have hvq : v ∈ q := List.mem_of_getElem? h.at_
  have hvt : v ≠ t := fun e => hq (by rw [← e]; exact hvq)
  refine ⟨fun x hx => ?_, fun x hx h0 => ?_⟩
  · by_cases e : x = t
    · subst e; rw [updN_same]
      exact ⟨⟨fun q' => by omega, fun q' => by rcases q' with q' | q'; exact absurd q' ht; exact absurd (List.mem_append_right _ (by simp)) q'⟩, fun q' => by omega⟩
    · rw [updN_other _ _ _ e]
      obtain ⟨a, b⟩ := hc.1 x hx
      refine ⟨?_, b⟩
      rw [a]; simp [e]
  · by_cases e : x = t
    · subst e
      refine ⟨v, updN_same .., List.mem_append_left _ hvq, ha, ?_⟩
      rw [updN_same, updN_other _ _ _ hvt]
    · rw [updN_other _ _ _ e] at h0 ⊢
      obtain ⟨p, p1, p2, p3, p4⟩ := hc.2 x hx h0
      refine ⟨p, p1, List.mem_append_left _ p2, p3, ?_⟩
      rw [updN_other _ _ _ e, updN_other _ _ _ (fun e' => hq (by rw [← e']; exact p2))]
      exact p4
/-- The way back from u to a pair of equal nodes. -/
inductive BackWay (N : Nat) (adj : Nat → List Nat) (came : Nat → Int) : Nat → List Nat → Prop
  | stop (x : Nat) (h : came x = -1) (hd : Diag N x) : BackWay N adj came x [x]
  | step (x p : Nat) (c : List Nat) (h : came x = p) (hd : ¬ Diag N x) (ha : x ∈ adj p) (hp : p < N * N) (hc : BackWay N adj came p c) : BackWay N adj came x (x :: c)
theorem CameOf.back {came : Nat → Int} (hq : ∀ x ∈ q, x < N * N) (h0 : ∀ x ∈ q, ¬ Diag N x → 0 < D x) (hc : CameOf N adj D q came) : ∀ n x, D x = n → x ∈ q → ∃ c, BackWay N adj came x c ∧ c.length ≤ n + 1
  | n, x, hn, hx => by
    obtain ⟨a, b⟩ := hc.1 x (hq x hx)
    by_cases hd : Diag N x
    · exact ⟨[x], .stop x (b (a.2 (.inl hd))) hd, by simp⟩
    · have h1 : 0 ≤ came x := by
        apply Classical.byContradiction
        intro q'
        rcases a.1 (by omega) with q' | q'
        · exact hd q'
        · exact q' hx
      obtain ⟨p, p1, p2, p3, p4⟩ := hc.2 x (hq x hx) h1
      obtain ⟨c, c1, c2⟩ := CameOf.back hq h0 hc (n - 1) p (by omega) p2
      exact ⟨x :: c, .step x p c p1 hd p3 (hq p p2) c1, by simp; omega⟩
termination_by n => n
decreasing_by all_goals (have := h0 x hx hd; omega)
theorem BackWay.ne {came : Nat → Int} {x : Nat} {c : List Nat} (h : BackWay N adj came x c) : ∃ c', c = x :: c' := by cases h <;> exact ⟨_, rfl⟩
theorem BackWay.next {came : Nat → Int} {x : Nat} {c : List Nat} (h : BackWay N adj came x c) (hx : x < N * N) : ∀ k y, c[k]? = some y → y < N * N ∧ ((k + 1 < c.length ∧ ∃ z, c[k + 1]? = some z ∧ came y = z) ∨ (k + 1 = c.length ∧ came y = -1)) := by
  induction h with
  | stop x h hd =>
    intro k y hy
    cases k with
    | zero => simp at hy; subst hy; exact ⟨hx, .inr ⟨rfl, h⟩⟩
    | succ k => simp at hy
  | step x p c hcm hnd ha hp hc ih =>
    intro k y hy
    obtain ⟨c', rfl⟩ := hc.ne
    cases k with
    | zero => simp at hy; subst hy; exact ⟨hx, .inl ⟨by simp, p, rfl, hcm⟩⟩
    | succ k =>
      have hy : (p :: c')[k]? = some y := by simpa using hy
      obtain ⟨h1, h2⟩ := ih hp k y hy
      refine ⟨h1, h2.imp ?_ ?_⟩
      · rintro ⟨a, z, b, d⟩; exact ⟨by simpa using a, z, by simpa using b, d⟩
      · rintro ⟨a, b⟩; exact ⟨by simpa using a, b⟩
/-- The whole way, from its first vertex on. -/
theorem BackWay.way {came : Nat → Int} {x : Nat} {c : List Nat} (h : BackWay N adj came x c) (hx : x < N * N) :
    (∀ i, i < c.length → c.reverse.getD i 0 < N * N) ∧ (∀ i, i + 1 < c.length → c.reverse.getD (i + 1) 0 ∈ adj (c.reverse.getD i 0)) ∧ Diag N (c.reverse.getD 0 0) ∧ (∀ i, 0 < i → i < c.length → ¬ Diag N (c.reverse.getD i 0)) ∧ c.reverse.getD (c.length - 1) 0 = x ∧ 0 < c.length := by
  induction h with
  | stop x _ hd => exact ⟨fun i hi => by simp at hi; subst hi; simpa using hx, fun i hi => by simp at hi, by simpa using hd, fun i h1 h2 => by simp at h2; omega, by simp, by simp⟩
  | step x p c hcm hnd ha hp hc ih =>
    obtain ⟨i1, i2, i3, i4, i5, i6⟩ := ih hp
    have g1 : ∀ i, i < c.length → (x :: c).reverse.getD i 0 = c.reverse.getD i 0 := fun i hi => by
      rw [List.reverse_cons, List.getD_eq_getElem?_getD, List.getElem?_append_left (by simpa using hi)]; rfl
    have g2 : (x :: c).reverse.getD c.length 0 = x := by
      rw [List.reverse_cons, List.getD_eq_getElem?_getD, List.getElem?_append_right (by simp)]; simp
    refine ⟨fun i hi => ?_, fun i hi => ?_, ?_, fun i h1 h2 => ?_, ?_, by simp⟩
    · by_cases e : i < c.length
      · rw [g1 i e]; exact i1 i e
      · obtain rfl : i = c.length := by simp at hi; omega
        rw [g2]; exact hx
    · have hi : i + 1 < c.length + 1 := by simpa using hi
      rw [g1 i (by omega)]
      by_cases e : i + 1 < c.length
      · rw [g1 _ e]; exact i2 i e
      · obtain rfl : i = c.length - 1 := by omega
        rw [i5, show c.length - 1 + 1 = c.length by omega, g2]; exact ha
    · rw [g1 0 i6]; exact i3
    · by_cases e : i < c.length
      · rw [g1 i e]; exact i4 i h1 e
      · obtain rfl : i = c.length := by simp at h2; omega
        rw [g2]; exact hnd
    · rw [List.length_cons, Nat.add_sub_cancel, g2]
/-- What is met: a way of the kind, and none is shorter. -/
theorem MIn.met (h : MIn N adj D q i v pre) {came : Nat → Int} (hc : CameOf N adj D q came) {t : Nat} (hv : ¬ Diag N v) (ht : Diag N t) (htl : t < N * N) (ha : t ∈ adj v) :
    ∃ c, BackWay N adj came v c ∧ ApartWay N adj (c.reverse ++ [t]) ∧ (c.reverse ++ [t]).length = D v + 2 ∧ ∀ u, ApartWay N adj u → (c.reverse ++ [t]).length ≤ u.length := by
  have hvq : v ∈ q := List.mem_of_getElem? h.at_
  obtain ⟨c, hb, hl⟩ := hc.back h.low (fun x hx hd => (h.old x (h.low x hx) hd).1 hx) (D v) v rfl hvq
  obtain ⟨w1, w2, w3, w4, w5, w6⟩ := hb.way (h.low v hvq)
  have h2 : 2 ≤ c.length := by
    obtain ⟨c', rfl⟩ := hb.ne
    cases hb with
    | stop _ _ hd => exact absurd hd hv
    | step _ p _ _ _ _ _ hc' => obtain ⟨_, rfl⟩ := hc'.ne; simp
  have g1 : ∀ i, i < c.length → (c.reverse ++ [t]).getD i 0 = c.reverse.getD i 0 := fun i hi => by
    rw [List.getD_eq_getElem?_getD, List.getElem?_append_left (by simpa using hi)]; rfl
  have g2 : (c.reverse ++ [t]).getD c.length 0 = t := by
    rw [List.getD_eq_getElem?_getD, List.getElem?_append_right (by simp)]; simp
  have hL : (c.reverse ++ [t]).length = c.length + 1 := by simp
  have hw : ApartWay N adj (c.reverse ++ [t]) := by
    refine ⟨by omega, fun i hi => ?_, fun i hi => ?_, ?_, ?_, fun i h1 h2 => ?_⟩
    · by_cases e : i < c.length
      · rw [g1 i e]; exact w1 i e
      · obtain rfl : i = c.length := by omega
        rw [g2]; exact htl
    · rw [g1 i (by omega)]
      by_cases e : i + 1 < c.length
      · rw [g1 _ e]; exact w2 i e
      · obtain rfl : i = c.length - 1 := by omega
        rw [w5, show c.length - 1 + 1 = c.length by omega, g2]; exact ha
    · rw [g1 0 (by omega)]; exact w3
    · rw [hL, Nat.add_sub_cancel, g2]; exact ht
    · rw [g1 i (by omega)]; exact w4 i h1 (by omega)
  have hmin : ∀ u, ApartWay N adj u → D v + 2 ≤ u.length := fun u hu => by have := h.best hu; omega
  have := hmin _ hw
  refine ⟨c, hb, hw, by omega, fun u hu => ?_⟩
  have := hmin u hu
  omega
end
end Go.Proofs.YtmhiambkfdkkbaaGreatDoor

namespace Go.Proofs.YtmhiambkfdkkbaaGreatDoor

/-- One arrow. -/
def stepM (N v : Nat) (s : (Nat → Int) × List Nat) (t : Nat) : (Nat → Int) × List Nat := if ¬ Diag N t ∧ s.1 t < 0 then (updN s.1 t (v : Int), s.2 ++ [t]) else s
def rowM (N : Nat) (adj : Nat → List Nat) (v : Nat) (s : (Nat → Int) × List Nat) (k : Nat) : (Nat → Int) × List Nat := ((adj v).take k).foldl (stepM N v) s
/-- The search behind its first j vertices. -/
def stM (N : Nat) (adj : Nat → List Nat) : Nat → (Nat → Int) × List Nat
  | 0 => (fun _ => -1, diags N)
  | j + 1 => match (stM N adj j).2[j]? with
    | some v => rowM N adj v (stM N adj j) (adj v).length
    | none => stM N adj j
theorem rowM_succ {N : Nat} {adj : Nat → List Nat} {v k t : Nat} {s : (Nat → Int) × List Nat} (h : (adj v)[k]? = some t) : rowM N adj v s (k + 1) = stepM N v (rowM N adj v s k) t := by
  unfold rowM
  rw [List.take_add_one, h, List.foldl_append]; rfl
theorem stM_succ {N : Nat} {adj : Nat → List Nat} {j v : Nat} (h : (stM N adj j).2[j]? = some v) : stM N adj (j + 1) = rowM N adj v (stM N adj j) (adj v).length := by
  rw [stM, h]
def NoHit (N : Nat) (adj : Nat → List Nat) (j : Nat) : Prop := ∀ v, (stM N adj j).2[j]? = some v → ∀ t ∈ adj v, Diag N t → Diag N v
/-- What is met. -/
def MeetIs (N : Nat) (adj : Nat → List Nat) (ws : List Nat) : Prop :=
  ∃ j v k t c, (stM N adj j).2[j]? = some v ∧ (adj v)[k]? = some t ∧ Diag N t ∧ ¬ Diag N v ∧ BackWay N adj (rowM N adj v (stM N adj j) k).1 v c ∧ ws = c.reverse ++ [t] ∧ (∀ i, i < j → NoHit N adj i) ∧ ∀ i x, i < k → (adj v)[i]? = some x → Diag N x → Diag N v
theorem BackWay.unique {N : Nat} {adj : Nat → List Nat} {came : Nat → Int} {x : Nat} {c : List Nat} (h : BackWay N adj came x c) : ∀ {d : List Nat}, BackWay N adj came x d → c = d := by
  induction h with
  | stop x h hd =>
    intro d k
    cases k with
    | stop => rfl
    | step _ p c' h' hd' _ _ _ => exact absurd hd hd'
  | step x p c hcm hnd ha hp hc ih =>
    intro d k
    cases k with
    | stop _ _ hd => exact absurd hd hnd
    | step _ p' c' h' _ _ _ hc' =>
      rw [hcm] at h'
      obtain rfl : p = p' := by omega
      rw [ih hc']
theorem MeetIs.unique {N : Nat} {adj : Nat → List Nat} {ws us : List Nat} (h : MeetIs N adj ws) (k : MeetIs N adj us) : ws = us := by
  obtain ⟨j, v, m, t, c, a1, a2, a3, a4, a5, rfl, a7, a8⟩ := h
  obtain ⟨j', v', m', t', c', b1, b2, b3, b4, b5, rfl, b7, b8⟩ := k
  have ej : j = j' := by
    rcases Nat.lt_trichotomy j j' with e | e | e
    · exact absurd (b7 j e v a1 t (List.mem_of_getElem? a2) a3) a4
    · exact e
    · exact absurd (a7 j' e v' b1 t' (List.mem_of_getElem? b2) b3) b4
  subst ej
  rw [a1] at b1
  obtain rfl : v = v' := Option.some.inj b1
  have em : m = m' := by
    rcases Nat.lt_trichotomy m m' with e | e | e
    · exact absurd (b8 m t e a2 a3) a4
    · exact e
    · exact absurd (a8 m' t' e b2 b3) b4
  subst em
  rw [a2] at b2
  obtain rfl : t = t' := Option.some.inj b2
  rw [a5.unique b5]
end Go.Proofs.YtmhiambkfdkkbaaGreatDoor
