/-
  Walks: slices.Sort (its contract off the shelf), slices.Sorted over slices.Values.
  Walks: slices.Reverse (its contract off the shelf), word.Back.
  Walk: graph.first: breadth first.
  Walks: the two functions within pairs.Words.
  Lists of ints of one's own: a row of slices, each a row of its own; what a new list, an append, a store does to them.
  Rows of structs of two ints: append, the address of an element, what a list of such rows reads.
  Walk: graph.back: the arrows the other way round.
  Walk: pairs.arrows.
  Plain mathematics: an ascending list without its doubles.
  Walks: slices.Compact (its contract off the shelf) at a list of one's own.
  Walk: pairs.Graph.
  Walk: pairs.Words.
  Walk: pairs.look.
  What a call with four results leaves.
  Walks: twins.symbols, twins.image.
-/
import Derived.Test.YtmhiambkfdkkbaaGreatDoorMTc4
import Derived.Ground.SlgmProg
import Derived.Shelf.SlGeneric
import Derived.Shelf.SortM.Plain
import Derived.Shelf.SortM.SortNone
import Derived.Lib.SlKeysI
import Derived.Ground.NamesProg
import Derived.Shelf.Slices.Cells
import Derived.Deep.LoopGhost
import Derived.Deep.DeepCutAuto
namespace Go.Proofs.YtmhiambkfdkkbaaGreatDoor
open Go.RowKit Go.Shelf Go.Sort
set_option maxRecDepth 100000

def Tryz.laysSort_ren : Go.Shelf.Ren := ⟨fun | 5 => 62 | 8 => 109 | 7 => 108 | 19 => 153 | 20 => 154 | 10 => 144 | 11 => 145 | 12 => 146 | 13 => 147 | 14 => 148 | 15 => 149 | 16 => 150 | 17 => 151 | 18 => 152 | 30 => 175 | 31 => 176 | 32 => 177 | 33 => 178 | 34 => 179 | 35 => 180 | 40 => 187 | n => n, fun | 23 => 22 | 25 => 3 | 3 => 3 | 32 => 152 | 22 => 22 | 0 => 0 | 44 => 201 | 46 => 203 | 4 => 4 | 36 => 193 | 35 => 192 | 41 => 198 | 5 => 5 | 9 => 9 | 53 => 223 | 57 => 227 | 63 => 236 | 64 => 237 | n => n, fun | n => n⟩
theorem Tryz.laysSort : Go.Proofs.SlLaysM.n5 Tryz.prog Tryz.laysSort_ren := {
  mixed := by kernel_rfl
  f5 := ⟨Tryz.f62.name, by decide, Tryz.func62.trans (congrArg some (by kernel_rfl))⟩
  f7 := ⟨Tryz.f108.name, by decide, Tryz.func108.trans (congrArg some (by kernel_rfl))⟩
  f8 := Tryz.func109.trans (congrArg some (by kernel_rfl))
  f10 := ⟨Tryz.f144.name, by decide, Tryz.func144.trans (congrArg some (by kernel_rfl))⟩
  f11 := ⟨Tryz.f145.name, by decide, Tryz.func145.trans (congrArg some (by kernel_rfl))⟩
  f12 := ⟨Tryz.f146.name, by decide, Tryz.func146.trans (congrArg some (by kernel_rfl))⟩
  f13 := ⟨Tryz.f147.name, by decide, Tryz.func147.trans (congrArg some (by kernel_rfl))⟩
  f14 := ⟨Tryz.f148.name, by decide, Tryz.func148.trans (congrArg some (by kernel_rfl))⟩
  f15 := ⟨Tryz.f149.name, by decide, Tryz.func149.trans (congrArg some (by kernel_rfl))⟩
  f16 := ⟨Tryz.f150.name, by decide, Tryz.func150.trans (congrArg some (by kernel_rfl))⟩
  f17 := ⟨Tryz.f151.name, by decide, Tryz.func151.trans (congrArg some (by kernel_rfl))⟩
  f18 := ⟨Tryz.f152.name, by decide, Tryz.func152.trans (congrArg some (by kernel_rfl))⟩
  f19 := Tryz.func153.trans (congrArg some (by kernel_rfl))
  f20 := Tryz.func154.trans (congrArg some (by kernel_rfl))
  f30 := ⟨Tryz.f175.name, by decide, Tryz.func175.trans (congrArg some (by kernel_rfl))⟩
  f31 := Tryz.func176.trans (congrArg some (by kernel_rfl))
  f32 := Tryz.func177.trans (congrArg some (by kernel_rfl))
  f33 := ⟨Tryz.f178.name, by decide, Tryz.func178.trans (congrArg some (by kernel_rfl))⟩
  f34 := ⟨Tryz.f179.name, by decide, Tryz.func179.trans (congrArg some (by kernel_rfl))⟩
  f35 := ⟨Tryz.f180.name, by decide, Tryz.func180.trans (congrArg some (by kernel_rfl))⟩
  f40 := ⟨Tryz.f187.name, by decide, Tryz.func187.trans (congrArg some (by kernel_rfl))⟩
  t0 := Tryz.underlying0
  a0 := Tryz.isAgg0
  z0 := Tryz.sizeOf0
  v0 := Tryz.zeroValue0
  t3 := Tryz.underlying3
  a3 := Tryz.isAgg3
  z3 := Tryz.sizeOf3
  v3 := Tryz.zeroValue3
  t4 := Tryz.underlying4
  a4 := Tryz.isAgg4
  z4 := Tryz.sizeOf4
  v4 := Tryz.zeroValue4
  t5 := Tryz.underlying5
  a5 := Tryz.isAgg5
  z5 := Tryz.sizeOf5
  v5 := Tryz.zeroValue5
  t9 := Tryz.underlying9
  a9 := Tryz.isAgg9
  z9 := Tryz.sizeOf9
  v9 := Tryz.zeroValue9
  t22 := Tryz.underlying22
  a22 := Tryz.isAgg22
  z22 := Tryz.sizeOf22
  v22 := Tryz.zeroValue22
  t23 := Tryz.underlying22
  a23 := Tryz.isAgg22
  z23 := Tryz.sizeOf22
  v23 := Tryz.zeroValue22
  t25 := Tryz.underlying3
  a25 := Tryz.isAgg3
  z25 := Tryz.sizeOf3
  v25 := Tryz.zeroValue3
  t32 := Tryz.underlying152
  a32 := Tryz.isAgg152
  z32 := Tryz.sizeOf152
  v32 := Tryz.zeroValue152
  t35 := Tryz.underlying192
  a35 := Tryz.isAgg192
  z35 := Tryz.sizeOf192
  v35 := Tryz.zeroValue192
  t36 := Tryz.underlying193
  a36 := Tryz.isAgg193
  z36 := Tryz.sizeOf193
  v36 := Tryz.zeroValue193
  t41 := Tryz.underlying198
  a41 := Tryz.isAgg198
  z41 := Tryz.sizeOf198
  v41 := Tryz.zeroValue198
  t44 := Tryz.underlying201
  a44 := Tryz.isAgg201
  z44 := Tryz.sizeOf201
  v44 := Tryz.zeroValue201
  t46 := Tryz.underlying203
  a46 := Tryz.isAgg203
  z46 := Tryz.sizeOf203
  v46 := Tryz.zeroValue203
  t53 := Tryz.underlying223
  a53 := Tryz.isAgg223
  z53 := Tryz.sizeOf223
  v53 := Tryz.zeroValue223
  t57 := Tryz.underlying227
  a57 := Tryz.isAgg227
  z57 := Tryz.sizeOf227
  v57 := Tryz.zeroValue227
  t63 := Tryz.underlying236
  a63 := Tryz.isAgg236
  z63 := Tryz.sizeOf236
  v63 := Tryz.zeroValue236
  t64 := Tryz.underlying237
  a64 := Tryz.isAgg237
  z64 := Tryz.sizeOf237
  v64 := Tryz.zeroValue237 }

/-- Ascending. -/
def srt (xs : List Int) : List Int := xs.mergeSort fun x y => decide (x ≤ y)
theorem srt_length (xs : List Int) : (srt xs).length = xs.length := by simp [srt]

/-- slices.Sort at a list of one's own. -/
theorem sort_own (B : Nat) (v : Value) (xs : List Int) (w : World) (h : OwnI B w v xs) (hl : xs.length ≤ 17592186044416) (hB : B ≤ w.heap.size) :
    Calls Tryz.prog 62 #[v] w fun e w' => e = .returned (.tuple #[]) ∧ OwnI B w' v (srt xs) ∧ Below B w w' := by
  rcases h.2 with ⟨rfl, hn⟩ | ⟨g, cap, cur, rfl, hb, hg, hn, hcm, hs, ht⟩
  · obtain rfl := List.length_eq_zero_iff.1 hn
    refine Calls.mono (AnyM.slices_Sort_int_none Tryz.laysSort none 0 w) ?_
    rintro e w' ⟨rfl, rfl⟩
    exact ⟨rfl, by simpa [srt] using h, Below.refl _ _⟩
  · have hlen : xs.length < 4611686018427387904 := by omega
    refine Calls.mono (AnyM.slices_Sort_int Tryz.laysSort g 0 cap xs w (holds_of_block_i hg (by simpa using ht)) (Array.getElem?_eq_some_iff.1 hg).1 hlen) ?_
    rintro e w' ⟨rfl, n, os, rfl⟩
    refine ⟨rfl, ?_, (Below.refl _ _).grown (grownBy_sorted_i _) hB (fun j hj => by cases hj; exact hb)⟩
    have := ownsRow_sorted_i (n := n) (os := os) (ts := srt xs) (srt_length xs) hb hg hn hcm hs
    unfold OwnI
    rw [srt_length]
    exact this

theorem sorted_any (Bs : Nat) (v : Value) (zs : List Int) (hlen : zs.length ≤ 17592186044416) (w : World) (hBs : Bs < w.heap.size) (hc : w.cell? ⟨Bs, 0, none⟩ = some v) (hv : IntsAt w v zs) :
    Calls Tryz.prog 185 #[.func (.func 189) #[] #[.pointer (some ⟨Bs, 0, none⟩)]] w (Ret1 (fun x w' => OwnI w.heap.size w' x (srt zs)) w) := by
  have hA := collect_any Bs v zs hlen w hBs hc hv
  go_enter Tryz.func185, Tryz.ntmps185
  go_wp2_with fail
  refine hA.mono ?_
  clear hA
  rintro e w1 ⟨x, rfl, hb, ho⟩
  have hs := hb.size
  go_wp2_with fail
  refine (sort_own w.heap.size x zs _ ho hlen hs).mono ?_
  rintro e w2 ⟨rfl, ho2, hb2⟩
  replace ho2 := Lib.hid ho2
  go_wp2
  go_ret
  exact ⟨_, rfl, hb.trans hb2, ho2.out⟩
end Go.Proofs.YtmhiambkfdkkbaaGreatDoor

namespace Go.Proofs.YtmhiambkfdkkbaaGreatDoor
open Go.RowKit Go.Shelf
set_option maxRecDepth 100000

def Tryz.laysRev_ren : Go.Shelf.Ren := ⟨fun | 112 => 106 | n => n, fun | 28 => 22 | 3 => 3 | 4 => 4 | 0 => 0 | n => n, fun | n => n⟩
theorem Tryz.laysRev : Go.Proofs.Lays.n112 Tryz.prog Tryz.laysRev_ren := {
  mixed := by kernel_rfl
  f112 := Tryz.func106.trans (congrArg some (by kernel_rfl))
  t0 := Tryz.underlying0
  a0 := Tryz.isAgg0
  z0 := Tryz.sizeOf0
  v0 := Tryz.zeroValue0
  t3 := Tryz.underlying3
  a3 := Tryz.isAgg3
  z3 := Tryz.sizeOf3
  v3 := Tryz.zeroValue3
  t4 := Tryz.underlying4
  a4 := Tryz.isAgg4
  z4 := Tryz.sizeOf4
  v4 := Tryz.zeroValue4
  t28 := Tryz.underlying22
  a28 := Tryz.isAgg22
  z28 := Tryz.sizeOf22
  v28 := Tryz.zeroValue22 }

theorem setCells_own {B g n cap : Nat} {w0 : World} : ∀ (zs : List Int) (o : Nat) (xs : List Int) (w : World), xs.length = n → o + zs.length ≤ n → OwnI B w (.slice (some ⟨g, 0, none⟩) n cap) xs → Below B w0 w →
    OwnI B (w.setCells g o (zs.map (Value.int .i64))) (.slice (some ⟨g, 0, none⟩) n cap) (xs.take o ++ zs ++ xs.drop (o + zs.length)) ∧ Below B w0 (w.setCells g o (zs.map (Value.int .i64)))
  | [], o, xs, w, _, _, h, hb => ⟨by simpa [World.setCells] using h, hb⟩
  | z :: r, o, xs, w, hn, ho, h, hb => by
    have hol : o < xs.length := by simp at ho; omega
    have h1 := h.set o hol z
    have h2 := h.setBelow hb o hol (.int .i64 z)
    rw [valAt_row] at h1 h2
    have ih := setCells_own r (o + 1) (xs.set o z) _ (by simpa using hn) (by simp at ho; omega) h1 h2
    have e : (xs.set o z).take (o + 1) ++ r ++ (xs.set o z).drop (o + 1 + r.length) = xs.take o ++ (z :: r) ++ xs.drop (o + (z :: r).length) := by
      rw [List.take_set, List.drop_set_of_lt (by omega)]
      rw [show (xs.take (o + 1)).set o z = xs.take o ++ [z] by rw [take_snoc xs o hol, List.set_append_right _ _ (by simp; omega)]; simp [show o - min o xs.length = 0 by omega]]
      simp [show o + 1 + r.length = o + (r.length + 1) by omega]
    rw [e] at ih
    exact ih

/-- slices.Reverse at a list of one's own. -/
theorem reverse_own (B : Nat) (v : Value) (xs : List Int) (w : World) (h : OwnI B w v xs) (hl : xs.length ≤ 9223372036854775807) :
    Calls Tryz.prog 106 #[v] w fun e w' => e = .returned (.tuple #[]) ∧ OwnI B w' v xs.reverse ∧ Below B w w' := by
  rcases h.2 with ⟨rfl, hn⟩ | ⟨g, cap, cur, rfl, hb, hg, hn, hm, hs, ht⟩
  · obtain rfl := List.length_eq_zero_iff.1 hn
    refine Calls.mono (Any.slices_Reverse_int_empty Tryz.laysRev none 0 w) ?_
    rintro e w' ⟨rfl, rfl⟩
    exact ⟨rfl, h, Below.refl _ _⟩
  · refine Calls.mono (Any.slices_Reverse_int_cells Tryz.laysRev g 0 xs.length cap xs w (Nat.le_refl _) hl (fun j hj => ?_) (fun j hj => ?_)) ?_
    · have := h.at.cellD j hj
      rw [valAt_row] at this
      simpa using this
    · have := h.frz j hj
      rw [valAt_row] at this
      simpa using this
    · rintro e w' ⟨rfl, q, rfl⟩
      rw [List.take_length]
      have := setCells_own (w0 := w) xs.reverse 0 xs (w.drewN q) rfl (by simp) (h.drewN q) (below_drewN (Below.refl _ _) q)
      simp at this
      simpa using ⟨this.1, this.2⟩

end Go.Proofs.YtmhiambkfdkkbaaGreatDoor

namespace Go.Proofs.YtmhiambkfdkkbaaGreatDoor
open Go.RowKit
set_option maxRecDepth 100000

/-- Plain numbers as ints. -/
def castI (l : List Nat) : List Int := l.map fun (x : Nat) => (x : Int)
theorem castI_len (l : List Nat) : (castI l).length = l.length := by simp [castI]
theorem castI_snoc (l : List Nat) (x : Nat) : castI (l ++ [x]) = castI l ++ [(x : Int)] := by simp [castI]
theorem castI_get {l : List Nat} {i x : Nat} (h : l[i]? = some x) : (castI l).getD i 0 = (x : Int) := by simp [castI, List.getD, h]
theorem castI_reverse (l : List Nat) : castI l.reverse = (castI l).reverse := by simp [castI]
theorem nodup_len : ∀ (n : Nat) (l : List Nat), l.Nodup → (∀ x ∈ l, x < n) → l.length ≤ n
  | 0, l, _, h => by
    cases l with
    | nil => exact Nat.le_refl _
    | cons a l => have := h a List.mem_cons_self; omega
  | n + 1, l, hn, h => by
    have hsub := nodup_len n (l.erase n) (hn.erase n) (fun x hx => by
      have h1 := h x (List.mem_of_mem_erase hx)
      have h2 : x ≠ n := fun e => by subst e; exact (List.Nodup.not_mem_erase hn) hx
      omega)
    have : l.length ≤ (l.erase n).length + 1 := by
      by_cases hm : n ∈ l
      · have := List.length_erase_of_mem hm; omega
      · rw [List.erase_of_not_mem hm]; omega
    omega
/-- The arrows from the least on, as plain numbers. -/
def srtN (l : List Int) : List Nat := (srt l).map Int.toNat
theorem srt_mem (l : List Int) (x : Int) : x ∈ srt l ↔ x ∈ l := by unfold srt; exact (List.mergeSort_perm l _).mem_iff
theorem srt_sorted (l : List Int) : (srt l).Pairwise (· ≤ ·) := by
  have := List.pairwise_mergeSort (le := fun (x y : Int) => decide (x ≤ y)) (fun a b c h1 h2 => by simp at *; omega) (fun a b => by simp; omega) l
  unfold srt
  exact this.imp (fun h => by simpa using h)
theorem srtN_sorted (l : List Int) (hp : ∀ x ∈ l, 0 ≤ x) : (srtN l).Pairwise (· ≤ ·) := by
  unfold srtN
  rw [List.pairwise_map]
  refine (srt_sorted l).imp_of_mem fun {a b} ha hb h => ?_
  have := hp a ((srt_mem l a).1 ha)
  omega
theorem srtN_mem (l : List Int) (t : Nat) : t ∈ srtN l ↔ t ∈ l.map Int.toNat := by
  unfold srtN
  simp only [List.mem_map, srt_mem]
theorem srtN_len (l : List Int) : (srtN l).length = l.length := by simp [srtN, srt_length]
theorem srtN_get (l : List Int) (hp : ∀ x ∈ l, 0 ≤ x) (j : Nat) (hj : j < l.length) : (srt l).getD j 0 = ((srtN l).getD j 0 : Int) := by
  have hj' : j < (srt l).length := by rw [srt_length]; exact hj
  have h0 := hp _ ((srt_mem l _).1 (List.getElem_mem hj'))
  simp only [srtN, List.getD_eq_getElem?_getD, List.getElem?_map, List.getElem?_eq_getElem hj', Option.map_some, Option.getD_some]
  omega

theorem tabI_neg1 (n : Nat) : tabI n (fun _ => -1) = List.replicate n (-1) := by
  unfold tabI; apply List.ext_getElem <;> simp
theorem rowsE (B : Nat) (w : World) : Rows B w (fun _ => none) := ⟨fun _ _ h => (by cases h), fun _ _ _ _ h => (by cases h)⟩
/-- What first leaves. -/
def FirstPost (w : World) (adj : Nat → List Nat) (a b : Nat) (x : Value) (w' : World) : Prop :=
  (∃ u, IsFirst adj a b u ∧ OwnI w.heap.size w' x (castI u)) ∨ (¬ Goes adj a b ∧ x = .slice none 0 0)
/-- The search's memory. -/
structure FN (f : Names) (cv qv : Value) (n : Nat) (came : Nat → Int) (q : List Nat) : Prop where
  came : f (1, 0) = some (rowI cv (tabI n came))
  queue : f (2, 0) = some (rowI qv (castI q))
section
variable {B : Nat} {w : World} {f : Names} {cv qv : Value} {n : Nat} {came : Nat → Int} {q : List Nat}
theorem FN.congr {f' : Names} (h : FN f cv qv n came q) (e1 : f' (1, 0) = f (1, 0)) (e2 : f' (2, 0) = f (2, 0)) : FN f' cv qv n came q := ⟨e1.trans h.came, e2.trans h.queue⟩
/-- came[t] = v. -/
theorem FN.set (h : FN f cv qv n came q) (hr : Rows B w f) (t : Nat) (ht : t < n) (v : Int) : ∃ f', Rows B (w.setCell (valAt cv t) (.int .i64 v)) f' ∧ FN f' cv qv n (updN came t v) q ∧ ∀ i, i ≠ (1, 0) → f' i = f i := by
  have hs := hr.setI h.came t (by rw [tabI_len]; exact ht) v
  rw [tabI_upd] at hs
  exact ⟨_, hs, ⟨upd_same _ _ _, by rw [upd_ne _ _ (by simp)]; exact h.queue⟩, fun i hi => upd_ne _ _ hi⟩
/-- queue = append(queue, t). -/
theorem FN.push (h : FN f cv qv n came q) (hr : Rows B w f) {w1 : World} {qv' : Value} (t : Nat) (ho : OwnI B w1 qv' (castI q ++ [(t : Int)]))
    (hal : (roomOf qv' = roomOf qv ∧ w.grownBy w1 qv.ownBlock) ∨ (∃ k, qv'.ownBlock = some k ∧ w.heap.size ≤ k ∧ w.grownBy w1 none)) : ∃ f', Rows B w1 f' ∧ FN f' cv qv' n came (q ++ [t]) ∧ ∀ i, i ≠ (2, 0) → f' i = f i := by
  have hO := hr.ownI h.queue
  have hg : w.grownBy w1 qv.ownBlock := grown_via (hal.imp (·.2) (fun ⟨_, _, _, q⟩ => q))
  have hob : qv'.ownBlock = qv.ownBlock ∨ ∃ k, qv'.ownBlock = some k ∧ w.heap.size ≤ k := by
    rcases hal with ⟨q, _⟩ | ⟨k, h1, h2, _⟩
    · obtain ⟨a1, n1, c1, e1⟩ := hO.at.shape
      obtain ⟨a2, n2, c2, e2⟩ := ho.at.shape
      exact .inl (ownBlock_of_room e1 e2 q)
    · exact .inr ⟨k, h1, h2⟩
  exact ⟨_, hr.grown (r' := rowI qv' (castI q ++ [(t : Int)])) h.queue hg ho hob, ⟨by rw [upd_ne _ _ (by simp)]; exact h.came, by rw [upd_same, castI_snoc]⟩, fun i hi => upd_ne _ _ hi⟩
end

set_option maxHeartbeats 4000000 in
theorem first_any (na : Option Addr) (nc : Nat) (G : List (List Int)) (a b : Nat) (w : World) (h : ListsAt w (.slice na G.length nc) G) (hok : GraphOk G) (hn : G.length ≤ 8200) (ha : a < G.length) (hb : b < G.length) (hsz : ∀ k, k < G.length → (G.getD k []).length ≤ 17592186044416) :
    Calls Tryz.prog 164 #[.slice na G.length nc, .int .i64 a, .int .i64 b] w (Ret1 (FirstPost w (adjOf G) a b) w) := by
  have b0 := belowAlloc w (.cells #[.int .i64 (-1)] 3)
  have hI := (OwnI.lit w.heap.size w (Nat.le_refl _) [-1] (by simp [maxLen]) #[.int .i64 (-1)] rfl 1 rfl).at
  have hRep := repeat_any _ (-1) G.length _ hI (by omega)
  have hinit := BBase.init (adjOf G) a
  replace hI := Lib.hid hI
  replace h := Lib.hid h
  replace hok := Lib.hid hok
  replace hsz := Lib.hid hsz
  replace hinit := Lib.hid hinit
  replace hRep := Lib.hid hRep
  go_enter Tryz.func164, Tryz.ntmps164
  go_wp2_with fail
  refine hRep.out.mono ?_
  rintro e w1 ⟨cv, rfl, b1, hcv⟩
  obtain ⟨w0, hw0⟩ : ∃ w0 : World, w0 = w.alloc (.cells #[.int .i64 (-1)] 3) := ⟨_, rfl⟩
  rw [← hw0] at b0 b1 hcv
  rw [← tabI_neg1] at hcv
  clear hRep hI hw0
  have b01 := Below.step b0 b1
  have R1 := (rowsE w.heap.size w0).add (i := (1, 0)) (r' := rowI cv (tabI G.length fun _ => -1)) b1 (hcv.mono b0.size) (fun k hk => (hcv.lt k hk).1)
  have iA := fun w' => hcv.at.idx a (by rw [tabI_len]; exact ha) w'
  have cA := hcv.at.cellD a (by rw [tabI_len]; exact ha)
  have fA := hcv.frz a (by rw [tabI_len]; exact ha)
  have kA := (hcv.toV.blkB a (by rw [List.length_map, tabI_len]; exact ha)).2
  have R2 := R1.setI (upd_same _ _ _) a (by rw [tabI_len]; exact ha) (a : Int)
  rw [tabI_upd] at R2
  have b2 : Below w.heap.size w (w1.setCell (valAt cv a) (.int .i64 (a : Int))) := b01.setCell (Nat.le_trans b0.size kA) _
  generalize valAt cv a = ca at *
  generalize (tabI G.length fun _ => -1).getD a 0 = oa at cA
  obtain ⟨W2, hW2⟩ : ∃ W2 : World, W2 = w1.setCell ca (.int .i64 (a : Int)) := ⟨_, rfl⟩
  rw [← hW2] at R2 b2
  replace R2 := Lib.hid R2
  replace R1 := Lib.hid R1
  replace hcv := Lib.hid hcv
  go_upto_region 3 with fail
  rw [← hW2]
  clear hW2 iA cA fA
  have hB2 := b2.size
  have hal2 := belowAlloc W2 (.cells #[.int .i64 (a : Int)] 3)
  have hq2 := OwnI.lit W2.heap.size W2 (Nat.le_refl _) [(a : Int)] (by simp [maxLen]) #[.int .i64 (a : Int)] rfl 1 rfl
  have R3 := R2.out.add (i := (2, 0)) (r' := rowI (.slice (some ⟨W2.heap.size, 0, none⟩) 1 1) [(a : Int)]) hal2 (hq2.mono hB2) (fun k hk => (hq2.lt k hk).1)
  have b3 := b2.trans (hal2.mono hB2)
  obtain ⟨W3, hW3⟩ : ∃ W3 : World, W3 = W2.alloc (.cells #[.int .i64 (a : Int)] 3) := ⟨_, rfl⟩
  rw [← hW3] at R3 b3
  obtain ⟨q2, hq2e⟩ : ∃ q2, q2 = W2.heap.size := ⟨_, rfl⟩
  rw [← hq2e] at R3
  have hF0 : FN (upd (upd (upd (fun _ => none) (1, 0) (some (rowI cv (tabI G.length fun _ => -1)))) (1, 0) (some (rowI cv (tabI G.length (updN (fun _ => (-1 : Int)) a (a : Int)))))) (2, 0) (some (rowI (.slice (some ⟨q2, 0, none⟩) 1 1) [(a : Int)]))) cv (.slice (some ⟨q2, 0, none⟩) 1 1) G.length (updN (fun _ => (-1 : Int)) a (a : Int)) [a] :=
    ⟨by rw [upd_ne _ _ (by simp), upd_same], by rw [upd_same]; rfl⟩
  replace R3 := Lib.hid R3
  replace hq2 := Lib.hid hq2
  go_wp2_with fail
  rw [← hW3, ← hq2e]
  clear hW3 hq2e R2 R1 hal2 hq2
  go_loopw [8, 9] (fun qv iv wr => ∃ (i : Nat) (came : Nat → Int) (q : List Nat) (par dist : Nat → Nat) (f' : Names) (qw : Value), qw = qv ∧ iv = .int .i64 i ∧ i ≤ q.length ∧ Rows w.heap.size wr f' ∧ Below w.heap.size w wr ∧ FN f' cv qw G.length came q ∧ BOut (adjOf G) a came q par dist i ∧ ∀ x ∈ q, x < G.length) (fun _ iv _ => G.length + 1 - (intOf iv).toNat)
  case atStart => exact ⟨0, _, [a], _, _, _, _, rfl, rfl, by omega, R3.out, b3, hF0, hinit.out, fun x hx => by cases List.mem_singleton.1 hx; exact ha⟩
  case round =>
    obtain ⟨i, came, q, par, dist, f1, qv, rfl, rfl, hi, hr1, b1', h1, hO, hqn⟩ := hrel
    obtain ⟨wo, rfl⟩ : ∃ wo : World, wo = wr := ⟨_, rfl⟩
    have hql := nodup_len G.length q hO.nodup hqn
    have hOQ := hr1.ownI h1.queue
    have lQ := hOQ.at.len
    rw [castI_len] at lQ
    have hOC := hr1.ownI h1.came
    have iB := fun w' => hOC.at.idx b (by rw [tabI_len]; exact hb) w'
    have cB := hOC.at.cellD b (by rw [tabI_len]; exact hb)
    rw [tabI_get _ _ _ hb] at cB
    generalize valAt cv b = pb at *
    obtain ⟨cb, hcb⟩ : ∃ cb, came b = cb := ⟨_, rfl⟩
    rw [hcb] at cB
    by_cases hil : i < q.length
    · by_cases hneg : cb < 0
      · obtain ⟨v, hv⟩ : ∃ v, q[i]? = some v := ⟨_, List.getElem?_eq_getElem hil⟩
        have hvn := hqn v (List.mem_of_getElem? hv)
        have iV := fun w' => hOQ.at.idx i (by rw [castI_len]; exact hil) w'
        have cV := hOQ.at.cellD i (by rw [castI_len]; exact hil)
        rw [castI_get hv] at cV
        obtain ⟨mv, iR, cR, hM⟩ := (h.out.below (b1' : Below w.heap.size w wo)).row v hvn
        have hgx := hsz.out v hvn
        have hgp : ∀ x ∈ G.getD v [], 0 ≤ x ∧ x < G.length := hok.out v hvn
        have hadj : adjOf G v = (G.getD v []).map Int.toNat := rfl
        generalize G.getD v [] = gx at *
        obtain ⟨ma, mn, mc, rfl⟩ := hM.shape
        generalize valAt qv i = qa at *
        generalize valAt (.slice na G.length nc) v = ra at *
        replace hcb := Lib.hid hcb
        replace hr1 := Lib.hid hr1
        replace hOQ := Lib.hid hOQ
        replace hOC := Lib.hid hOC
        replace hM := Lib.hid hM
        replace hO := Lib.hid hO
        replace hqn := Lib.hid hqn
        replace hgp := Lib.hid hgp
        replace hadj := Lib.hid hadj
        replace hv := Lib.hid hv
        go_wp2_with fail
        refine (vals_any ma mn mc _).mono ?_
        rintro e w2 ⟨rfl, rfl⟩
        have hbv := belowAlloc wo (.cells #[.slice ma mn mc] 22)
        clear iB cB iV cV iR cR
        go_wp2_with fail
        refine (sorted_any wo.heap.size (.slice ma mn mc) gx hgx _ (by simp) (by simp) (hM.out.below hbv)).mono ?_
        rintro e w3 ⟨lv, rfl, b3', hL⟩
        have b4 : Below wo.heap.size wo w3 := hbv.trans (b3'.mono hbv.size)
        have hBo : w.heap.size ≤ wo.heap.size := b1'.size
        have R4 := hr1.out.add (i := (3, 0)) (r' := rowI lv (srt gx)) b4 (hL.mono (Nat.le_trans hBo hbv.size)) (fun k hk => Nat.le_trans hbv.size (hL.lt k hk).1)
        have h4 : FN (upd f1 (3, 0) (some (rowI lv (srt gx)))) cv qv G.length came q := h1.congr (upd_ne _ _ (by simp)) (upd_ne _ _ (by simp))
        have e4 : upd f1 (3, 0) (some (rowI lv (srt gx))) (3, 0) = some (rowI lv (srt gx)) := upd_same _ _ _
        have b5 := b1'.trans (b4.mono hBo)
        have hIn := hO.out.enter hv.out (l := (srtN gx).drop 0) (fun t => by rw [List.drop_zero, hadj.out]; exact srtN_mem gx t) (by rw [List.drop_zero]; exact srtN_sorted gx fun x hx => (hgp.out x hx).1)
        have lL := hL.at.len
        have hsl : (srt gx).length = gx.length := srt_length gx
        generalize upd f1 (3, 0) (some (rowI lv (srt gx))) = f4 at *
        replace R4 := Lib.hid R4
        replace hIn := Lib.hid hIn
        replace hL := Lib.hid hL
        replace e4 := Lib.hid e4
        go_wp2_with fail
        clear lL lQ
        go_loopw [8, 49] (fun qv jv wr => ∃ (j : Nat) (came : Nat → Int) (q : List Nat) (par dist : Nat → Nat) (f' : Names) (qw : Value), qw = qv ∧ jv = .int .i64 j ∧ j ≤ gx.length ∧ Rows w.heap.size wr f' ∧ Below w.heap.size w wr ∧ FN f' cv qw G.length came q ∧ f' (3, 0) = some (rowI lv (srt gx)) ∧ BIn (adjOf G) a came q par dist i v ((srtN gx).drop j) ∧ ∀ x ∈ q, x < G.length) (fun _ jv _ => gx.length - (intOf jv).toNat)
        case atStart => exact ⟨0, came, q, par, dist, f4, qv, rfl, rfl, by omega, R4.out, b5, h4, e4.out, hIn.out, hqn.out⟩
        case round =>
          clear hIn R4 e4 h4 b5 h1 hi hil hO hqn hv hOQ hOC hneg hcb
          obtain ⟨j, came, q, par, dist, f4, qv, rfl, rfl, hj, hr4, b5, h4, e4, hIn, hqn⟩ := hrel
          obtain ⟨wo, rfl⟩ : ∃ wo : World, wo = wr := ⟨_, rfl⟩
          have hOL := hr4.ownI e4
          have lL := hOL.at.len
          rw [hsl] at lL
          by_cases hjl : j < gx.length
          · have hjs : j < (srtN gx).length := by rw [srtN_len]; exact hjl
            obtain ⟨t, ht⟩ : ∃ t, (srtN gx)[j]? = some t := ⟨_, List.getElem?_eq_getElem hjs⟩
            have htd : (srtN gx).getD j 0 = t := by simp [List.getD, ht]
            have hdr : (srtN gx).drop j = t :: (srtN gx).drop (j + 1) := by
              rw [List.drop_eq_getElem_cons hjs]
              rw [List.getElem?_eq_getElem hjs] at ht
              injection ht with ht
              rw [ht]
            have htn : t < G.length := by
              have hm := (srtN_mem gx t).1 (List.mem_of_getElem? ht)
              obtain ⟨x, hx, rfl⟩ := List.mem_map.1 hm
              have := hgp.out x hx
              omega
            have iT := fun w' => hOL.at.idx j (by rw [hsl]; exact hjl) w'
            have cT := hOL.at.cellD j (by rw [hsl]; exact hjl)
            rw [srtN_get gx (fun x hx => (hgp.out x hx).1) j hjl, htd] at cT
            rw [hdr] at hIn
            have hOC := hr4.ownI h4.came
            have iC := fun w' => hOC.at.idx t (by rw [tabI_len]; exact htn) w'
            have cC := hOC.at.cellD t (by rw [tabI_len]; exact htn)
            rw [tabI_get _ _ _ htn] at cC
            have fC := hOC.frz t (by rw [tabI_len]; exact htn)
            have kC := (hOC.toV.blkB t (by rw [List.length_map, tabI_len]; exact htn)).2
            obtain ⟨f5, hr5, h5, k5⟩ := h4.set hr4 t htn (v : Int)
            have e5 : f5 (3, 0) = some (rowI lv (srt gx)) := (k5 _ (by simp)).trans e4
            have b6 : Below w.heap.size w (wo.setCell (valAt cv t) (.int .i64 (v : Int))) := b5.setCell kC _
            generalize valAt lv j = la at *
            generalize valAt cv t = ta at *
            obtain ⟨ct, hct⟩ : ∃ ct, came t = ct := ⟨_, rfl⟩
            rw [hct] at cC
            by_cases htc : ct < 0
            · have hadd := hIn.add (by rw [hct]; exact htc)
              have hqn2 : ∀ x ∈ q ++ [t], x < G.length := fun x hx => by
                rcases List.mem_append.1 hx with hx | hx
                · exact hqn x hx
                · cases List.mem_singleton.1 hx; exact htn
              have hql2 := nodup_len G.length q hIn.base.nodup hqn
              replace hadd := Lib.hid hadd
              replace hqn2 := Lib.hid hqn2
              replace hIn := Lib.hid hIn
              replace hqn := Lib.hid hqn
              replace hr4 := Lib.hid hr4
              replace hr5 := Lib.hid hr5
              replace hOC := Lib.hid hOC
              replace hOL := Lib.hid hOL
              replace hct := Lib.hid hct
              replace hdr := Lib.hid hdr
              replace htd := Lib.hid htd
              replace ht := Lib.hid ht
              replace k5 := Lib.hid k5
              replace e4 := Lib.hid e4
              replace e5 := Lib.hid e5
              go_upto_region 13 with fail
              obtain ⟨W5, hW5⟩ : ∃ W5 : World, W5 = wo.setCell ta (.int .i64 (v : Int)) := ⟨_, rfl⟩
              rw [← hW5]
              rw [← hW5] at hr5 b6
              clear hW5 iT cT iC cC fC lL
              have hOQ5 := hr5.out.ownI h5.queue
              have hB5 : w.heap.size ≤ W5.heap.size := b6.size
              go_wp2_with (at_builtin; refine wpl_app1 rfl _ _ rfl w.heap.size qv (castI q) t hOQ5 rfl rfl (by rw [castI_len]; omega) hB5 ?_)
              intro qv' w7 ho7 b7 hal7
              obtain ⟨f7, hr7, h7, k7⟩ := h5.push hr5.out t ho7 hal7
              replace hr7 := Lib.hid hr7
              replace ho7 := Lib.hid ho7
              replace k7 := Lib.hid k7
              clear hal7
              go_wp2
              go_roundw
              case measure => simp [intOf]; omega
              case rel => exact ⟨j + 1, _, _, _, _, f7, qv', rfl, by go_num, by omega, hr7.out, b6.trans b7, h7, (k7.out _ (by simp)).trans e5.out, hadd.out, hqn2.out⟩
            · have hold := hIn.old (by rw [hct]; omega)
              replace hold := Lib.hid hold
              replace hIn := Lib.hid hIn
              replace hqn := Lib.hid hqn
              replace hr4 := Lib.hid hr4
              replace hr5 := Lib.hid hr5
              replace hOC := Lib.hid hOC
              replace hOL := Lib.hid hOL
              replace hct := Lib.hid hct
              replace hdr := Lib.hid hdr
              replace htd := Lib.hid htd
              replace ht := Lib.hid ht
              replace k5 := Lib.hid k5
              replace e4 := Lib.hid e4
              replace e5 := Lib.hid e5
              go_wp2
              go_roundw
              case measure => simp [intOf]; omega
              case rel => exact ⟨j + 1, came, q, par, dist, f4, qv, rfl, by go_num, by omega, hr4.out, b5, h4, e4.out, hold.out, hqn.out⟩
          · obtain rfl : j = gx.length := by omega
            rw [List.drop_eq_nil_of_le (by rw [srtN_len]; exact Nat.le_refl _)] at hIn
            have hOut := hIn.leave
            have hil := get_of hIn.cur
            have hql2 := nodup_len G.length q hIn.base.nodup hqn
            replace hOut := Lib.hid hOut
            replace hIn := Lib.hid hIn
            replace hqn := Lib.hid hqn
            replace hr4 := Lib.hid hr4
            replace hOL := Lib.hid hOL
            replace e4 := Lib.hid e4
            go_wp2
            go_roundw
            case measure => simp [intOf]; omega
            case rel => exact ⟨i + 1, came, q, par, dist, f4, qv, rfl, by go_num, by omega, hr4.out, b5, h4, hOut.out, hqn.out⟩
      · have hcb0 : ¬ came b < 0 := by rw [hcb]; exact hneg
        have hbq := (hO.cameIff b).1 (by omega)
        obtain ⟨k0, hk0⟩ := List.mem_iff_getElem?.1 hbq
        have hlit := OwnI.lit wo.heap.size wo (Nat.le_refl _) [(b : Int)] (by simp [maxLen]) #[.int .i64 (b : Int)] rfl 1 rfl
        have halw := belowAlloc wo (.cells #[.int .i64 (b : Int)] 3)
        have hBo : w.heap.size ≤ wo.heap.size := b1'.size
        have R8 := hr1.add (i := (4, 0)) (r' := rowI (.slice (some ⟨wo.heap.size, 0, none⟩) 1 1) (castI [b].reverse)) halw (hlit.mono hBo) (fun k hk => (hlit.lt k hk).1)
        have b8 := b1'.trans (halw.mono hBo)
        have hcame8 : (upd f1 (4, 0) (some (rowI (.slice (some ⟨wo.heap.size, 0, none⟩) 1 1) (castI [b].reverse)))) (1, 0) = some (rowI cv (tabI G.length came)) := (upd_ne _ _ (by simp)).trans h1.came
        have hway8 := upd_same f1 (4, 0) (some (rowI (.slice (some ⟨wo.heap.size, 0, none⟩) 1 1) (castI [b].reverse)))
        generalize upd f1 (4, 0) (some (rowI (.slice (some ⟨wo.heap.size, 0, none⟩) 1 1) (castI [b].reverse))) = f8 at *
        obtain ⟨W8, hW8⟩ : ∃ W8 : World, W8 = wo.alloc (.cells #[.int .i64 (b : Int)] 3) := ⟨_, rfl⟩
        obtain ⟨s8, hs8⟩ : ∃ s8, s8 = wo.heap.size := ⟨_, rfl⟩
        rw [← hW8] at R8 b8
        rw [← hs8] at hway8
        have htree : Tree came q (adjOf G) b b [b] := .one b hbq
        replace hcb := Lib.hid hcb
        replace hr1 := Lib.hid hr1
        replace hOQ := Lib.hid hOQ
        replace hOC := Lib.hid hOC
        replace hO := Lib.hid hO
        replace hqn := Lib.hid hqn
        replace hlit := Lib.hid hlit
        replace R8 := Lib.hid R8
        replace hk0 := Lib.hid hk0
        replace hcame8 := Lib.hid hcame8
        replace hway8 := Lib.hid hway8
        replace htree := Lib.hid htree
        clear halw
        go_wp2_with fail
        rw [← hW8, ← hs8]
        clear hW8 hs8 iB cB lQ
        go_loopg [13, 14] k0 (fun k wv vv wr => ∃ (x : Nat) (u : List Nat) (f' : Names) (ww : Value), ww = wv ∧ vv = .int .i64 x ∧ q[k]? = some x ∧ Tree came q (adjOf G) x b u ∧ Rows w.heap.size wr f' ∧ Below w.heap.size w wr ∧ f' (1, 0) = some (rowI cv (tabI G.length came)) ∧ f' (4, 0) = some (rowI ww (castI u.reverse)) ∧ u.length ≤ G.length + 1 - k)
        case atStart => exact ⟨b, [b], f8, _, rfl, rfl, hk0.out, htree.out, R8.out, b8, hcame8.out, hway8.out, by have := get_of hk0.out; simp only [List.length_cons, List.length_nil]; omega⟩
        case round =>
          clear R8 b8 hcame8 hway8 htree hk0
          obtain ⟨x, u, f9, wv, rfl, rfl, hk, hT, hr9, b9, hc9, hw9, hul⟩ := hrel
          obtain ⟨wo, rfl⟩ : ∃ wo : World, wo = wr := ⟨_, rfl⟩
          obtain ⟨k, rfl⟩ : ∃ k : Nat, k = gk := ⟨_, rfl⟩
          have hxn := hqn.out x (List.mem_of_getElem? hk)
          have hkl := get_of hk
          by_cases hxa : x = a
          · subst hxa
            have hfirst := hO.out.first hT
            have hOW := hr9.ownI hw9
            have hrev := reverse_own w.heap.size wv (castI u.reverse) wo hOW (by rw [castI_len, List.length_reverse]; omega)
            have hrr : (castI u.reverse).reverse = castI u := by rw [castI_reverse, List.reverse_reverse]
            rw [hrr] at hrev
            replace hrev := Lib.hid hrev
            replace hfirst := Lib.hid hfirst
            replace hT := Lib.hid hT
            replace hr9 := Lib.hid hr9
            replace hOW := Lib.hid hOW
            replace hc9 := Lib.hid hc9
            replace hw9 := Lib.hid hw9
            replace hk := Lib.hid hk
            replace hrr := Lib.hid hrr
            go_wp2_with fail
            refine hrev.out.mono ?_
            rintro e w10 ⟨rfl, ho10, b10⟩
            replace ho10 := Lib.hid ho10
            go_wp2
            go_ret
            exact ⟨_, rfl, b9.trans b10, .inl ⟨u, hfirst.out, ho10.out⟩⟩
          · have hk1 : 0 < k := by
              by_cases e : 0 < k
              · exact e
              · obtain rfl : k = 0 := by omega
                have := hO.out.hd
                rw [hk] at this
                injection this with this
                exact absurd this hxa
            obtain ⟨p1, p2, p, p3, p4, p5, p6⟩ := hO.out.parLt k x hk1 hk
            have hT2 := Tree.cons _ _ p3 hk hk1 p4 hT
            have hpn := hqn.out p (List.mem_of_getElem? p3)
            have hne : ((x : Int) != (a : Int)) = true := by rw [bne_iff_ne]; omega
            have hOC9 := hr9.ownI hc9
            have iX := fun w' => hOC9.at.idx x (by rw [tabI_len]; exact hxn) w'
            have cX := hOC9.at.cellD x (by rw [tabI_len]; exact hxn)
            rw [tabI_get _ _ _ hxn, p4] at cX
            have hOW := hr9.ownI hw9
            have hB9 : w.heap.size ≤ wo.heap.size := b9.size
            have hlu : (castI u.reverse).length < 4398046511104 := by rw [castI_len, List.length_reverse]; omega
            have hgrow := fun (w' : World) (wv' : Value) (ho : OwnI w.heap.size w' wv' (castI u.reverse ++ [(p : Int)])) (hal : (roomOf wv' = roomOf wv ∧ wo.grownBy w' wv.ownBlock) ∨ (∃ k, wv'.ownBlock = some k ∧ wo.heap.size ≤ k ∧ wo.grownBy w' none)) => show ∃ f', Rows w.heap.size w' f' ∧ f' (1, 0) = some (rowI cv (tabI G.length came)) ∧ f' (4, 0) = some (rowI wv' (castI (p :: u).reverse)) from by
              have hg : wo.grownBy w' wv.ownBlock := grown_via (hal.imp (·.2) (fun ⟨_, _, _, q⟩ => q))
              have hob : wv'.ownBlock = wv.ownBlock ∨ ∃ k, wv'.ownBlock = some k ∧ wo.heap.size ≤ k := by
                rcases hal with ⟨q, _⟩ | ⟨k, h1, h2, _⟩
                · obtain ⟨a1, n1, c1, e1⟩ := hOW.at.shape
                  obtain ⟨a2, n2, c2, e2⟩ := ho.at.shape
                  exact .inl (ownBlock_of_room e1 e2 q)
                · exact .inr ⟨k, h1, h2⟩
              exact ⟨_, hr9.grown (r' := rowI wv' (castI u.reverse ++ [(p : Int)])) hw9 hg ho hob, by rw [upd_ne _ _ (by simp)]; exact hc9, by rw [upd_same, List.reverse_cons, castI_snoc]⟩
            generalize valAt cv x = xa at *
            replace hgrow := Lib.hid hgrow
            replace hT := Lib.hid hT
            replace hT2 := Lib.hid hT2
            replace hr9 := Lib.hid hr9
            replace hOC9 := Lib.hid hOC9
            replace hc9 := Lib.hid hc9
            replace hw9 := Lib.hid hw9
            replace hk := Lib.hid hk
            replace p3 := Lib.hid p3
            replace p4 := Lib.hid p4
            replace p6 := Lib.hid p6
            go_wp2_with (at_builtin; refine wpl_app1 rfl _ _ rfl w.heap.size wv (castI u.reverse) p hOW rfl rfl hlu hB9 ?_)
            intro wv' w11 ho11 b11 hal11
            obtain ⟨f11, hr11, hc11, hw11⟩ := hgrow.out w11 wv' ho11 hal11
            replace ho11 := Lib.hid ho11
            replace hr11 := Lib.hid hr11
            replace hc11 := Lib.hid hc11
            replace hw11 := Lib.hid hw11
            clear hal11
            go_wp2
            go_roundg (par k)
            case measure => exact p2
            case rel => exact ⟨p, p :: u, f11, wv', rfl, rfl, p3.out, hT2.out, hr11.out, b9.trans b11, hc11.out, hw11.out, by simp only [List.length_cons]; omega⟩
    · by_cases hneg : cb < 0
      · have hnone := hO.none (by omega) (by rw [hcb]; exact hneg)
        replace hnone := Lib.hid hnone
        replace hcb := Lib.hid hcb
        replace hr1 := Lib.hid hr1
        replace hOQ := Lib.hid hOQ
        replace hOC := Lib.hid hOC
        replace hO := Lib.hid hO
        replace hqn := Lib.hid hqn
        go_wp2
        go_ret
        exact ⟨_, rfl, b1', .inr ⟨hnone.out, rfl⟩⟩
      · have hcb0 : ¬ came b < 0 := by rw [hcb]; exact hneg
        have hbq := (hO.cameIff b).1 (by omega)
        obtain ⟨k0, hk0⟩ := List.mem_iff_getElem?.1 hbq
        have hlit := OwnI.lit wo.heap.size wo (Nat.le_refl _) [(b : Int)] (by simp [maxLen]) #[.int .i64 (b : Int)] rfl 1 rfl
        have halw := belowAlloc wo (.cells #[.int .i64 (b : Int)] 3)
        have hBo : w.heap.size ≤ wo.heap.size := b1'.size
        have R8 := hr1.add (i := (4, 0)) (r' := rowI (.slice (some ⟨wo.heap.size, 0, none⟩) 1 1) (castI [b].reverse)) halw (hlit.mono hBo) (fun k hk => (hlit.lt k hk).1)
        have b8 := b1'.trans (halw.mono hBo)
        have hcame8 : (upd f1 (4, 0) (some (rowI (.slice (some ⟨wo.heap.size, 0, none⟩) 1 1) (castI [b].reverse)))) (1, 0) = some (rowI cv (tabI G.length came)) := (upd_ne _ _ (by simp)).trans h1.came
        have hway8 := upd_same f1 (4, 0) (some (rowI (.slice (some ⟨wo.heap.size, 0, none⟩) 1 1) (castI [b].reverse)))
        generalize upd f1 (4, 0) (some (rowI (.slice (some ⟨wo.heap.size, 0, none⟩) 1 1) (castI [b].reverse))) = f8 at *
        obtain ⟨W8, hW8⟩ : ∃ W8 : World, W8 = wo.alloc (.cells #[.int .i64 (b : Int)] 3) := ⟨_, rfl⟩
        obtain ⟨s8, hs8⟩ : ∃ s8, s8 = wo.heap.size := ⟨_, rfl⟩
        rw [← hW8] at R8 b8
        rw [← hs8] at hway8
        have htree : Tree came q (adjOf G) b b [b] := .one b hbq
        replace hcb := Lib.hid hcb
        replace hr1 := Lib.hid hr1
        replace hOQ := Lib.hid hOQ
        replace hOC := Lib.hid hOC
        replace hO := Lib.hid hO
        replace hqn := Lib.hid hqn
        replace hlit := Lib.hid hlit
        replace R8 := Lib.hid R8
        replace hk0 := Lib.hid hk0
        replace hcame8 := Lib.hid hcame8
        replace hway8 := Lib.hid hway8
        replace htree := Lib.hid htree
        clear halw
        go_wp2_with fail
        rw [← hW8, ← hs8]
        clear hW8 hs8 iB cB lQ
        go_loopg [13, 14] k0 (fun k wv vv wr => ∃ (x : Nat) (u : List Nat) (f' : Names) (ww : Value), ww = wv ∧ vv = .int .i64 x ∧ q[k]? = some x ∧ Tree came q (adjOf G) x b u ∧ Rows w.heap.size wr f' ∧ Below w.heap.size w wr ∧ f' (1, 0) = some (rowI cv (tabI G.length came)) ∧ f' (4, 0) = some (rowI ww (castI u.reverse)) ∧ u.length ≤ G.length + 1 - k)
        case atStart => exact ⟨b, [b], f8, _, rfl, rfl, hk0.out, htree.out, R8.out, b8, hcame8.out, hway8.out, by have := get_of hk0.out; simp only [List.length_cons, List.length_nil]; omega⟩
        case round =>
          clear R8 b8 hcame8 hway8 htree hk0
          obtain ⟨x, u, f9, wv, rfl, rfl, hk, hT, hr9, b9, hc9, hw9, hul⟩ := hrel
          obtain ⟨wo, rfl⟩ : ∃ wo : World, wo = wr := ⟨_, rfl⟩
          obtain ⟨k, rfl⟩ : ∃ k : Nat, k = gk := ⟨_, rfl⟩
          have hxn := hqn.out x (List.mem_of_getElem? hk)
          have hkl := get_of hk
          by_cases hxa : x = a
          · subst hxa
            have hfirst := hO.out.first hT
            have hOW := hr9.ownI hw9
            have hrev := reverse_own w.heap.size wv (castI u.reverse) wo hOW (by rw [castI_len, List.length_reverse]; omega)
            have hrr : (castI u.reverse).reverse = castI u := by rw [castI_reverse, List.reverse_reverse]
            rw [hrr] at hrev
            replace hrev := Lib.hid hrev
            replace hfirst := Lib.hid hfirst
            replace hT := Lib.hid hT
            replace hr9 := Lib.hid hr9
            replace hOW := Lib.hid hOW
            replace hc9 := Lib.hid hc9
            replace hw9 := Lib.hid hw9
            replace hk := Lib.hid hk
            replace hrr := Lib.hid hrr
            go_wp2_with fail
            refine hrev.out.mono ?_
            rintro e w10 ⟨rfl, ho10, b10⟩
            replace ho10 := Lib.hid ho10
            go_wp2
            go_ret
            exact ⟨_, rfl, b9.trans b10, .inl ⟨u, hfirst.out, ho10.out⟩⟩
          · have hk1 : 0 < k := by
              by_cases e : 0 < k
              · exact e
              · obtain rfl : k = 0 := by omega
                have := hO.out.hd
                rw [hk] at this
                injection this with this
                exact absurd this hxa
            obtain ⟨p1, p2, p, p3, p4, p5, p6⟩ := hO.out.parLt k x hk1 hk
            have hT2 := Tree.cons _ _ p3 hk hk1 p4 hT
            have hpn := hqn.out p (List.mem_of_getElem? p3)
            have hne : ((x : Int) != (a : Int)) = true := by rw [bne_iff_ne]; omega
            have hOC9 := hr9.ownI hc9
            have iX := fun w' => hOC9.at.idx x (by rw [tabI_len]; exact hxn) w'
            have cX := hOC9.at.cellD x (by rw [tabI_len]; exact hxn)
            rw [tabI_get _ _ _ hxn, p4] at cX
            have hOW := hr9.ownI hw9
            have hB9 : w.heap.size ≤ wo.heap.size := b9.size
            have hlu : (castI u.reverse).length < 4398046511104 := by rw [castI_len, List.length_reverse]; omega
            have hgrow := fun (w' : World) (wv' : Value) (ho : OwnI w.heap.size w' wv' (castI u.reverse ++ [(p : Int)])) (hal : (roomOf wv' = roomOf wv ∧ wo.grownBy w' wv.ownBlock) ∨ (∃ k, wv'.ownBlock = some k ∧ wo.heap.size ≤ k ∧ wo.grownBy w' none)) => show ∃ f', Rows w.heap.size w' f' ∧ f' (1, 0) = some (rowI cv (tabI G.length came)) ∧ f' (4, 0) = some (rowI wv' (castI (p :: u).reverse)) from by
              have hg : wo.grownBy w' wv.ownBlock := grown_via (hal.imp (·.2) (fun ⟨_, _, _, q⟩ => q))
              have hob : wv'.ownBlock = wv.ownBlock ∨ ∃ k, wv'.ownBlock = some k ∧ wo.heap.size ≤ k := by
                rcases hal with ⟨q, _⟩ | ⟨k, h1, h2, _⟩
                · obtain ⟨a1, n1, c1, e1⟩ := hOW.at.shape
                  obtain ⟨a2, n2, c2, e2⟩ := ho.at.shape
                  exact .inl (ownBlock_of_room e1 e2 q)
                · exact .inr ⟨k, h1, h2⟩
              exact ⟨_, hr9.grown (r' := rowI wv' (castI u.reverse ++ [(p : Int)])) hw9 hg ho hob, by rw [upd_ne _ _ (by simp)]; exact hc9, by rw [upd_same, List.reverse_cons, castI_snoc]⟩
            generalize valAt cv x = xa at *
            replace hgrow := Lib.hid hgrow
            replace hT := Lib.hid hT
            replace hT2 := Lib.hid hT2
            replace hr9 := Lib.hid hr9
            replace hOC9 := Lib.hid hOC9
            replace hc9 := Lib.hid hc9
            replace hw9 := Lib.hid hw9
            replace hk := Lib.hid hk
            replace p3 := Lib.hid p3
            replace p4 := Lib.hid p4
            replace p6 := Lib.hid p6
            go_wp2_with (at_builtin; refine wpl_app1 rfl _ _ rfl w.heap.size wv (castI u.reverse) p hOW rfl rfl hlu hB9 ?_)
            intro wv' w11 ho11 b11 hal11
            obtain ⟨f11, hr11, hc11, hw11⟩ := hgrow.out w11 wv' ho11 hal11
            replace ho11 := Lib.hid ho11
            replace hr11 := Lib.hid hr11
            replace hc11 := Lib.hid hc11
            replace hw11 := Lib.hid hw11
            clear hal11
            go_wp2
            go_roundg (par k)
            case measure => exact p2
            case rel => exact ⟨p, p :: u, f11, wv', rfl, rfl, p3.out, hT2.out, hr11.out, b9.trans b11, hc11.out, hw11.out, by simp only [List.length_cons]; omega⟩
end Go.Proofs.YtmhiambkfdkkbaaGreatDoor

namespace Go.Proofs.YtmhiambkfdkkbaaGreatDoor
open Go.RowKit
set_option maxRecDepth 100000

/-- Quotient and rest of small numbers, as the machine reckons them. -/
theorem dm (p N : Nat) (hp : p ≤ 100000000) : (p : Int).tdiv (N : Int) = ((p / N : Nat) : Int) ∧ (p : Int).tmod (N : Int) = ((p % N : Nat) : Int) ∧ (p : Int) / (N : Int) = ((p / N : Nat) : Int) ∧ (p : Int) % (N : Int) = ((p % N : Nat) : Int) ∧
    IntKind.i64.wrap ((p / N : Nat) : Int) = ((p / N : Nat) : Int) ∧ IntKind.i64.wrap ((p % N : Nat) : Int) = ((p % N : Nat) : Int) := by
  have h1 : p / N ≤ p := Nat.div_le_self _ _
  have h2 : p % N ≤ p := Nat.mod_le _ _
  refine ⟨by rw [Int.tdiv_eq_ediv_of_nonneg (by omega)]; simp, by rw [Int.tmod_eq_emod_of_nonneg (by omega)]; simp, by simp, by simp, ?_, ?_⟩
  · generalize p / N = a at *; exact wrapK (by omega) (by omega)
  · generalize p % N = a at *; exact wrapK (by omega) (by omega)

theorem words1_any (x : Int) (b N : Nat) (w : World) (hN : N ≤ 10000) (hb : w.cell? ⟨b, 0, none⟩ = some (.int .i64 N)) :
    Calls Tryz.prog 75 #[.int .i64 x, .pointer (some ⟨b, 0, none⟩)] w fun e w' => e = .returned (.bool (odd1 ((N * N : Nat) : Int) x)) ∧ w = w' := by
  have hM : (N : Int) * (N : Int) = ((N * N : Nat) : Int) := by simp
  have hM2 := Nat.mul_le_mul hN hN
  by_cases h : x < 0
  · have e : odd1 ((N * N : Nat) : Int) x = true := by simp [odd1, h]
    rw [e]
    clear hM hM2
    go_enter Tryz.func75, Tryz.ntmps75
    go_wp2
    go_ret
    exact ⟨rfl, rfl⟩
  · have e : odd1 ((N * N : Nat) : Int) x = decide (((N * N : Nat) : Int) ≤ x) := by simp [odd1, h]
    rw [e]
    generalize N * N = M at *
    clear e
    go_enter Tryz.func75, Tryz.ntmps75
    go_wp2
    go_ret
    exact ⟨ret_bool (by simp), rfl⟩
theorem eg_words1 (args : Array Value) (w : World) : (callFunc 75 args).run Tryz.prog w = .ok (.enter 75 args) w := by kernel_rfl

set_option maxHeartbeats 1000000 in
theorem words2_any (K R x q : Nat) (w : World) (hk1 : 1 ≤ K) (hk4 : K ≤ 4) (hR : R ≤ 3) (hx : x ≤ 100000) (q0 : w.cell? ⟨q, 0, none⟩ = some (.int .i64 K)) (q1 : w.cell? ⟨q, 1, none⟩ = some (.int .i64 R)) :
    Calls Tryz.prog 77 #[.int .i64 x, .pointer (some ⟨q, 0, none⟩)] w (Ret1 (fun y w' => OwnI w.heap.size w' y (digs K (2 * R) x)) w) := by
  obtain ⟨ov, w1, mk, ho, hb1⟩ := run_makeI (2 * (R : Int)) (2 * R) w (by omega) (by omega)
  have lo := ho.at.len
  rw [List.length_replicate] at lo
  obtain ⟨oa, on, oc, rfl⟩ := ho.at.shape
  have hql := World.block_lt_of_cell? _ _ q0
  have hK0 : ((K : Int) == 0) = false := by rw [beq_eq_false_iff_ne]; omega
  have hK1 : ¬ (K : Int) = 0 := by omega
  have hK2 : (0 : Int) < K := by omega
  have hK3 : ¬ K = 0 := by omega
  obtain ⟨N, hN⟩ : ∃ N, 2 * R = N := ⟨_, rfl⟩
  have hN6 : N ≤ 6 := by omega
  rw [hN] at ho lo ⊢
  have hNi : 2 * (R : Int) = (N : Int) := by omega
  have hNw : IntKind.i64.wrap (N : Int) = N := wrapK (by omega) (by omega)
  rw [hNi] at mk
  replace ho := Lib.hid ho
  replace hN := Lib.hid hN
  go_enter Tryz.func77, Tryz.ntmps77
  go_wp2_with fail
  clear mk
  go_loopw [0, 12] (fun xv jv wr => ∃ j : Nat, j ≤ N ∧ jv = .int .i64 j ∧ xv = .int .i64 (x / pw K j : Nat) ∧ OwnI w.heap.size wr (.slice oa on oc) ((List.replicate N (0 : Int)).take (N - j) ++ (digs K N x).drop (N - j)) ∧ Below w.heap.size w wr) (fun _ jv _ => N - (intOf jv).toNat)
  case atStart => exact ⟨0, by omega, rfl, by simp [pw], by rw [Nat.sub_zero, List.drop_of_length_le (by rw [digs_length]; exact Nat.le_refl _), List.append_nil, List.take_of_length_le (by simp)]; exact ho.out, hb1⟩
  case round =>
    obtain ⟨j, hj, rfl, rfl, hO, hbI⟩ := hrel
    obtain ⟨wi, rfl⟩ : ∃ wi : World, wi = wr := ⟨_, rfl⟩
    by_cases hjl : j < N
    · have hXl : ((List.replicate N (0 : Int)).take (N - j) ++ (digs K N x).drop (N - j)).length = N := by simp only [List.length_append, List.length_take, List.length_replicate, List.length_drop, digs_length]; omega
      have i1 : ∀ w', (Instr.indexAt 22 (.slice oa on oc) (.int .i64 ((N : Int) - 1 - (j : Int)))).run Tryz.prog w' = .ok (.pointer (some (valAt (.slice oa on oc) (N - 1 - j)))) w' := by
        intro w'
        have := hO.at.idxI ((N : Int) - 1 - (j : Int)) (by omega) (by rw [hXl]; omega) w'
        rwa [show ((N : Int) - 1 - (j : Int)).toNat = N - 1 - j by omega] at this
      have c1 := hO.at.cellD (N - 1 - j) (by rw [hXl]; omega)
      have f1 := hO.frz (N - 1 - j) (by rw [hXl]; omega)
      have hS := hO.set (N - 1 - j) (by rw [hXl]; omega) ((x / pw K j % K : Nat) : Int)
      have hbS := hO.setBelow hbI (N - 1 - j) (by rw [hXl]; omega) (.int .i64 ((x / pw K j % K : Nat) : Int))
      rw [digs_fill K N x j hjl _ (by simp)] at hS
      have hqd : x / pw K j / K = x / pw K (j + 1) := by rw [Nat.div_div_eq_div_mul, ← pw_succ]
      have hql : x / pw K j ≤ 100000 := Nat.le_trans (Nat.div_le_self _ _) hx
      have y0 := (hbI.cell (p := ⟨q, 0, none⟩) (World.block_lt_of_cell? _ _ q0)).trans q0
      have hbe := hO.blkB (N - 1 - j) (by rw [hXl]; omega)
      generalize ((List.replicate N (0 : Int)).take (N - j) ++ (digs K N x).drop (N - j)).getD (N - 1 - j) 0 = y at c1
      have y0' : (wi.setCell (valAt (.slice oa on oc) (N - 1 - j)) (.int .i64 ((x / pw K j % K : Nat) : Int))).cell? ⟨q, 0, none⟩ = some (.int .i64 K) := (hbS.cell (p := ⟨q, 0, none⟩) (World.block_lt_of_cell? _ _ q0)).trans q0
      have hlen' := lo
      generalize valAt (.slice oa on oc) (N - 1 - j) = ya at *
      generalize x / pw K j = z at *
      obtain ⟨a1, a2, a3, a4, a5, a6⟩ := dm z K (by omega)
      obtain ⟨d, hd⟩ : ∃ d, z % K = d := ⟨_, rfl⟩
      obtain ⟨e, he⟩ : ∃ e, z / K = e := ⟨_, rfl⟩
      rw [hd] at a2 a4 a6 hS hbS y0'
      rw [he] at a1 a3 a5 hqd
      replace hS := Lib.hid hS
      replace hbS := Lib.hid hbS
      replace hqd := Lib.hid hqd
      replace hO := Lib.hid hO
      replace hd := Lib.hid hd
      replace he := Lib.hid he
      clear hXl
      go_wp2
      go_roundw
      case rel => exact ⟨j + 1, by omega, by go_num, by rw [← hqd.out], hS.out, hbS.out⟩
      case measure => simp [intOf]; omega
    · obtain rfl : j = N := by omega
      rw [Nat.sub_self, List.take_zero, List.drop_zero, List.nil_append] at hO
      replace hO := Lib.hid hO
      go_wp2
      go_ret
      exact ⟨_, rfl, hbI, hO.out⟩
theorem eg_words2 (args : Array Value) (w : World) : (callFunc 77 args).run Tryz.prog w = .ok (.enter 77 args) w := by kernel_rfl
end Go.Proofs.YtmhiambkfdkkbaaGreatDoor

namespace Go.Proofs.YtmhiambkfdkkbaaGreatDoor
open Go.RowKit
set_option maxRecDepth 100000

/-- The lists of a function. -/
def rowsOf (n : Nat) (F : Nat → List Int) : List (List Int) := (List.range n).map F
theorem rowsOf_len (n : Nat) (F : Nat → List Int) : (rowsOf n F).length = n := by simp [rowsOf]
theorem rowsOf_get (n : Nat) (F : Nat → List Int) (u : Nat) (hu : u < n) : (rowsOf n F).getD u [] = F u := by simp [rowsOf, List.getD, hu]
theorem vAt_set_same {l : List Value} {k : Nat} {g : Value} (h : k < l.length) : vAt (l.set k g) k = g := by simp [vAt, List.getD, h]
theorem vAt_set_ne {l : List Value} {k t : Nat} {g : Value} (h : t ≠ k) : vAt (l.set k g) t = vAt l t := by
  simp [vAt, List.getD, Ne.symm h]
/-- What the names name: the outer row, the lists. -/
structure WN (f : Names) (ov : Value) (vals : List Value) (n : Nat) (F : Nat → List Int) : Prop where
  outer : f (1, 0) = some (rowV 22 ov vals)
  len : vals.length = n
  rows : ∀ u, u < n → f (2, u) = some (rowI (vAt vals u) (F u))
section
variable {B : Nat} {w : World} {f : Names} {ov : Value} {vals : List Value} {n : Nat} {F : Nat → List Int}
theorem WN.lists (h : WN f ov vals n F) (hr : Rows B w f) : ListsAt w ov (rowsOf n F) :=
  ⟨vals, (hr.ownV h.outer).at, by rw [h.len, rowsOf_len], fun i hi => by
    rw [rowsOf_len] at hi
    rw [rowsOf_get n F i hi]
    exact (hr.ownI (h.rows i hi)).at⟩
/-- out[u] = a list: the list's row is there; now the outer row's cell. -/
theorem WN.put (h : WN f ov vals n F) {w1 : World} {u : Nat} (hu : u < n) {v' : Value} {xs : List Int} (hr1 : Rows B w1 (upd f (2, u) (some (rowI v' xs)))) :
    w1.cell? (valAt ov u) = some (vAt vals u) ∧ w1.frozen? (valAt ov u) = false ∧ B ≤ (valAt ov u).block ∧
    ∃ f', Rows B (w1.setCell (valAt ov u) v') f' ∧ WN f' ov (vals.set u v') n (updN F u xs) ∧ ∀ i, i ≠ (1, 0) → i ≠ (2, u) → f' i = f i := by
  have ho : upd f (2, u) (some (rowI v' xs)) (1, 0) = some (rowV 22 ov vals) := by rw [upd_ne _ _ (by simp)]; exact h.outer
  have hl : u < vals.length := by rw [h.len]; exact hu
  have hO := hr1.ownV ho
  refine ⟨hO.at.cellV u hl, hO.frz u hl, (hO.blkB u hl).2, _, hr1.setV ho u hl v', ⟨upd_same _ _ _, by simpa using h.len, fun t ht => ?_⟩, fun i h1 h2 => by rw [upd_ne _ _ h1, upd_ne _ _ h2]⟩
  rw [upd_ne _ _ (by simp)]
  by_cases e : t = u
  · subst e
    rw [upd_same, vAt_set_same hl, updN_same]
  · rw [upd_ne _ _ (by simpa using e), vAt_set_ne e, updN_other _ _ _ e]
    exact h.rows t ht
/-- A list that a call has made. -/
theorem WN.new (_h : WN f ov vals n F) (hr : Rows B w f) {w1 : World} (u : Nat) {v' : Value} {xs : List Int} (hb : Below w.heap.size w w1) (hB : B ≤ w.heap.size) (ho : OwnI w.heap.size w1 v' xs) : Rows B w1 (upd f (2, u) (some (rowI v' xs))) :=
  hr.add hb (ho.mono hB) (fun k hk => (ho.lt k hk).1)
/-- append(out[u], x). -/
theorem WN.app (h : WN f ov vals n F) (hr : Rows B w f) {w1 : World} {u : Nat} (hu : u < n) {v' : Value} (x : Int) (ho : OwnI B w1 v' (F u ++ [x]))
    (hal : (roomOf v' = roomOf (vAt vals u) ∧ w.grownBy w1 (vAt vals u).ownBlock) ∨ (∃ k, v'.ownBlock = some k ∧ w.heap.size ≤ k ∧ w.grownBy w1 none)) : Rows B w1 (upd f (2, u) (some (rowI v' (F u ++ [x])))) := by
  have hO := hr.ownI (h.rows u hu)
  refine hr.grown (r' := rowI v' (F u ++ [x])) (h.rows u hu) (grown_via (hal.imp (·.2) (fun ⟨_, _, _, q⟩ => q))) ho ?_
  rcases hal with ⟨q, _⟩ | ⟨k, h1, h2, _⟩
  · obtain ⟨a1, n1, c1, e1⟩ := hO.at.shape
    obtain ⟨a2, n2, c2, e2⟩ := ho.at.shape
    exact .inl (ownBlock_of_room e1 e2 q)
  · exact .inr ⟨k, h1, h2⟩
/-- out[u][i] = x. -/
theorem WN.elem (h : WN f ov vals n F) (hr : Rows B w f) (u : Nat) (hu : u < n) (i : Nat) (hi : i < (F u).length) (x : Int) :
    ∃ f', Rows B (w.setCell (valAt (vAt vals u) i) (.int .i64 x)) f' ∧ WN f' ov vals n (updN F u ((F u).set i x)) := by
  refine ⟨_, hr.setI (h.rows u hu) i hi x, ⟨by rw [upd_ne _ _ (by simp)]; exact h.outer, h.len, fun t ht => ?_⟩⟩
  by_cases e : t = u
  · subst e; rw [upd_same, updN_same]
  · rw [upd_ne _ _ (by simpa using e), updN_other _ _ _ e]; exact h.rows t ht
end
/-- make([]T, n) as an equation. -/
theorem run_makeW {T E : TypeId} {z : Value} {b : Nat} (oc : OneCell T E z b) (C : Int) (n : Nat) (w : World) (hC : C = n) (hn : n ≤ 4398046511104) :
    ∃ v w', (Instr.makeSlice T (.int .i64 C) (.int .i64 C)).run Tryz.prog w = .ok v w' ∧ OwnV E w.heap.size w' v (List.replicate n z) ∧ Below w.heap.size w w' := by
  subst hC
  obtain ⟨i, hi, hz0, hz1, hz2⟩ := info_parts oc.hi
  have hb := oc.hb
  obtain ⟨w', hrun, r1, r2⟩ := run_make_full (P := Tryz.prog) w w.heap.size T E i z 1 oc.ht hi hz0 hz1 .i64 .i64 n (by
    rw [hz2]
    calc b * n ≤ 32 * 4398046511104 := Nat.mul_le_mul hb (by omega)
      _ ≤ _ := by decide) (by unfold maxLen; omega) (Nat.le_refl _)
  refine ⟨_, w', hrun, ?_, (Below.refl _ _).grown r2 (Nat.le_refl _) (by intro k hk; cases hk)⟩
  rw [oc.hz, toList_madeCells_one] at r1
  simpa [OwnV] using r1
/-- Lists none of which is made yet. -/
def nils (n : Nat) : Names := fun i => if i.1 = 2 ∧ i.2 < n then some (rowI (.slice none 0 0) []) else none
theorem rows_nils (B : Nat) (w : World) (n : Nat) : Rows B w (nils n) := by
  refine ⟨fun i r hi => ?_, fun i j r s hi _ _ => ?_⟩
  · unfold nils at hi
    split at hi
    · injection hi with hi; subst hi; exact OwnI.nil B w
    · cases hi
  · left
    unfold nils at hi
    split at hi
    · injection hi with hi; subst hi; rfl
    · cases hi
/-- make([][]int, n). -/
theorem WN.made {B : Nat} {w w1 : World} {ov : Value} (n : Nat) (hb : Below w.heap.size w w1) (hB : B ≤ w.heap.size) (ho : OwnV 22 w.heap.size w1 ov (List.replicate n (.slice none 0 0))) :
    ∃ f, Rows B w1 f ∧ WN f ov (List.replicate n (.slice none 0 0)) n (fun _ => []) := by
  refine ⟨_, (rows_nils B w n).add (i := (1, 0)) (r' := rowV 22 ov (List.replicate n (.slice none 0 0))) hb (ho.mono hB) (fun k hk => (ho.lt k hk).1), ⟨upd_same _ _ _, by simp, fun u hu => ?_⟩⟩
  rw [upd_ne _ _ (by simp)]
  show nils n (2, u) = _
  unfold nils
  rw [if_pos ⟨rfl, hu⟩]
  simp [vAt, List.getD, hu]
end Go.Proofs.YtmhiambkfdkkbaaGreatDoor

namespace Go.Proofs.YtmhiambkfdkkbaaGreatDoor
open Go.RowKit
set_option maxRecDepth 100000

/-- T: slices of E, a struct of two ints. -/
def TwoInts (T E : TypeId) : Prop := Tryz.prog.underlying T = some (.slice E) ∧ ∃ i, Tryz.prog.info? E = some i ∧ i.zero = some (.agg #[.int .i64 0, .int .i64 0]) ∧ i.size = 2 ∧ i.bytes = 16
theorem twoInts_mk {T E : TypeId} (h1 : Tryz.prog.underlying T = some (.slice E)) (h2 : (Tryz.prog.info? E).map (fun i => (i.zero, i.size, i.bytes)) = some (some (.agg #[.int .i64 0, .int .i64 0]), 2, 16)) : TwoInts T E := by
  refine ⟨h1, ?_⟩
  cases h : Tryz.prog.info? E with
  | none => rw [h] at h2; cases h2
  | some i => rw [h] at h2; simp at h2; exact ⟨i, rfl, h2.1, h2.2.1, h2.2.2⟩

/-- append of one struct of two ints. -/
theorem run_app2 {T E : TypeId} (tc : TwoInts T E) (w : World) (B : Nat) (ty : TypeId) (v : Value) (m : Nat) (xs : List Value) (hown : w.ownsRow B E 2 v m xs)
    (b : Nat) (y0 y1 : Int) (hys : ∀ (j : Nat) (u : Value), ([Value.int .i64 y0, .int .i64 y1] : List Value)[j]? = some u → w.cell? ((⟨b, 0, none⟩ : Addr).add j) = some u) (hlen : m < 1000000) (hB : B ≤ w.heap.size) :
    ∃ g n' c' w', (Builtin.append_ #[T, T] ty #[v, .slice (some ⟨b, 0, none⟩) 1 1]).run Tryz.prog w = .ok (.slice (some ⟨g, 0, none⟩) n' c') w' ∧ n' = m + 1 ∧ w'.ownsRow B E 2 (.slice (some ⟨g, 0, none⟩) (m + 1) c') (m + 1) (xs ++ [.int .i64 y0, .int .i64 y1]) ∧
      ((v.ownBlock = some g ∧ w.grownBy w' v.ownBlock) ∨ (g = w.heap.size ∧ w.grownBy w' none)) := by
  obtain ⟨ht, i, hi, hz0, hz1, hz2⟩ := tc
  have hzc : (Value.agg #[.int .i64 0, .int .i64 0]).cells = #[.int .i64 0, .int .i64 0] := by rfl
  have hxl := hown.1
  have big : ∀ (old : Nat), old < m + 1 →
      (w.drew.alloc (.cells (xs.toArray ++ [Value.int .i64 y0, .int .i64 y1].toArray ++ Builtin.zeroCells (Value.agg #[.int .i64 0, .int .i64 0]).cells (grownCap w (m + 1) old E - (m + 1))) E)).ownsRow B E 2 (.slice (some ⟨w.heap.size, 0, none⟩) (m + 1) (grownCap w (m + 1) old E)) (m + 1) (xs ++ [.int .i64 y0, .int .i64 y1]) := by
    intro old ho
    have hge := grownCap_ge w (m + 1) old E
    have hcm : grownCap w (m + 1) old E ≤ maxLen := grownCap_le_maxLen w _ old E (by unfold maxLen; omega)
    refine ⟨by simp [hxl]; omega, .inr ⟨w.heap.size, _, _, rfl, hB, heap_alloc_new w.drew _, hge, hcm, ?_, ?_⟩⟩
    · simp only [Array.size_append, List.size_toArray, size_zeroCells, hzc, hxl]
      simp
      omega
    · simp only [Array.toList_append]
      exact List.take_left' (by simp [hxl]; omega)
  have grw : ∀ (oo : Obj), w.grownBy (w.drew.alloc oo) none := fun oo => ⟨rfl, rfl, rfl, by simp, fun k hk _ => Below.heap_alloc w.drew oo k hk⟩
  rcases hown.2 with ⟨rfl, hn⟩ | ⟨g, cap, cur, rfl, hbg, hg, hnc, hcm, hcs, htake⟩
  · subst hn
    obtain rfl := List.length_eq_zero_iff.1 (show xs.length = 0 by omega)
    have hr := run_append_nil (P := Tryz.prog) w T ty E i _ ht hi hz0 ⟨b, 0, none⟩ 1 1 [.int .i64 y0, .int .i64 y1] (by rw [hz1]; rfl) hys (by omega) (by omega) (by rw [hz2]; decide)
    have hbg := big 0 (by omega)
    simp only [List.nil_append, Array.empty_append, Nat.zero_add] at hbg hr
    exact ⟨_, _, _, _, hr, rfl, by simpa using hbg, .inr ⟨rfl, grw _⟩⟩
  · by_cases hroom : m + 1 ≤ cap
    · have hr := run_append_room (P := Tryz.prog) w T ty E i ht hi g m cap cur hg ⟨b, 0, none⟩ 1 1 [.int .i64 y0, .int .i64 y1] (by rw [hz1]; rfl) hys (by simp [Value.oneCell']) hroom (by rw [hz1, hcs]; simp; omega)
      refine ⟨_, _, _, _, hr, rfl, ⟨by simp [hxl]; omega, .inr ⟨g, cap, _, rfl, hbg, setRow_heap w g cur _ E _ hg, hroom, hcm, ?_, ?_⟩⟩, .inl ⟨rfl, ⟨rfl, rfl, rfl, by simp, fun k _ hk => setRow_other w g k _ (fun e => hk (by simp [Value.ownBlock, e]))⟩⟩⟩
      · simp only [List.size_toArray, List.length_append, List.length_take, List.length_drop, Array.length_toList, hz1, hcs]
        simp
        omega
      · rw [hz1, htake]
        exact List.take_left' (by simp [hxl]; omega)
    · have holds : ∀ j u, xs[j]? = some u → w.cell? ((⟨g, 0, none⟩ : Addr).add j) = some u := World.ownsRow.cells hown (g := g) rfl
      have hr := run_append_grow (P := Tryz.prog) w T ty E i _ ht hi hz0 ⟨g, 0, none⟩ m cap xs (by rw [hz1]; exact hxl) holds ⟨b, 0, none⟩ 1 1 [.int .i64 y0, .int .i64 y1] (by rw [hz1]; rfl) hys (by omega) (by omega) (by
        rw [hz2]
        exact growslice_fits (by omega) (by
          calc (m + 1) * 16 ≤ 1000000 * 16 := Nat.mul_le_mul_right _ hlen
            _ ≤ _ := by decide))
      exact ⟨_, _, _, _, hr, rfl, big cap (by omega), .inr ⟨rfl, grw _⟩⟩

/-- append(s, struct) in the text's order. -/
theorem wpl_app2 {T E : TypeId} (tc : TwoInts T E) {w : World} {ops : Array Oper} {rest : List Oper} {o : Oper} {a : Act} {Q : Exit → Act → World → Prop} (hgd : o.guard = none) (s x : Operand)
    (ho : o.op = .call { callee := .builtin .append, args := #[s, x], argTypes := #[T, T] })
    (B : Nat) (v : Value) (m : Nat) (xs : List Value) (y0 y1 : Int) (b : Nat) (hown : w.ownsRow B E 2 v m xs) (hs : a.eval s = v) (hx : a.eval x = .slice (some ⟨b, 0, none⟩) 1 1) (hb : b = w.heap.size)
    (hlen : m < 1000000) (hB : B ≤ w.heap.size)
    (h : ∀ g c w', w'.ownsRow B E 2 (.slice (some ⟨g, 0, none⟩) (m + 1) c) (m + 1) (xs ++ [.int .i64 y0, .int .i64 y1]) → ((v.ownBlock = some g ∧ w.grownBy w' v.ownBlock) ∨ (w.heap.size ≤ g ∧ w.grownBy w' none)) → wpList Tryz.prog ops Q rest (a.put o.dst (.slice (some ⟨g, 0, none⟩) (m + 1) c)) w') :
    wpList Tryz.prog ops Q (o :: rest) a (w.alloc (.cells #[.int .i64 y0, .int .i64 y1] E)) := by
  subst hb
  refine wpList_plain hgd fun K hK => ?_
  have hcells : ∀ (j : Nat) (u : Value), ([Value.int .i64 y0, .int .i64 y1] : List Value)[j]? = some u → (w.alloc (.cells #[.int .i64 y0, .int .i64 y1] E)).cell? ((⟨w.heap.size, 0, none⟩ : Addr).add j) = some u := by
    intro j u hj
    have hn := heap_alloc_new w (.cells #[.int .i64 y0, .int .i64 y1] E)
    match j, hj with
    | 0, hj => simp at hj; subst hj; simp only [World.cell?, Addr.add, if_true]; rw [hn]; rfl
    | 1, hj => simp at hj; subst hj; simp only [World.cell?, Addr.add, show ¬ (1 = 0) by decide, if_false]; rw [hn]; rfl
    | j + 2, hj => simp at hj
  obtain ⟨g, n', c', w', hr, rfl, h2, h3⟩ := run_app2 tc (w.alloc (.cells #[.int .i64 y0, .int .i64 y1] E)) B o.type v m xs (World.ownsRow.alloc hown _) w.heap.size y0 y1 hcells hlen (by simp; omega)
  unfold Oper.wp execOp
  simp only [ho, resolve, invoke, builtin, Sem.run_bind, Sem.run_pure, Result.andThen_ok, List.map_toArray, List.map_cons, List.map_nil, hs, hx]
  rw [hr]
  have hal : ∀ row, w.grownBy (w.alloc (.cells #[.int .i64 y0, .int .i64 y1] E)) row := fun row => World.grownBy_alloc w _ row
  rcases h3 with ⟨hv, hg⟩ | ⟨hk, hg⟩
  · exact hK _ _ (h g c' w' h2 (.inl ⟨hv, (hal v.ownBlock).trans hg⟩))
  · exact hK _ _ (h g c' w' h2 (.inr ⟨by rw [hk]; simp, (hal none).trans hg⟩))

/-- The cells of such a row. -/
def flat2 (l : List (Int × Int)) : List Value := l.flatMap fun p => [.int .i64 p.1, .int .i64 p.2]
theorem flat2_snoc (l : List (Int × Int)) (a b : Int) : flat2 (l ++ [(a, b)]) = flat2 l ++ [.int .i64 a, .int .i64 b] := by simp [flat2]
theorem flat2_len (l : List (Int × Int)) : (flat2 l).length = l.length * 2 := by
  induction l with
  | nil => rfl
  | cons p l ih => simp only [flat2, List.flatMap_cons, List.length_append, List.length_cons, List.length_nil] at ih ⊢; omega
theorem flat2_get (l : List (Int × Int)) (s : Nat) (h : s < l.length) : (flat2 l)[s * 2]? = some (.int .i64 l[s].1) ∧ (flat2 l)[s * 2 + 1]? = some (.int .i64 l[s].2) := by
  induction l generalizing s with
  | nil => simp at h
  | cons p l ih =>
    cases s with
    | zero => exact ⟨rfl, rfl⟩
    | succ s =>
      have := ih s (by simpa using h)
      rw [show (s + 1) * 2 = s * 2 + 1 + 1 by omega]
      simpa [flat2] using this

end Go.Proofs.YtmhiambkfdkkbaaGreatDoor

namespace Go.Proofs.YtmhiambkfdkkbaaGreatDoor
open Go.RowKit
set_option maxRecDepth 100000

/-- What is told so far: the first k lists, and j of the next. -/
def BackTo (G : List (List Int)) (k j : Nat) (F : Nat → List Int) : Prop :=
  ∀ t, t < G.length → ((F t).length ≤ arrowsTo G k + j ∧ ∀ y : Int, y ∈ F t ↔ ∃ v : Nat, y = v ∧ (v < k ∧ (t : Int) ∈ G.getD v [] ∨ v = k ∧ (t : Int) ∈ (G.getD k []).take j))
theorem BackTo.zero (G : List (List Int)) : BackTo G 0 0 (fun _ => []) := by
  intro t _
  refine ⟨Nat.zero_le _, fun y => ⟨fun h => (by cases h), fun ⟨v, _, h⟩ => ?_⟩⟩
  rcases h with ⟨h, _⟩ | ⟨_, h⟩
  · omega
  · simp at h
theorem BackTo.next {G : List (List Int)} {k : Nat} {F : Nat → List Int} (h : BackTo G k (G.getD k []).length F) : BackTo G (k + 1) 0 F := by
  intro t ht
  obtain ⟨h1, h2⟩ := h t ht
  refine ⟨by simpa [arrowsTo] using h1, fun y => ?_⟩
  rw [h2 y]
  constructor
  · rintro ⟨v, hv, h⟩
    refine ⟨v, hv, .inl ?_⟩
    rcases h with ⟨a, b⟩ | ⟨rfl, b⟩
    · exact ⟨by omega, b⟩
    · rw [List.take_length] at b; exact ⟨by omega, b⟩
  · rintro ⟨v, hv, h⟩
    rcases h with ⟨a, b⟩ | ⟨_, b⟩
    · refine ⟨v, hv, ?_⟩
      by_cases e : v = k
      · subst e; exact .inr ⟨rfl, by rw [List.take_length]; exact b⟩
      · exact .inl ⟨by omega, b⟩
    · simp at b
theorem BackTo.add {G : List (List Int)} {k j u : Nat} {F : Nat → List Int} (h : BackTo G k j F) (hj : (G.getD k [])[j]? = some (u : Int)) : BackTo G k (j + 1) (updN F u (F u ++ [(k : Int)])) := by
  have hjl : j < (G.getD k []).length := by
    by_cases q : j < (G.getD k []).length
    · exact q
    · rw [List.getElem?_eq_none (by omega)] at hj; cases hj
  have htk : (G.getD k []).take (j + 1) = (G.getD k []).take j ++ [(u : Int)] := by
    rw [List.take_add_one, hj]; rfl
  intro t ht
  obtain ⟨h1, h2⟩ := h t ht
  by_cases e : t = u
  · subst e
    rw [updN_same]
    refine ⟨by rw [List.length_append]; simp only [List.length_cons, List.length_nil]; omega, fun y => ?_⟩
    rw [List.mem_append, h2 y, htk]
    simp only [List.mem_singleton, List.mem_append]
    constructor
    · rintro (⟨v, hv, h⟩ | rfl)
      · refine ⟨v, hv, ?_⟩
        rcases h with h | ⟨a, b⟩
        · exact .inl h
        · exact .inr ⟨a, .inl b⟩
      · exact ⟨k, rfl, .inr ⟨rfl, .inr (by simp)⟩⟩
    · rintro ⟨v, hv, h⟩
      rcases h with h | ⟨a, b | b⟩
      · exact .inl ⟨v, hv, .inl h⟩
      · exact .inl ⟨v, hv, .inr ⟨a, b⟩⟩
      · right; rw [hv, a]
  · rw [updN_other _ _ _ e]
    refine ⟨by omega, fun y => ?_⟩
    rw [h2 y, htk]
    simp only [List.mem_append, List.mem_singleton]
    constructor
    · rintro ⟨v, hv, h⟩
      refine ⟨v, hv, ?_⟩
      rcases h with h | ⟨a, b⟩
      · exact .inl h
      · exact .inr ⟨a, .inl b⟩
    · rintro ⟨v, hv, h⟩
      refine ⟨v, hv, ?_⟩
      rcases h with h | ⟨a, b | b⟩
      · exact .inl h
      · exact .inr ⟨a, b⟩
      · exact absurd (by omega) e
/-- The graph turned: arrows the other way. -/
def TurnedOf (G H : List (List Int)) : Prop := H.length = G.length ∧ (∀ t, t < G.length → (H.getD t []).length ≤ arrowsTo G G.length) ∧ ∀ t, t < G.length → ∀ y : Int, y ∈ H.getD t [] ↔ ∃ v : Nat, y = v ∧ v < G.length ∧ (t : Int) ∈ G.getD v []
theorem BackTo.turned {G : List (List Int)} {F : Nat → List Int} (h : BackTo G G.length 0 F) : TurnedOf G (rowsOf G.length F) := by
  refine ⟨rowsOf_len _ _, fun t ht => ?_, fun t ht y => ?_⟩
  · rw [rowsOf_get _ _ _ ht]; simpa using (h t ht).1
  · rw [rowsOf_get _ _ _ ht, (h t ht).2 y]
    constructor
    · rintro ⟨v, hv, h⟩
      rcases h with h | ⟨_, h⟩
      · exact ⟨v, hv, h.1, h.2⟩
      · simp at h
    · rintro ⟨v, hv, h⟩
      exact ⟨v, hv, .inl h⟩

set_option maxHeartbeats 4000000 in
theorem graph_back (na : Option Addr) (nc : Nat) (G : List (List Int)) (w : World) (h : ListsAt w (.slice na G.length nc) G) (hok : GraphOk G) (hn : G.length ≤ 8200) (harr : arrowsTo G G.length ≤ 262144) :
    Calls Tryz.prog 114 #[.slice na G.length nc] w (Ret1 (fun x w' => ∃ H, TurnedOf G H ∧ ListsAt w' x H) w) := by
  obtain ⟨ov, w1, mk, ho, hb1⟩ := run_makeW oneLists (G.length : Int) G.length w rfl (by omega)
  obtain ⟨f1, hr1, h1⟩ := WN.made G.length hb1 (Nat.le_refl _) ho
  obtain ⟨oa, on, oc, rfl⟩ := ho.shape
  have hlen : ∀ k, k < G.length → (G.getD k []).length ≤ 262144 := fun k hk => by
    have := arrowsTo_mono G (show k + 1 ≤ G.length by omega)
    simp only [arrowsTo] at this; omega
  replace h := Lib.hid h
  replace hok := Lib.hid hok
  replace hr1 := Lib.hid hr1
  replace ho := Lib.hid ho
  replace hlen := Lib.hid hlen
  go_enter Tryz.func114, Tryz.ntmps114
  go_wp2_with fail
  clear mk
  go_loopw [13] (fun kv wr => ∃ (k : Nat) (F : Nat → List Int) (f : Names) (vals : List Value), k ≤ G.length ∧ kv = .int .i64 k ∧ Rows w.heap.size wr f ∧ Below w.heap.size w wr ∧ WN f (.slice oa on oc) vals G.length F ∧ BackTo G k 0 F) (fun kv _ => G.length - (intOf kv).toNat)
  case atStart => exact ⟨0, _, f1, _, by omega, rfl, hr1.out, hb1, h1, BackTo.zero G⟩
  case round =>
    clear h1 ho hr1
    obtain ⟨k, F, f2, vals, hk, rfl, hr2, b2, h2, hB⟩ := hrel
    obtain ⟨wo, rfl⟩ : ∃ wo : World, wo = wr := ⟨_, rfl⟩
    by_cases hlt : k < G.length
    · obtain ⟨mv, iR, cR0, hM0⟩ := h.out.row k hlt
      have cR := (b2.cell (World.block_lt_of_cell? _ _ cR0)).trans cR0
      clear cR0
      have hM := hM0.below b2
      have hgl := hlen.out k hlt
      have hgp := hok.out k hlt
      have hBadd := fun (j u : Nat) (F : Nat → List Int) (h : BackTo G k j F) => h.add (u := u)
      have hBnext := fun (F : Nat → List Int) (h : BackTo G k (G.getD k []).length F) => h.next
      have hBlen := fun (j t : Nat) (F : Nat → List Int) (h : BackTo G k j F) (ht : t < G.length) => (h t ht).1
      have harrk := arrowsTo_mono G hk
      generalize G.getD k [] = gk at *
      have lM := hM.len
      generalize valAt (.slice na G.length nc) k = ra at *
      replace hB := Lib.hid hB
      replace hBadd := Lib.hid hBadd
      replace hBnext := Lib.hid hBnext
      replace hBlen := Lib.hid hBlen
      replace hgp := Lib.hid hgp
      replace hr2 := Lib.hid hr2
      replace hM := Lib.hid hM
      replace hM0 := Lib.hid hM0
      go_wp2_with fail
      clear iR cR lM
      go_loopw [20] (fun jv wr => ∃ (j : Nat) (F : Nat → List Int) (f : Names) (vals : List Value), j ≤ gk.length ∧ jv = .int .i64 j ∧ Rows w.heap.size wr f ∧ Below w.heap.size w wr ∧ WN f (.slice oa on oc) vals G.length F ∧ BackTo G k j F) (fun jv _ => gk.length - (intOf jv).toNat)
      case atStart => exact ⟨0, F, f2, vals, by omega, rfl, hr2.out, b2, h2, hB.out⟩
      case round =>
        clear hB hr2 h2 b2 hM
        obtain ⟨j, F, f3, vals, hj, rfl, hr3, b3, h3, hB⟩ := hrel
        obtain ⟨wo, rfl⟩ : ∃ wo : World, wo = wr := ⟨_, rfl⟩
        by_cases hjl : j < gk.length
        · have hMj := hM0.out.below b3
          have hgj := hgp.out gk[j] (List.getElem_mem hjl)
          obtain ⟨u, hu⟩ : ∃ u : Nat, gk[j] = u := Int.eq_ofNat_of_zero_le hgj.1
          have hun : u < G.length := by rw [hu] at hgj; omega
          have hgu : gk[j]? = some (u : Int) := by rw [List.getElem?_eq_getElem hjl, hu]
          have hgd : gk.getD j 0 = (u : Int) := by rw [List.getD_eq_getElem?_getD, hgu]; rfl
          have iJ := fun w' => hMj.idx j hjl w'
          have cJ := hMj.cellD j hjl
          rw [hgd] at cJ
          have hadd := hBadd.out j u F hB hgu
          have hfl := hBlen.out j u F hB hun
          have hOV := (hr3.ownV h3.outer).at
          have iO := fun w' => hOV.idx oneLists u (by rw [h3.len]; exact hun) w'
          have cO := hOV.cellV u (by rw [h3.len]; exact hun)
          have hT := hr3.ownI (h3.rows u hun)
          have happ := fun (w1 : World) (v' : Value) => h3.app hr3 hun (w1 := w1) (v' := v') (k : Int)
          have hput := fun (w1 : World) (v' : Value) (xs : List Int) => h3.put (B := w.heap.size) (w1 := w1) hun (v' := v') (xs := xs)
          have hB3 : w.heap.size ≤ wo.heap.size := b3.size
          generalize valAt mv j = ja at *
          generalize vAt vals u = tv at *
          generalize valAt (.slice oa on oc) u = ua at *
          replace hadd := Lib.hid hadd
          replace happ := Lib.hid happ
          replace hput := Lib.hid hput
          replace hB := Lib.hid hB
          replace hr3 := Lib.hid hr3
          replace hOV := Lib.hid hOV
          replace hgu := Lib.hid hgu
          replace hgd := Lib.hid hgd
          replace hu := Lib.hid hu
          replace hgj := Lib.hid hgj
          go_wp2_with (at_builtin; refine wpl_app1 rfl _ _ rfl w.heap.size tv (F u) k hT rfl rfl (by omega) hB3 ?_)
          intro v' w7 ho7 b7 hal7
          have hR7 := happ.out w7 v' ho7 hal7
          obtain ⟨y1, y2, y3, f8, hr8, h8, _⟩ := hput.out w7 v' _ hR7
          obtain ⟨va, vn, vc, rfl⟩ := ho7.at.shape
          replace hr8 := Lib.hid hr8
          replace ho7 := Lib.hid ho7
          replace hR7 := Lib.hid hR7
          clear hal7 hT iJ cJ cO
          go_wp2
          go_roundw
          case measure => simp [intOf]; omega
          case rel => exact ⟨j + 1, _, f8, _, by omega, by go_num, hr8.out, (b3.trans b7).setCell y3 _, h8, hadd.out⟩
        · obtain rfl : j = gk.length := by omega
          have hnext := hBnext.out F hB
          replace hnext := Lib.hid hnext
          replace hB := Lib.hid hB
          replace hr3 := Lib.hid hr3
          go_wp2
          go_roundw
          case measure => simp [intOf]; omega
          case rel => exact ⟨k + 1, F, f3, vals, by omega, by go_num, hr3.out, b3, h3, hnext.out⟩
    · obtain rfl : k = G.length := by omega
      have hT := hB.turned
      have hL := h2.lists hr2
      replace hB := Lib.hid hB
      replace hT := Lib.hid hT
      replace hL := Lib.hid hL
      replace hr2 := Lib.hid hr2
      go_wp2
      go_ret
      exact ⟨_, rfl, b2, _, hT.out, hL.out⟩
end Go.Proofs.YtmhiambkfdkkbaaGreatDoor

namespace Go.Proofs.YtmhiambkfdkkbaaGreatDoor
open Go.RowKit
set_option maxRecDepth 100000

/-- A node's first arrows: where to, and what is told. -/
def arrL (K N : Nat) (T : List Int) (u n : Nat) : List (Int × Int) := (List.range n).map fun s => ((toN K N u s : Int), labN K T u s)
theorem arrL_len (K N : Nat) (T : List Int) (u n : Nat) : (arrL K N T u n).length = n := by simp [arrL]
theorem arrL_succ (K N : Nat) (T : List Int) (u n : Nat) : arrL K N T u (n + 1) = arrL K N T u n ++ [((toN K N u n : Int), labN K T u n)] := by simp [arrL, List.range_succ]
/-- While they are written: all of the first k nodes, and the next node's first j. -/
def arrTo (K N : Nat) (T : List Int) (k j : Nat) (u : Nat) : List (Int × Int) := if u < k then arrL K N T u K else if u = k then arrL K N T u j else []
theorem arrTo_zero (K N : Nat) (T : List Int) : arrTo K N T 0 0 = fun _ => [] := by
  funext u; unfold arrTo
  rw [if_neg (by omega)]
  split
  · simp [arrL]
  · rfl
theorem arrTo_next (K N : Nat) (T : List Int) (k : Nat) : arrTo K N T k K = arrTo K N T (k + 1) 0 := by
  funext u; unfold arrTo
  by_cases h : u < k
  · rw [if_pos h, if_pos (by omega)]
  · rw [if_neg h]
    by_cases e : u = k
    · rw [if_pos e, if_pos (by omega)]
    · rw [if_neg e, if_neg (by omega)]
      split
      · simp [arrL]
      · rfl
theorem arrTo_at (K N : Nat) (T : List Int) (k j : Nat) : arrTo K N T k j k = arrL K N T k j := by unfold arrTo; rw [if_neg (by omega), if_pos rfl]
theorem arrTo_step (K N : Nat) (T : List Int) (k j : Nat) : updN (arrTo K N T k j) k (arrL K N T k (j + 1)) = arrTo K N T k (j + 1) := by
  funext u
  by_cases e : u = k
  · subst e; rw [updN_same, arrTo_at]
  · rw [updN_other _ _ _ e]; unfold arrTo
    by_cases h : u < k
    · rw [if_pos h, if_pos h]
    · rw [if_neg h, if_neg h, if_neg e, if_neg e]

theorem twoArrow : TwoInts 101 103 := twoInts_mk (by kernel_rfl) (by kernel_rfl)
theorem oneArrows : OneCell 99 101 (.slice none 0 0) 24 := ⟨by kernel_rfl, by kernel_rfl, rfl, by decide, fun _ => by kernel_rfl⟩
/-- What the names name: the outer row, the nodes' arrows. -/
structure AN (f : Names) (ov : Value) (vals : List Value) (n : Nat) (F : Nat → List (Int × Int)) : Prop where
  outer : f (1, 0) = some (rowV 101 ov vals)
  len : vals.length = n
  rows : ∀ u, u < n → f (2, u) = some ⟨103, 2, vAt vals u, (F u).length, flat2 (F u)⟩
section
variable {B : Nat} {w : World} {f : Names} {ov : Value} {vals : List Value} {n : Nat} {F : Nat → List (Int × Int)}
def nils2 (n : Nat) : Names := fun i => if i.1 = 2 ∧ i.2 < n then some ⟨103, 2, .slice none 0 0, 0, []⟩ else none
theorem rows_nils2 (B : Nat) (w : World) (n : Nat) : Rows B w (nils2 n) := by
  refine ⟨fun i r hi => ?_, fun i j r s hi _ _ => ?_⟩
  · unfold nils2 at hi
    split at hi
    · injection hi with hi; subst hi; exact World.ownsRow_nil w B _ 2
    · cases hi
  · left
    unfold nils2 at hi
    split at hi
    · injection hi with hi; subst hi; rfl
    · cases hi
theorem AN.made {w1 : World} (n : Nat) (hb : Below w.heap.size w w1) (hB : B ≤ w.heap.size) (ho : OwnV 101 w.heap.size w1 ov (List.replicate n (.slice none 0 0))) :
    ∃ f, Rows B w1 f ∧ AN f ov (List.replicate n (.slice none 0 0)) n (fun _ => []) := by
  refine ⟨_, (rows_nils2 B w n).add (i := (1, 0)) (r' := rowV 101 ov (List.replicate n (.slice none 0 0))) hb (ho.mono hB) (fun k hk => (ho.lt k hk).1), ⟨upd_same _ _ _, by simp, fun u hu => ?_⟩⟩
  rw [upd_ne _ _ (by simp)]
  show nils2 n (2, u) = _
  unfold nils2
  rw [if_pos ⟨rfl, hu⟩]
  simp [vAt, List.getD, hu, flat2]
/-- out[u] = append(out[u], arrow). -/
theorem AN.app (h : AN f ov vals n F) (hr : Rows B w f) {w1 : World} {u g c : Nat} (hu : u < n) (x y : Int)
    (ho : w1.ownsRow B 103 2 (.slice (some ⟨g, 0, none⟩) ((F u).length + 1) c) ((F u).length + 1) (flat2 (F u) ++ [.int .i64 x, .int .i64 y]))
    (hal : ((vAt vals u).ownBlock = some g ∧ w.grownBy w1 (vAt vals u).ownBlock) ∨ (w.heap.size ≤ g ∧ w.grownBy w1 none)) :
    w1.cell? (valAt ov u) = some (vAt vals u) ∧ w1.frozen? (valAt ov u) = false ∧ B ≤ (valAt ov u).block ∧
    ∃ f' vals', Rows B (w1.setCell (valAt ov u) (.slice (some ⟨g, 0, none⟩) ((F u).length + 1) c)) f' ∧ AN f' ov vals' n (updN F u (F u ++ [(x, y)])) := by
  have hrow := h.rows u hu
  have hg : w.grownBy w1 (vAt vals u).ownBlock := grown_via (hal.imp (·.2) (·.2))
  have hob : (Value.slice (some ⟨g, 0, none⟩) ((F u).length + 1) c).ownBlock = (vAt vals u).ownBlock ∨ ∃ k, (Value.slice (some ⟨g, 0, none⟩) ((F u).length + 1) c).ownBlock = some k ∧ w.heap.size ≤ k := by
    rcases hal with ⟨q, _⟩ | ⟨q, _⟩
    · exact .inl q.symm
    · exact .inr ⟨g, rfl, q⟩
  have h1 := hr.grown (r' := ⟨103, 2, .slice (some ⟨g, 0, none⟩) ((F u).length + 1) c, (F u).length + 1, flat2 (F u) ++ [Value.int .i64 x, Value.int .i64 y]⟩) hrow hg (show Row.own B w1 ⟨_, _, _, _, _⟩ from ho) hob
  have ho' : upd f (2, u) (some ⟨103, 2, .slice (some ⟨g, 0, none⟩) ((F u).length + 1) c, (F u).length + 1, flat2 (F u) ++ [Value.int .i64 x, Value.int .i64 y]⟩) (1, 0) = some (rowV 101 ov vals) := by rw [upd_ne _ _ (by simp)]; exact h.outer
  have hl : u < vals.length := by rw [h.len]; exact hu
  have hO := h1.ownV ho'
  refine ⟨hO.at.cellV u hl, hO.frz u hl, (hO.blkB u hl).2, _, _, h1.setV ho' u hl _, ⟨upd_same _ _ _, by simpa using h.len, fun t ht => ?_⟩⟩
  rw [upd_ne _ _ (by simp)]
  by_cases e : t = u
  · subst e
    rw [upd_same, vAt_set_same hl, updN_same, flat2_snoc]; simp
  · rw [upd_ne _ _ (by simpa using e), vAt_set_ne e, updN_other _ _ _ e]
    exact h.rows t ht
end
/-- v reads each node's arrows. -/
def ArrowsAt (w : World) (v : Value) (K N : Nat) (T : List Int) : Prop :=
  ∃ vs, ValsAt w v vs ∧ vs.length = N ∧ ∀ u, u < N → ∃ g c, vAt vs u = .slice (some ⟨g, 0, none⟩) K c ∧ K ≤ c ∧ ∀ s, s < K → w.cell? ⟨g, s * 2, none⟩ = some (.int .i64 (toN K N u s)) ∧ w.cell? ⟨g, s * 2 + 1, none⟩ = some (.int .i64 (labN K T u s))
theorem ArrowsAt.below {w w' : World} {v : Value} {K N : Nat} {T : List Int} (h : ArrowsAt w v K N T) (hb : Below w.heap.size w w') : ArrowsAt w' v K N T := by
  obtain ⟨vs, h1, h2, h3⟩ := h
  refine ⟨vs, h1.below hb, h2, fun u hu => ?_⟩
  obtain ⟨g, c, e, hc, h4⟩ := h3 u hu
  exact ⟨g, c, e, hc, fun s hs => ⟨cell_keep hb (h4 s hs).1, cell_keep hb (h4 s hs).2⟩⟩
theorem AN.reads {B : Nat} {w : World} {f : Names} {ov : Value} {vals : List Value} {K N : Nat} {T : List Int} (hK : 1 ≤ K) (h : AN f ov vals N (arrTo K N T N 0)) (hr : Rows B w f) : ArrowsAt w ov K N T := by
  refine ⟨vals, (hr.ownV h.outer).at, h.len, fun u hu => ?_⟩
  have hrow := h.rows u hu
  have hF : arrTo K N T N 0 u = arrL K N T u K := by unfold arrTo; rw [if_pos hu]
  rw [hF, arrL_len] at hrow
  obtain ⟨g, c, e, hc⟩ := row_shape (hr.1 _ _ hrow) hK
  refine ⟨g, c, e, hc, fun s hs => ?_⟩
  have c0 := hr.cell hrow (g := g) (cap := c) e (s * 2) (by simp; omega)
  have c1 := hr.cell hrow (g := g) (cap := c) e (s * 2 + 1) (by simp; omega)
  have := flat2_get (arrL K N T u K) s (by rw [arrL_len]; exact hs)
  have ea : (arrL K N T u K)[s]'(by rw [arrL_len]; exact hs) = ((toN K N u s : Int), labN K T u s) := by simp [arrL]
  rw [ea] at this
  exact ⟨c0.trans this.1, c1.trans this.2⟩

set_option maxHeartbeats 2000000 in
theorem arrows_any (r : Nat → Addr) (K R : Nat) (va : Option Addr) (vn vc : Nat) (T : List Int) (w : World) (hg : Glob r w) (h : IntsAt w (.slice va vn vc) T) (hok : RuleOk K R T) (hl : T.length ≤ 256) :
    Calls Tryz.prog 61 #[.agg #[.int .i64 K, .int .i64 R, .slice va vn vc]] w (Ret1 (fun x w' => ArrowsAt w' x K (T.length / K) T) w) := by
  have b0 := belowAlloc w (.cells #[.int .i64 K, .int .i64 R, .slice va vn vc] 24)
  have q : Box3 (w.alloc (.cells #[.int .i64 K, .int .i64 R, .slice va vn vc] 24)) w.heap.size (.int .i64 K) (.int .i64 R) (.slice va vn vc) := by simp [Box3, go_sem]
  have hk1 := hok.k1
  have hk4 := hok.k4
  have hN0 : T.length / K ≤ 256 := Nat.le_trans (Nat.div_le_self _ _) hl
  have hEdge := fun (u s : Nat) (w' : World) (hgl : Glob r w') (hT : IntsAt w' (.slice va vn vc) T) (hu : u < T.length / K) (hs : s < K) => over_Edge r K R va vn vc T u s w' hgl hT hok hl hu hs
  have hNodes := fun (w' : World) (hgl : Glob r w') (hT : IntsAt w' (.slice va vn vc) T) => over_Nodes r K R va vn vc T w' hgl hT hok hl
  generalize T.length / K = N at *
  replace hEdge := Lib.hid hEdge
  replace hNodes := Lib.hid hNodes
  replace hg := Lib.hid (hg.below b0)
  replace h := Lib.hid (h.below b0)
  replace hok := Lib.hid hok
  go_enter Tryz.func61, Tryz.ntmps61
  go_wp2_with fail
  refine (hNodes.out _ hg.out h.out).mono ?_
  rintro e w1 ⟨x, y, rfl, b1, rfl, rfl⟩
  have q1 := q.below b1
  have b01 := Below.step b0 b1
  have hg1 := hg.out.below b1
  have hT1 := h.out.below b1
  clear q
  go_wp2_with fail
  obtain ⟨ov, w2, mk, ho, hb2⟩ := run_makeW oneArrows (N : Int) N w1 rfl (by omega)
  obtain ⟨f1, hr1, h1⟩ := AN.made N hb2 (Nat.le_refl _) ho
  obtain ⟨oa, on, oc, rfl⟩ := ho.shape
  have lo := fun w' => (ho.at).len oneArrows 3 w'
  rw [List.length_replicate] at lo
  rw [mk]
  simp only [Result.andThen]
  rw [← arrTo_zero K N T] at h1
  replace hr1 := Lib.hid hr1
  replace ho := Lib.hid ho
  replace q1 := Lib.hid q1
  replace hg1 := Lib.hid hg1
  replace hT1 := Lib.hid hT1
  clear mk
  go_wp2_with fail
  clear lo
  go_loopw [20] (fun kv wr => ∃ (k : Nat) (f : Names) (vals : List Value), k ≤ N ∧ kv = .int .i64 k ∧ Rows w1.heap.size wr f ∧ Below w1.heap.size w1 wr ∧ AN f (.slice oa on oc) vals N (arrTo K N T k 0)) (fun kv _ => N - (intOf kv).toNat)
  case atStart => exact ⟨0, f1, _, by omega, rfl, hr1.out, hb2, h1⟩
  case round =>
    clear h1 ho hr1 hb2
    obtain ⟨k, f2, vals, hk, rfl, hr2, b2, h2⟩ := hrel
    obtain ⟨wo, rfl⟩ : ∃ wo : World, wo = wr := ⟨_, rfl⟩
    by_cases hlt : k < N
    · have z0 := (q1.out.below b2).1.1
      replace hr2 := Lib.hid hr2
      go_wp2_with fail
      clear z0
      go_loopw [25] (fun jv wr => ∃ (j : Nat) (f : Names) (vals : List Value), j ≤ K ∧ jv = .int .i64 j ∧ Rows w1.heap.size wr f ∧ Below w1.heap.size w1 wr ∧ AN f (.slice oa on oc) vals N (arrTo K N T k j)) (fun jv _ => K - (intOf jv).toNat)
      case atStart => exact ⟨0, f2, vals, by omega, rfl, hr2.out, b2, h2⟩
      case round =>
        clear hr2 h2 b2
        obtain ⟨j, f3, vals, hj, rfl, hr3, b3, h3⟩ := hrel
        obtain ⟨wo, rfl⟩ : ∃ wo : World, wo = wr := ⟨_, rfl⟩
        by_cases hjl : j < K
        · obtain ⟨z0, z1, z2⟩ := (q1.out.below b3).1
          replace hr3 := Lib.hid hr3
          go_wp2_with fail
          refine (hEdge.out k j _ (hg1.out.below b3) (hT1.out.below b3) hlt hjl).mono ?_
          rintro e w4 ⟨x, y, z, rfl, b4, rfl, rfl, rfl⟩
          have hr4 := hr3.out.below b4
          have b34 := Below.trans b3 (b4.mono b3.size)
          clear z0 z1 z2
          have hOV := (hr4.ownV h3.outer).at
          have iO := fun w' => hOV.idx oneArrows k (by rw [h3.len]; exact hlt) w'
          have cO := hOV.cellV k (by rw [h3.len]; exact hlt)
          have hT := hr4.1 _ _ (h3.rows k hlt)
          have hB4 : w1.heap.size ≤ w4.heap.size := b34.size
          have happ := fun (w5 : World) (g c : Nat) => h3.app hr4 (w1 := w5) (g := g) (c := c) hlt (toN K N k j) (labN K T k j)
          rw [arrTo_at, ← arrL_succ, arrTo_step] at happ
          rw [arrTo_at] at hT
          unfold Row.own at hT
          simp only [arrL_len] at hT
          generalize vAt vals k = tv at *
          generalize valAt (.slice oa on oc) k = ua at *
          obtain ⟨X, hX⟩ : ∃ X, toN K N k j = X := ⟨_, rfl⟩
          obtain ⟨Y, hY⟩ : ∃ Y, labN K T k j = Y := ⟨_, rfl⟩
          rw [hX, hY] at happ ⊢
          replace happ := Lib.hid happ
          replace hr4 := Lib.hid hr4
          replace hOV := Lib.hid hOV
          replace hX := Lib.hid hX
          replace hY := Lib.hid hY
          go_wp2_with (at_builtin; go_loud (refine wpl_app2 twoArrow rfl _ _ rfl w1.heap.size tv j (flat2 (arrL K N T k j)) X Y _ hT rfl rfl (by simp) (by omega) hB4 ?_))
          intro g c w7 ho7 hal7
          obtain ⟨y1, y2, y3, f8, vals8, hr8, h8⟩ := happ.out w7 g c (by rw [arrL_len]; exact ho7) hal7
          rw [arrL_len] at hr8
          replace hr8 := Lib.hid hr8
          replace ho7 := Lib.hid ho7
          have b7 : Below w1.heap.size w4 w7 := by
            rcases hal7 with ⟨hv, hgr⟩ | ⟨_, hgr⟩
            · exact (Below.refl _ _).grown hgr hB4 (fun m hm => (World.ownsRow.lt hT m hm).1)
            · exact (Below.refl _ _).grown hgr hB4 (fun m hm => by cases hm)
          clear hal7 hT cO
          go_wp2
          go_roundw
          case measure => simp [intOf]; omega
          case rel => exact ⟨j + 1, f8, vals8, by omega, by go_num, hr8.out, (b34.trans b7).setCell y3 _, h8⟩
        · obtain rfl : j = K := by omega
          rw [arrTo_next] at h3
          replace hr3 := Lib.hid hr3
          go_wp2
          go_roundw
          case measure => simp [intOf]; omega
          case rel => exact ⟨k + 1, f3, vals, by omega, by go_num, hr3.out, b3, h3⟩
    · obtain rfl : k = N := by omega
      have hA := h2.reads hk1 hr2
      replace hA := Lib.hid hA
      replace hr2 := Lib.hid hr2
      have bE := Below.step b01 b2
      go_wp2
      go_ret
      exact ⟨_, rfl, bE, hA.out⟩
end Go.Proofs.YtmhiambkfdkkbaaGreatDoor

namespace Go.Proofs.YtmhiambkfdkkbaaGreatDoor

/-- Of the first m places those that are the first or differ from the place before. -/
def ded (zs : List Int) : Nat → List Int
  | 0 => []
  | m + 1 => ded zs m ++ if m = 0 ∨ zs.getD m 0 ≠ zs.getD (m - 1) 0 then [zs.getD m 0] else []
theorem ded_len (zs : List Int) : ∀ m, (ded zs m).length ≤ m
  | 0 => Nat.le_refl _
  | m + 1 => by
    have := ded_len zs m
    rw [ded, List.length_append]
    split <;> simp <;> omega
theorem sorted_getD {zs : List Int} (h : zs.Pairwise (· ≤ ·)) {i j : Nat} (hij : i ≤ j) (hj : j < zs.length) : zs.getD i 0 ≤ zs.getD j 0 := by
  simp only [List.getD_eq_getElem?_getD, List.getElem?_eq_getElem hj, List.getElem?_eq_getElem (show i < zs.length by omega), Option.getD_some]
  by_cases e : i = j
  · subst e; exact Int.le_refl _
  · exact List.pairwise_iff_getElem.1 h i j (by omega) hj (by omega)
theorem ded_spec {zs : List Int} (h : zs.Pairwise (· ≤ ·)) : ∀ m, m ≤ zs.length → (ded zs m).Pairwise (· < ·) ∧ (∀ x, x ∈ ded zs m ↔ x ∈ zs.take m)
  | 0, _ => by simp [ded]
  | m + 1, hm => by
    obtain ⟨h1, h2⟩ := ded_spec h m (by omega)
    have ht : zs.take (m + 1) = zs.take m ++ [zs.getD m 0] := by
      rw [List.take_add_one, List.getElem?_eq_getElem (show m < zs.length by omega)]
      simp [List.getD, show m < zs.length by omega]
    have top : ∀ x ∈ zs.take m, m ≠ 0 ∧ x ≤ zs.getD (m - 1) 0 := fun x hx => by
      obtain ⟨i, hi, e⟩ := List.mem_iff_getElem.1 hx
      have hi' : i < m := by rw [List.length_take] at hi; omega
      have := sorted_getD h (show i ≤ m - 1 by omega) (by omega)
      rw [List.getElem_take] at e
      rw [List.getD_eq_getElem?_getD, List.getElem?_eq_getElem (show i < zs.length by omega), Option.getD_some, e] at this
      exact ⟨by omega, this⟩
    rw [ded, ht]
    by_cases c : m = 0 ∨ zs.getD m 0 ≠ zs.getD (m - 1) 0
    · rw [if_pos c]
      refine ⟨List.pairwise_append.2 ⟨h1, by simp, fun a ha b hb => ?_⟩, fun x => by simp [h2]⟩
      rw [List.mem_singleton] at hb
      subst hb
      obtain ⟨t1, t2⟩ := top a ((h2 a).1 ha)
      have := sorted_getD h (show m - 1 ≤ m by omega) (by omega)
      rcases c with c | c <;> omega
    · rw [if_neg c, List.append_nil]
      refine ⟨h1, fun x => ?_⟩
      rw [h2, List.mem_append, List.mem_singleton]
      constructor
      · exact .inl
      · rintro (q | q)
        · exact q
        · have c2 : m ≠ 0 ∧ zs.getD m 0 = zs.getD (m - 1) 0 := by
            refine ⟨fun e => c (.inl e), ?_⟩
            apply Classical.byContradiction
            intro e; exact c (.inr e)
          rw [q, c2.2, List.mem_iff_getElem]
          refine ⟨m - 1, by rw [List.length_take]; omega, ?_⟩
          rw [List.getElem_take]
          simp [List.getD, show m - 1 < zs.length by omega]
theorem sorted_eqI : ∀ {L M : List Int}, L.Pairwise (· < ·) → M.Pairwise (· < ·) → (∀ v, v ∈ L ↔ v ∈ M) → L = M
  | [], [], _, _, _ => rfl
  | [], b :: M, _, _, h => absurd ((h b).2 List.mem_cons_self) (by simp)
  | a :: L, [], _, _, h => absurd ((h a).1 List.mem_cons_self) (by simp)
  | a :: L, b :: M, hL, hM, h => by
    obtain ⟨a1, a2⟩ := List.pairwise_cons.1 hL
    obtain ⟨b1, b2⟩ := List.pairwise_cons.1 hM
    have hab : a = b := by
      rcases List.mem_cons.1 ((h a).1 List.mem_cons_self) with e | e
      · exact e
      · rcases List.mem_cons.1 ((h b).2 List.mem_cons_self) with e2 | e2
        · exact e2.symm
        · have := b1 a e; have := a1 b e2; omega
    subst hab
    rw [sorted_eqI a2 b2 fun v => ?_]
    have := h v
    simp only [List.mem_cons] at this
    constructor
    · intro hv
      rcases this.1 (.inr hv) with e | e
      · subst e; exact absurd (a1 v hv) (Int.lt_irrefl _)
      · exact e
    · intro hv
      rcases this.2 (.inr hv) with e | e
      · subst e; exact absurd (b1 v hv) (Int.lt_irrefl _)
      · exact e
/-- Sorted, the doubles gone: the ascending list of what leads there. -/
theorem ded_pair {K N : Nat} {T : List Int} (hN : 0 < N) {p : Nat} {zs : List Int} (hs : zs.Pairwise (· ≤ ·)) (hm : ∀ x, x ∈ zs ↔ x ∈ (rawP K N T (p / N) (p % N) K).map fun (n : Nat) => (n : Int)) :
    ded zs zs.length = (pairL K N T p).map fun (n : Nat) => (n : Int) := by
  obtain ⟨h1, h2⟩ := ded_spec hs zs.length (Nat.le_refl _)
  refine sorted_eqI h1 (List.pairwise_map.2 ((pairL_sorted K N T p).imp fun h => by omega)) fun v => ?_
  rw [h2, List.take_length, hm]
  simp only [List.mem_map]
  constructor
  · rintro ⟨q, hq, rfl⟩; exact ⟨q, (mem_pairL hN).2 (mem_rawP.1 hq), rfl⟩
  · rintro ⟨q, hq, rfl⟩; exact ⟨q, mem_rawP.2 ((mem_pairL hN).1 hq), rfl⟩
end Go.Proofs.YtmhiambkfdkkbaaGreatDoor

namespace Go.Proofs.YtmhiambkfdkkbaaGreatDoor
open Go.RowKit Go.Shelf
set_option maxRecDepth 100000

def Tryz.laysCompact_ren : Go.Shelf.Ren := ⟨fun | 20 => 63 | n => n, fun | 22 => 22 | 3 => 3 | 4 => 4 | 0 => 0 | n => n, fun | n => n⟩
theorem Tryz.laysCompact : Go.Proofs.Lays2.n20 Tryz.prog Tryz.laysCompact_ren := {
  mixed := by kernel_rfl
  f20 := Tryz.func63.trans (congrArg some (by kernel_rfl))
  t0 := Tryz.underlying0
  a0 := Tryz.isAgg0
  z0 := Tryz.sizeOf0
  v0 := Tryz.zeroValue0
  t3 := Tryz.underlying3
  a3 := Tryz.isAgg3
  z3 := Tryz.sizeOf3
  v3 := Tryz.zeroValue3
  t4 := Tryz.underlying4
  a4 := Tryz.isAgg4
  z4 := Tryz.sizeOf4
  v4 := Tryz.zeroValue4
  t22 := Tryz.underlying22
  a22 := Tryz.isAgg22
  z22 := Tryz.sizeOf22
  v22 := Tryz.zeroValue22
  i3 := by kernel_rfl }

theorem compact_ded (zs : List Int) : Lib.compact zs = ded zs zs.length := by
  have : ∀ m, m ≤ zs.length → Lib.compactUpTo zs.toArray m = ded zs m := by
    intro m
    induction m with
    | zero => intro _; rfl
    | succ m ih =>
      intro hm
      rw [Lib.compactUpTo_succ, ih (by omega), ded]
      have e1 : zs.toArray[m]! = zs.getD m 0 := by
        rw [getElem!_pos zs.toArray m (by simp; omega)]; simp [List.getD, show m < zs.length by omega]
      have e2 : zs.toArray[m - 1]! = zs.getD (m - 1) 0 := by
        rw [getElem!_pos zs.toArray (m - 1) (by simp; omega)]; simp [List.getD, show m - 1 < zs.length by omega]
      unfold Lib.keeps
      rw [e1, e2]
      by_cases c : m = 0 ∨ zs.getD m 0 ≠ zs.getD (m - 1) 0
      · rw [if_pos c, if_pos (by simpa using c)]
      · rw [if_neg c, if_neg (by simpa using c)]
  exact this _ (Nat.le_refl _)
/-- One's own slice, cut at its front. -/
theorem OwnI.cutTo {B : Nat} {w : World} {a : Option Addr} {n c : Nat} {xs : List Int} (h : OwnI B w (.slice a n c) xs) (m : Nat) (hm : m ≤ xs.length) : OwnI B w (.slice a m c) (xs.take m) := by
  rcases h.2 with ⟨e, e2⟩ | ⟨g, cap, cur, e, hB, hg, hn, hcm, hs, ht⟩
  · injection e with e1 e3 e4
    subst e1 e4
    obtain rfl := List.length_eq_zero_iff.1 e2
    obtain rfl : m = 0 := by simpa using hm
    exact OwnI.nil B w
  · injection e with e1 e3 e4
    subst e1 e4
    have hl : (xs.take m).length = m := by simp; omega
    refine ⟨by simp, .inr ⟨g, c, cur, by rw [hl], hB, hg, by rw [hl]; omega, hcm, hs, ?_⟩⟩
    rw [hl, List.map_take, ← ht, List.take_take]
    congr 1
    omega
/-- slices.Compact at a list of one's own. -/
theorem compact_own (B : Nat) (v : Value) (xs : List Int) (w : World) (h : OwnI B w v xs) (hl : xs.length ≤ 9223372036854775807) :
    Calls Tryz.prog 63 #[v] w fun e w' => ∃ x, e = .returned x ∧ x.ownBlock = v.ownBlock ∧ OwnI B w' x (ded xs xs.length) ∧ Below B w w' := by
  rcases h.2 with ⟨rfl, hn⟩ | ⟨g, cap, cur, rfl, hb, hg, hn, hm, hs, ht⟩
  · obtain rfl := List.length_eq_zero_iff.1 hn
    refine Calls.mono (Any.slices_Compact_int_empty Tryz.laysCompact none 0 w) ?_
    rintro e w' ⟨rfl, rfl⟩
    exact ⟨_, rfl, rfl, h, Below.refl _ _⟩
  · refine Calls.mono (Any.slices_Compact_int_cells Tryz.laysCompact g 0 xs.length cap xs w (Nat.le_refl _) hl hn (fun j hj => ?_) (fun j hj => ?_)) ?_
    · have := h.at.cellD j hj
      rw [valAt_row] at this
      simpa using this
    · have := h.frz j hj
      rw [valAt_row] at this
      simpa using this
    · rintro e w' ⟨rfl, q, rfl⟩
      rw [List.take_length, compact_ded]
      have hd := ded_len xs xs.length
      have hL : (ded xs xs.length ++ List.replicate (xs.length - (ded xs xs.length).length) (0 : Int)).length = xs.length := by simp; omega
      have := setCells_own (w0 := w) (ded xs xs.length ++ List.replicate (xs.length - (ded xs xs.length).length) 0) 0 xs (w.drewN q) rfl (by rw [hL]; omega) (h.drewN q) (below_drewN (Below.refl _ _) q)
      rw [hL, List.take_zero, List.nil_append, Nat.zero_add, List.drop_length, List.append_nil] at this
      have ho := this.1.cutTo (ded xs xs.length).length (by rw [hL]; exact hd)
      rw [List.take_left'  rfl] at ho
      exact ⟨_, rfl, rfl, ho, this.2⟩
end Go.Proofs.YtmhiambkfdkkbaaGreatDoor

namespace Go.Proofs.YtmhiambkfdkkbaaGreatDoor
open Go.RowKit
set_option maxRecDepth 100000

theorem lenArr (g K c : Nat) (w : World) : (Builtin.len_ #[101] 3 #[.slice (some ⟨g, 0, none⟩) K c]).run Tryz.prog w = .ok (.int .i64 K) w := by
  rw [run_len_slice _ _ _ _ _ _ (by kernel_rfl)]; rfl
theorem idxArr (g K c s : Nat) (hs : s < K) (w : World) : (Instr.indexAt 101 (.slice (some ⟨g, 0, none⟩) K c) (.int .i64 s)).run Tryz.prog w = .ok (.pointer (some ⟨g, s * 2, none⟩)) w := by
  have e : Tryz.prog.elem 101 = 103 := by kernel_rfl
  have hz : ∀ w : World, (sizeOf 103).run Tryz.prog w = .ok 2 w := fun w => by kernel_rfl
  rw [run_indexAt_slice _ _ _ _ _ _ _ (by rw [e]; kernel_rfl), if_pos (by omega), e, hz]
  simp only [Result.andThen, Addr.add, Int.toNat_natCast]
  by_cases e : s * 2 = 0
  · rw [if_pos e]
    simp only [e]
  · rw [if_neg e]
    simp
/-- While the lists are written. -/
def pairTo (K N : Nat) (T : List Int) (k p : Nat) : List Int := if p < k then castI (pairL K N T p) else []
theorem pairTo_zero (K N : Nat) (T : List Int) : pairTo K N T 0 = fun _ => [] := by funext p; unfold pairTo; rw [if_neg (by omega)]
theorem pairTo_step (K N : Nat) (T : List Int) (k : Nat) : updN (pairTo K N T k) k (castI (pairL K N T k)) = pairTo K N T (k + 1) := by
  funext p
  unfold pairTo
  by_cases e : p = k
  · subst e; rw [updN_same, if_pos (by omega)]
  · rw [updN_other _ _ _ e]
    by_cases h : p < k
    · rw [if_pos h, if_pos (by omega)]
    · rw [if_neg h, if_neg (by omega)]
/-- The graph of pairs. -/
def pairG (K N : Nat) (T : List Int) : List (List Int) := rowsOf (N * N) fun p => castI (pairL K N T p)
theorem castI_append (a b : List Nat) : castI (a ++ b) = castI a ++ castI b := by simp [castI]

theorem cell_grown {w w' : World} {row : Option Nat} {p : Addr} {v : Value} (hg : w.grownBy w' row) (h : w.cell? p = some v) (hne : row ≠ some p.block) : w'.cell? p = some v :=
  (World.cell?_of_block (hg.block _ (World.block_lt_of_cell? _ _ h) (fun e => hne e.symm))).trans h
theorem Rows.monoB {B B' : Nat} {w : World} {f : Names} (h : Rows B w f) (hB : B' ≤ B) : Rows B' w f :=
  ⟨fun i r hi => by
    have ho := h.1 i r hi
    refine ⟨ho.1, ?_⟩
    rcases ho.2 with h2 | ⟨g, cap, cur, e, hb, r⟩
    · exact .inl h2
    · exact .inr ⟨g, cap, cur, e, Nat.le_trans hB hb, r⟩, h.2⟩

set_option maxHeartbeats 1000000 in
theorem pgraph_ok (r : Nat → Addr) (K R : Nat) (va : Option Addr) (vn vc : Nat) (T : List Int) (w : World) (hg : Glob r w) (h : IntsAt w (.slice va vn vc) T) (hr : RuleOk K R T) (hl : T.length ≤ 256) :
    Calls Tryz.prog 22 #[.agg #[.int .i64 K, .int .i64 R, .slice va vn vc]] w (Ret2 (fun x y w' => y = .nilIface ∧ ∃ f vals, Rows w.heap.size w' f ∧ WN f x vals (pw K (2 * wkR R) * pw K (2 * wkR R)) (fun p => castI (pairL K (pw K (2 * wkR R)) (wkT K R T) p))) w) := by
  have b0 := belowAlloc w (.cells #[.int .i64 K, .int .i64 R, .slice va vn vc] 24)
  have q : Box3 (w.alloc (.cells #[.int .i64 K, .int .i64 R, .slice va vn vc] 24)) w.heap.size (.int .i64 K) (.int .i64 R) (.slice va vn vc) := by simp [Box3, go_sem]
  have hk1 := hr.k1
  have hk4 := hr.k4
  have hokW := wk_ok hr
  have hlW := wk_small hr hl
  have hRW := wk_pos R
  have hN81 := nodes_le hokW hRW hlW
  obtain ⟨hdiv, hlen⟩ := hokW.half
  have hN1 := pw_pos (K := K) (2 * wkR R) hk1
  have hwork := fun (w' : World) (hgl : Glob r w') (hT : IntsAt w' (.slice va vn vc) T) => working_ok r K R va vn vc T w' hgl hT hr hl
  have harr := fun (a : Option Addr) (n c : Nat) (w' : World) (hgl : Glob r w') (hT : IntsAt w' (.slice a n c) (wkT K R T)) => arrows_any r K (wkR R) a n c (wkT K R T) w' hgl hT hokW hlW
  rw [hdiv] at harr
  generalize pw K (2 * wkR R) = N at *
  generalize wkT K R T = T' at *
  generalize wkR R = R' at *
  replace hwork := Lib.hid hwork
  replace harr := Lib.hid harr
  replace hg := Lib.hid (hg.below b0)
  replace h := Lib.hid (h.below b0)
  replace hokW := Lib.hid hokW
  replace hr := Lib.hid hr
  replace hdiv := Lib.hid hdiv
  replace hlen := Lib.hid hlen
  go_enter Tryz.func22, Tryz.ntmps22
  go_wp2_with fail
  refine (hwork.out _ hg.out h.out).mono ?_
  rintro e w1 ⟨x, y, rfl, b1, rfl, a, n, c, rfl, hT1⟩
  have b01 := Below.step b0 b1
  have ba := belowAlloc w1 (.cells #[.int .i64 K, .int .i64 R', .slice a n c] 24)
  have q1 : Box3 (w1.alloc (.cells #[.int .i64 K, .int .i64 R', .slice a n c] 24)) w1.heap.size (.int .i64 K) (.int .i64 R') (.slice a n c) := by simp [Box3, go_sem]
  have b02 := Below.step b01 ba
  have b12 := Below.step b1 ba
  have hT2 := hT1.below ba
  clear q
  replace hT1 := Lib.hid hT1
  replace hT2 := Lib.hid hT2
  go_wp2_with fail
  refine (harr.out a n c _ (hg.out.below b12) hT2.out).mono ?_
  rintro e w3 ⟨lv, rfl, b3, hA⟩
  have b03 := Below.step b02 b3
  clear q1
  obtain ⟨vs, hvs, hvl, hrows⟩ := hA
  obtain ⟨la, ln, lc, rfl⟩ := hvs.shape
  have ll := fun w' => hvs.len oneArrows 3 w'
  rw [hvl] at ll
  have hNN : (N : Int) * (N : Int) = ((N * N : Nat) : Int) := by simp
  have hM6 : N * N ≤ 6561 := Nat.mul_le_mul hN81 hN81
  have hNz1 : ¬ (N : Int) = 0 := by omega
  have hNz2 : ((N : Int) == 0) = false := by rw [beq_eq_false_iff_ne]; omega
  have hNz3 : (0 : Int) < N := by omega
  have hNz4 : ¬ N = 0 := by omega
  obtain ⟨M, hM⟩ : ∃ M, N * N = M := ⟨_, rfl⟩
  rw [hM] at hNN hM6
  have hwM : IntKind.i64.wrap (M : Int) = M := wrapK (by omega) (by omega)
  obtain ⟨ov, w4, mk, ho, hb4⟩ := run_makeW oneLists (M : Int) M w3 rfl (by omega)
  obtain ⟨f1, hr1, h1⟩ := WN.made M hb4 (Nat.le_refl _) ho
  obtain ⟨oa, on, oc, rfl⟩ := ho.shape
  have lo := fun w' => (ho.at).len oneLists 3 w'
  rw [List.length_replicate] at lo
  rw [← pairTo_zero K N T'] at h1
  replace hvs := Lib.hid hvs
  replace hrows := Lib.hid hrows
  replace hr1 := Lib.hid hr1
  replace ho := Lib.hid ho
  replace hM := Lib.hid hM
  go_wp2_with fail
  clear mk lo ll
  go_loopw [33] (fun kv wr => ∃ (k : Nat) (f : Names) (vals : List Value), k ≤ M ∧ kv = .int .i64 k ∧ Rows w3.heap.size wr f ∧ Below w3.heap.size w3 wr ∧ WN f (.slice oa on oc) vals M (pairTo K N T' k)) (fun kv _ => M - (intOf kv).toNat)
  case atStart => exact ⟨0, f1, _, by omega, rfl, hr1.out, hb4, h1⟩
  case round =>
    clear h1 ho hr1 hb4
    obtain ⟨k, f2, vals, hk, rfl, hr2, b2, h2⟩ := hrel
    obtain ⟨wo, rfl⟩ : ∃ wo : World, wo = wr := ⟨_, rfl⟩
    by_cases hlt : k < M
    · obtain ⟨u, hu⟩ : ∃ u, k / N = u := ⟨_, rfl⟩
      obtain ⟨v, hv⟩ : ∃ v, k % N = v := ⟨_, rfl⟩
      have hun : u < N := by rw [← hu]; exact div_lt_of (by rw [hM.out]; exact hlt)
      have hvn : v < N := by rw [← hv]; exact Nat.mod_lt _ (by omega)
      have hqu : (k : Int) / (N : Int) = (u : Int) := by rw [← hu]; simp
      have hqv : (k : Int) % (N : Int) = (v : Int) := by rw [← hv]; simp
      have hqu2 : (k : Int).tdiv (N : Int) = (u : Int) := by rw [Int.tdiv_eq_ediv_of_nonneg (by omega)]; exact hqu
      have hqv2 : (k : Int).tmod (N : Int) = (v : Int) := by rw [Int.tmod_eq_emod_of_nonneg (by omega)]; exact hqv
      have hwu : IntKind.i64.wrap (u : Int) = u := wrapK (by omega) (by omega)
      have hwv : IntKind.i64.wrap (v : Int) = v := wrapK (by omega) (by omega)
      obtain ⟨gu, cu, eu, hcu, hcellU⟩ := hrows.out u hun
      obtain ⟨gv, cv, ev, hcv, hcellV⟩ := hrows.out v hvn
      have iU := fun w' => hvs.out.idx oneArrows u (by omega) w'
      have iV := fun w' => hvs.out.idx oneArrows v (by omega) w'
      have cU3 := hvs.out.cellV u (by omega)
      have cV3 := hvs.out.cellV v (by omega)
      rw [eu] at cU3
      rw [ev] at cV3
      have cU := (b2.cell (World.block_lt_of_cell? _ _ cU3)).trans cU3
      generalize valAt (.slice la ln lc) u = ua at *
      have lenU := lenArr gu K cu
      have lenV := lenArr gv K cv
      have idxU := fun s (hs : s < K) w' => idxArr gu K cu s hs w'
      have idxV := fun s (hs : s < K) w' => idxArr gv K cv s hs w'
      have hcU := fun (w' : World) (hb : Below w3.heap.size w3 w') s (hs : s < K) => (⟨cell_keep hb (hcellU s hs).1, cell_keep hb (hcellU s hs).2⟩ : w'.cell? ⟨gu, s * 2, none⟩ = some (.int .i64 (toN K N u s)) ∧ w'.cell? ⟨gu, s * 2 + 1, none⟩ = some (.int .i64 (labN K T' u s)))
      have hcV := fun (w' : World) (hb : Below w3.heap.size w3 w') s (hs : s < K) => (⟨cell_keep hb (hcellV s hs).1, cell_keep hb (hcellV s hs).2⟩ : w'.cell? ⟨gv, s * 2, none⟩ = some (.int .i64 (toN K N v s)) ∧ w'.cell? ⟨gv, s * 2 + 1, none⟩ = some (.int .i64 (labN K T' v s)))
      have cVk := fun (w' : World) (hb : Below w3.heap.size w3 w') => (hb.cell (World.block_lt_of_cell? _ _ cV3)).trans cV3
      generalize valAt (.slice la ln lc) v = va' at *
      replace hcU := Lib.hid hcU
      replace hcV := Lib.hid hcV
      replace cVk := Lib.hid cVk
      replace idxU := Lib.hid idxU
      replace idxV := Lib.hid idxV
      replace hcellU := Lib.hid hcellU
      replace hcellV := Lib.hid hcellV
      replace hr2 := Lib.hid hr2
      replace hu := Lib.hid hu
      replace hv := Lib.hid hv
      replace eu := Lib.hid eu
      replace ev := Lib.hid ev
      clear cU3 cV3
      go_wp2_with fail
      clear cU iU
      go_loopw [10, 43] (fun tv sv wr => ∃ (s : Nat) (tw : Value), s ≤ K ∧ sv = .int .i64 s ∧ tw = tv ∧ OwnI wo.heap.size wr tw (castI (rawP K N T' u v s)) ∧ Below wo.heap.size wo wr) (fun _ sv _ => K - (intOf sv).toNat)
      case atStart => exact ⟨0, _, by omega, rfl, rfl, OwnI.nil _ _, Below.refl _ _⟩
      case round =>
        obtain ⟨s, tv, hs, rfl, rfl, hoT, bT⟩ := hrel
        obtain ⟨wt, rfl⟩ : ∃ wt : World, wt = wr := ⟨_, rfl⟩
        by_cases hsl : s < K
        · have b3t := b2.trans (bT.mono b2.size)
          have iS := fun w' => idxU.out s hsl w'
          obtain ⟨cS0, cS1⟩ := hcU.out wt b3t s hsl
          obtain ⟨X, hX⟩ : ∃ X, toN K N u s = X := ⟨_, rfl⟩
          obtain ⟨Y, hY⟩ : ∃ Y, labN K T' u s = Y := ⟨_, rfl⟩
          rw [hX] at cS0
          rw [hY] at cS1
          have hXN : X < N := by rw [← hX]; exact toN_lt (by omega)
          have bA := belowAlloc wt (.cells #[.int .i64 X, .int .i64 Y] 103)
          have bTA := bT.trans (bA.mono bT.size)
          have b3A := b3t.trans (bA.mono b3t.size)
          have cA0 : (wt.alloc (.cells #[.int .i64 X, .int .i64 Y] 103)).cell? ⟨wt.heap.size, 0, none⟩ = some (.int .i64 X) := by simp [go_sem]
          have cA1 : (wt.alloc (.cells #[.int .i64 X, .int .i64 Y] 103)).cell? ⟨wt.heap.size, 1, none⟩ = some (.int .i64 Y) := by simp [go_sem]
          have cV := cVk.out _ b3A
          have hoA := hoT.below bA
          have hneT : tv.ownBlock ≠ some wt.heap.size := fun e => by have := (hoT.lt _ e).2; omega
          replace hoT := Lib.hid hoT
          replace hoA := Lib.hid hoA
          replace hX := Lib.hid hX
          replace hY := Lib.hid hY
          replace cA0 := Lib.hid cA0
          replace cA1 := Lib.hid cA1
          go_wp2_with fail
          obtain ⟨wa, hwa⟩ : ∃ wa : World, wa = wt.alloc (.cells #[.int .i64 X, .int .i64 Y] 103) := ⟨_, rfl⟩
          rw [← hwa] at bA bTA b3A cA0 cA1 cV hoA ⊢
          replace hwa := Lib.hid hwa
          go_loopw [10, 54] (fun tv' jv wr => ∃ (j : Nat) (tw : Value), j ≤ K ∧ jv = .int .i64 j ∧ tw = tv' ∧ OwnI wo.heap.size wr tw (castI (rawP K N T' u v s ++ rawS K N T' u v s j)) ∧ Below wo.heap.size wo wr ∧ tw.ownBlock ≠ some wt.heap.size ∧ wr.cell? ⟨wt.heap.size, 0, none⟩ = some (.int .i64 X) ∧ wr.cell? ⟨wt.heap.size, 1, none⟩ = some (.int .i64 Y)) (fun _ jv _ => K - (intOf jv).toNat)
          case atStart => exact ⟨0, _, by omega, rfl, rfl, by simpa [rawS] using hoA.out, bTA, hneT, cA0.out, cA1.out⟩
          case round =>
            obtain ⟨j, tj, hj, rfl, rfl, hoJ, bJ, hne, y0, y1⟩ := hrel
            obtain ⟨wj, rfl⟩ : ∃ wj : World, wj = wr := ⟨_, rfl⟩
            by_cases hjl : j < K
            · have b3j := b2.trans (bJ.mono b2.size)
              have iJ := fun w' => idxV.out j hjl w'
              obtain ⟨cJ0, cJ1⟩ := hcV.out wj b3j j hjl
              obtain ⟨X2, hX2⟩ : ∃ X, toN K N v j = X := ⟨_, rfl⟩
              obtain ⟨Y2, hY2⟩ : ∃ Y, labN K T' v j = Y := ⟨_, rfl⟩
              rw [hX2] at cJ0
              rw [hY2] at cJ1
              have hXN2 : X2 < N := by rw [← hX2]; exact toN_lt (by omega)
              have bA2 := belowAlloc wj (.cells #[.int .i64 X2, .int .i64 Y2] 103)
              have y0' := cell_keep bA2 y0
              have y1' := cell_keep bA2 y1
              have bJA := bJ.trans (bA2.mono bJ.size)
              have hoJA := hoJ.below bA2
              have hsz := bJA.size
              have hwt : wt.heap.size < wj.heap.size := World.block_lt_of_cell? _ _ y0
              have hlenJ : (castI (rawP K N T' u v s ++ rawS K N T' u v s j)).length ≤ 100 := by
                rw [castI_len, List.length_append]
                have e1 := rawP_len K N T' u v s
                have e2 := rawS_len K N T' u v s j
                have e3 := Nat.mul_le_mul hs hk4
                omega
              replace hoJ := Lib.hid hoJ
              replace hX2 := Lib.hid hX2
              replace hY2 := Lib.hid hY2
              have cB0 : (wj.alloc (.cells #[.int .i64 X2, .int .i64 Y2] 103)).cell? ⟨wj.heap.size, 0, none⟩ = some (.int .i64 X2) := by simp [go_sem]
              have cB1 : (wj.alloc (.cells #[.int .i64 X2, .int .i64 Y2] 103)).cell? ⟨wj.heap.size, 1, none⟩ = some (.int .i64 Y2) := by simp [go_sem]
              go_upto_region 17 with fail
              obtain ⟨wb, hwb⟩ : ∃ wb : World, wb = wj.alloc (.cells #[.int .i64 X2, .int .i64 Y2] 103) := ⟨_, rfl⟩
              rw [← hwb] at bA2 y0' y1' bJA hoJA hsz cB0 cB1 ⊢
              have hszb : wj.heap.size < wb.heap.size := World.block_lt_of_cell? _ _ cB0
              replace hszb := Lib.hid hszb
              replace hwb := Lib.hid hwb
              by_cases hYY : Y = Y2
              · have hYq : (Y == Y2) = true := by rw [beq_iff_eq]; exact hYY
                have hraw : rawS K N T' u v s (j + 1) = rawS K N T' u v s j ++ [X * N + X2] := by
                  rw [rawS_succ]; unfold rawT
                  rw [hY.out, hY2.out, hX.out, hX2.out, if_pos hYY]
                obtain ⟨m, hm⟩ : ∃ m, X * N = m := ⟨_, rfl⟩
                have hm1 : (X : Int) * (N : Int) = (m : Int) := by rw [← hm]; simp
                have hml : m ≤ 6561 := by rw [← hm]; exact Nat.le_trans (Nat.mul_le_mul (show X ≤ 81 by omega) hN81) (by decide)
                have hwm : IntKind.i64.wrap (m : Int) = m := wrapK (by omega) (by omega)
                have hsum : (m : Int) + (X2 : Int) = ((m + X2 : Nat) : Int) := by simp
                rw [hm] at hraw
                obtain ⟨z, hz⟩ : ∃ z, m + X2 = z := ⟨_, rfl⟩
                rw [hz] at hsum hraw
                have hzl : z ≤ 7000 := by omega
                have hwz : IntKind.i64.wrap (z : Int) = z := wrapK (by omega) (by omega)
                replace hraw := Lib.hid hraw
                replace hm := Lib.hid hm
                replace hz := Lib.hid hz
                replace hYY := Lib.hid hYY
                go_wp2_with (at_builtin; go_loud (refine wpl_app1 rfl _ _ rfl wo.heap.size tj _ z hoJA rfl rfl (by omega) hsz ?_))
                intro v' w7 ho7 b7 hal
                have hne' : v'.ownBlock ≠ some wt.heap.size := by
                  rcases hal with ⟨q1, _⟩ | ⟨m, q1, q2, _⟩
                  · rw [ownBlock_eq hoJA ho7 q1]; exact hne
                  · rw [q1]; intro e; injection e with e; have := hszb.out; omega
                have y07 : w7.cell? ⟨wt.heap.size, 0, none⟩ = some (.int .i64 X) ∧ w7.cell? ⟨wt.heap.size, 1, none⟩ = some (.int .i64 Y) := by
                  rcases hal with ⟨_, q2⟩ | ⟨_, _, _, q2⟩
                  · exact ⟨cell_grown q2 y0' hne, cell_grown q2 y1' hne⟩
                  · exact ⟨cell_grown q2 y0' (by simp), cell_grown q2 y1' (by simp)⟩
                obtain ⟨ta, tn, tc, rfl⟩ := ho7.at.shape
                replace ho7 := Lib.hid ho7
                replace y07 := Lib.hid y07
                clear hal
                go_wp2
                go_roundw
                case measure => simp [intOf]; omega
                case rel => exact ⟨j + 1, _, by omega, by go_num, rfl, by rw [hraw.out, ← List.append_assoc, castI_snoc]; exact ho7.out, bJA.trans b7, hne', y07.out.1, y07.out.2⟩
              · have hYq : (Y == Y2) = false := by rw [beq_eq_false_iff_ne]; exact hYY
                have hraw : rawS K N T' u v s (j + 1) = rawS K N T' u v s j := by
                  rw [rawS_succ]; unfold rawT
                  rw [hY.out, hY2.out, if_neg hYY, List.append_nil]
                replace hraw := Lib.hid hraw
                replace hoJA := Lib.hid hoJA
                replace hYY := Lib.hid hYY
                go_wp2
                go_roundw
                case measure => simp [intOf]; omega
                case rel => exact ⟨j + 1, _, by omega, by go_num, rfl, by rw [hraw.out]; exact hoJA.out, bJA, hne, y0', y1'⟩
            · obtain rfl : j = K := by omega
              rw [← rawP_succ] at hoJ
              replace hoJ := Lib.hid hoJ
              go_wp2
              go_roundw
              case measure => simp [intOf]; omega
              case rel => exact ⟨s + 1, _, by omega, by go_num, rfl, hoJ.out, bJ⟩
        · obtain rfl : s = K := by omega
          have hlT : (castI (rawP s N T' u v s)).length ≤ 17592186044416 := by
            rw [castI_len]
            have e1 := rawP_len s N T' u v s
            have e3 := Nat.mul_le_mul hk4 hk4
            omega
          have hsz := bT.size
          replace hoT := Lib.hid hoT
          go_wp2_with fail
          refine (sort_own wo.heap.size tv _ wt hoT.out hlT hsz).mono ?_
          rintro e w8 ⟨rfl, ho8, b8⟩
          have bT8 := bT.trans b8
          replace ho8 := Lib.hid ho8
          go_wp2_with fail
          refine (compact_own wo.heap.size tv _ w8 ho8.out (by rw [srt_length]; omega)).mono ?_
          rintro e w9 ⟨x, rfl, _, ho9, b9⟩
          have bT9 := bT8.trans b9
          have hded : ded (srt (castI (rawP s N T' u v s))) (srt (castI (rawP s N T' u v s))).length = castI (pairL s N T' k) := by
            refine ded_pair (by omega) (srt_sorted _) (fun x => ?_)
            rw [srt_mem, hu.out, hv.out]; rfl
          rw [hded] at ho9
          have hnew := h2.new hr2.out k bT9 b2.size ho9
          obtain ⟨y1, y2, y3, f8, hr8, h8, _⟩ := h2.put hlt hnew
          rw [pairTo_step] at h8
          have iO := fun w' => ((hr2.out.ownV h2.outer).at).idx oneLists k (by rw [h2.len]; exact hlt) w'
          generalize valAt (.slice oa on oc) k = ka at *
          obtain ⟨xa, xn, xc, rfl⟩ := ho9.at.shape
          have b39 := b2.trans (bT9.mono b2.size)
          replace hr8 := Lib.hid hr8
          replace ho9 := Lib.hid ho9
          replace hded := Lib.hid hded
          replace hnew := Lib.hid hnew
          go_wp2
          go_roundw
          case measure => simp [intOf]; omega
          case rel => exact ⟨k + 1, f8, _, by omega, by go_num, hr8.out, b39.setCell y3 _, h8⟩
    · obtain rfl : k = M := by omega
      have hR := hr2.monoB (Nat.le_trans b03.size (Nat.le_refl _))
      have hW : WN f2 (.slice oa on oc) vals (N * N) (fun p => castI (pairL K N T' p)) := by
        rw [hM.out]
        exact ⟨h2.outer, h2.len, fun u hu => by rw [h2.rows u hu]; unfold pairTo; rw [if_pos hu]⟩
      have bE := Below.step b03 b2
      replace hR := Lib.hid hR
      replace hr2 := Lib.hid hr2
      go_wp2
      go_ret2
      exact ⟨_, _, rfl, bE, rfl, _, _, hR.out, hW⟩
end Go.Proofs.YtmhiambkfdkkbaaGreatDoor

namespace Go.Proofs.YtmhiambkfdkkbaaGreatDoor
open Go.RowKit
set_option maxRecDepth 100000

theorem Rows.void (B : Nat) (w : World) : Rows B w (fun _ => Option.none) := by
  refine ⟨?_, ?_⟩
  · intro i r h; cases h
  · intro i j r s h; cases h
theorem Rows.push {B : Nat} {w w1 : World} {f : Names} {i : Nat × Nat} {v v' : Value} {xs : List Int} (h : Rows B w f) (hi : f i = some (rowI v xs)) (x : Int) (ho : OwnI B w1 v' (xs ++ [x]))
    (hg : w.grownBy w1 v.ownBlock) (hal : v'.ownBlock = v.ownBlock ∨ ∃ k, v'.ownBlock = some k ∧ w.heap.size ≤ k) : Rows B w1 (upd f i (some (rowI v' (xs ++ [x])))) :=
  h.grown (r' := rowI v' (xs ++ [x])) hi hg ho hal
theorem alongW_snoc (K m : Nat) (F : Nat → Nat) (l : List Nat) (p : Nat) (hl : l ≠ []) : alongW K m F (l ++ [p]) = alongW K m F l ++ [((F p % K : Nat) : Int)] := by
  cases l with
  | nil => exact absurd rfl hl
  | cons a l => simp [alongW, List.getD]
theorem alongW_one (K m : Nat) (F : Nat → Nat) (p : Nat) : alongW K m F [p] = digs K m (F p) := by simp [alongW, List.getD]

/-- pairs.wrong. -/
theorem pairs_wrong (r : Nat → Addr) (at_ n : Int) (w : World) (hg : Glob r w) (h1 : 1 ≤ n) (h2 : n ≤ 11) :
    Calls Tryz.prog 76 #[.int .i64 at_, .int .i64 n] w (Ret1 (fun v w' => ErrIs r w' (fresh sPairs at_ n) v) w) := by
  go_enter Tryz.func76, Tryz.ntmps76
  go_wp2_with fail
  refine (new_any r _ at_ n w hg h1 h2).mono ?_
  rintro e w' ⟨v, rfl, hb, he⟩
  go_wp2
  go_ret
  exact ⟨_, rfl, hb, he⟩

theorem pwords_bad (r : Nat → Addr) (k R : Int) (va : Option Addr) (vn vc : Nat) (T : List Int) (u : Value) (t : Int × List (ByteArray × Int)) (w : World) (hg : Glob r w) (h : IntsAt w (.slice va vn vc) T) (hc : smallP k R T = some t) :
    Calls Tryz.prog 33 #[.agg #[.int .i64 k, .int .i64 R, .slice va vn vc], u] w (Ret3 (fun x y z w' => x = .slice none 0 0 ∧ y = .slice none 0 0 ∧ ErrIs r w' (under sPairs 0 (some t)) z) w) := by
  have b0 := belowAlloc w (.cells #[.int .i64 k, .int .i64 R, .slice va vn vc] 24)
  replace hg := Lib.hid (hg.below b0)
  replace h := Lib.hid (h.below b0)
  replace hc := Lib.hid hc
  go_enter Tryz.func33, Tryz.ntmps33
  go_wp2_with fail
  refine (working_bad r k R va vn vc T t _ hg.out h.out hc.out).mono ?_
  rintro e w1 ⟨x, y, rfl, b1, rfl, hy⟩
  obtain ⟨T2, a2, rfl⟩ : ∃ T a, y = .iface T (.pointer (some a)) := by
    unfold under at hy
    exact ErrIs.some_shape hy
  have ba := belowAlloc w1 (.cells #[.int .i64 0, .int .i64 0, .slice none 0 0] 24)
  have hy2 := hy.below ba
  replace hy := Lib.hid hy
  replace hy2 := Lib.hid hy2
  go_wp2
  go_ret3
  exact ⟨_, _, _, rfl, Below.step b0 (Below.step b1 ba), rfl, rfl, hy2.out⟩

/-- Is it a list of vertices? -/
def WayOk (N : Nat) (way : List Int) : Prop := way ≠ [] ∧ ∀ p ∈ way, 0 ≤ p ∧ p < ((N * N : Nat) : Int)
def AllFit (K N : Nat) (T : List Int) (ns : List Nat) : Prop := ∀ i, i + 1 < ns.length → StepFits K N T (ns.getD i 0) (ns.getD (i + 1) 0)
theorem WayOk.nat {N : Nat} {way : List Int} (h : WayOk N way) : ∃ ns : List Nat, way = castI ns ∧ ns ≠ [] ∧ ∀ p ∈ ns, p < N * N := by
  refine ⟨way.map Int.toNat, ?_, by simpa using h.1, fun p hp => ?_⟩
  · unfold castI
    rw [List.map_map]
    refine (List.map_id _).symm.trans (List.map_congr_left fun p hp => ?_)
    have := h.2 p hp
    show p = ((p.toNat : Nat) : Int)
    omega
  · obtain ⟨q, hq, rfl⟩ := List.mem_map.1 hp
    have := h.2 q hq
    omega

set_option maxHeartbeats 1000000 in
theorem pwords_odd (r : Nat → Addr) (K R : Nat) (va : Option Addr) (vn vc : Nat) (T : List Int) (u : Value) (way : List Int) (w : World) (hg : Glob r w) (h : IntsAt w (.slice va vn vc) T) (hr : RuleOk K R T) (hl : T.length ≤ 256) (hu : IntsAt w u way) (hno : ¬ WayOk (pw K (2 * wkR R)) way) :
    Calls Tryz.prog 33 #[.agg #[.int .i64 K, .int .i64 R, .slice va vn vc], u] w (Ret3 (fun x y z w' => x = .slice none 0 0 ∧ y = .slice none 0 0 ∧ ErrIs r w' (fresh sPairs 1 3) z) w) := by
  have b0 := belowAlloc w (.cells #[.int .i64 K, .int .i64 R, .slice va vn vc] 24)
  have hk1 := hr.k1
  have hokW := wk_ok hr
  have hlW := wk_small hr hl
  have hRW := wk_pos R
  have hN81 := nodes_le hokW hRW hlW
  obtain ⟨hdiv, hlen⟩ := hokW.half
  have hwork := fun (w' : World) (hgl : Glob r w') (hT : IntsAt w' (.slice va vn vc) T) => working_ok r K R va vn vc T w' hgl hT hr hl
  have hNodes := fun (a : Option Addr) (n c : Nat) (w' : World) (hgl : Glob r w') (hT : IntsAt w' (.slice a n c) (wkT K R T)) => over_Nodes r K (wkR R) a n c (wkT K R T) w' hgl hT hokW hlW
  rw [hdiv] at hNodes
  generalize pw K (2 * wkR R) = N at *
  generalize wkT K R T = T' at *
  generalize wkR R = R' at *
  have lu := hu.len
  obtain ⟨ua, un, uc, rfl⟩ := hu.shape
  replace hwork := Lib.hid hwork
  replace hNodes := Lib.hid hNodes
  replace hg := Lib.hid (hg.below b0)
  replace h := Lib.hid (h.below b0)
  replace hu := Lib.hid (hu.below b0)
  replace hokW := Lib.hid hokW
  replace hr := Lib.hid hr
  replace hdiv := Lib.hid hdiv
  replace hlen := Lib.hid hlen
  go_enter Tryz.func33, Tryz.ntmps33
  go_wp2_with fail
  refine (hwork.out _ hg.out h.out).mono ?_
  rintro e w1 ⟨x, y, rfl, b1, rfl, a, n, c, rfl, hT1⟩
  have ba := belowAlloc w1 (.cells #[.int .i64 K, .int .i64 R', .slice a n c] 24)
  have b12 := Below.step b1 ba
  have hT2 := hT1.below ba
  replace hT1 := Lib.hid hT1
  replace hT2 := Lib.hid hT2
  go_wp2_with fail
  refine (hNodes.out a n c _ (hg.out.below b12) hT2.out).mono ?_
  rintro e w3 ⟨x, y, rfl, b3, rfl, rfl⟩
  have bb := belowAlloc w3 (.cells #[.int .i64 N] 3)
  have b14 := Below.step b12 (Below.step b3 bb)
  have cN : (w3.alloc (.cells #[.int .i64 N] 3)).cell? ⟨w3.heap.size, 0, none⟩ = some (.int .i64 N) := by simp [go_sem]
  have hcf := containsFunc_any (.slice ua un uc) (.pointer (some ⟨w3.heap.size, 0, none⟩)) 75 way (odd1 ((N * N : Nat) : Int)) _ (hu.out.below b14) eg_words1 (fun x _ => words1_any x w3.heap.size N _ (by omega) cN)
  replace hcf := Lib.hid hcf
  replace cN := Lib.hid cN
  have hg4 := hg.out.below b14
  replace hg4 := Lib.hid hg4
  by_cases hw : way = []
  · subst hw
    go_wp2_with fail
    refine (pairs_wrong r _ _ _ hg4.out (by decide) (by decide)).mono ?_
    rintro e w5 ⟨x, rfl, b5, he⟩
    go_wp2
    go_ret3
    exact ⟨_, _, _, rfl, Below.step b0 (Below.step b14 b5), rfl, rfl, he⟩
  · have hl0 : ¬ way.length = 0 := fun e => hw (List.length_eq_zero_iff.1 e)
    have hl1 : ((way.length : Int) == 0) = false := by rw [beq_eq_false_iff_ne]; omega
    have hhit : decide (0 ≤ idxOf (odd1 ((N * N : Nat) : Int)) way) = true := by
      rw [decide_eq_true_iff]
      rcases idxOf_cases (odd1 ((N * N : Nat) : Int)) way with ⟨_, q⟩ | ⟨k, q, _⟩
      · exact absurd ⟨hw, fun p hp => odd1_false.1 (q p hp)⟩ hno
      · rw [q]; omega
    replace hw := Lib.hid hw
    replace hhit := Lib.hid hhit
    go_wp2_with fail
    refine hcf.out.mono ?_
    rintro e w5 ⟨rfl, rfl⟩
    rw [hhit.out]
    go_wp2_with fail
    refine (pairs_wrong r _ _ _ hg4.out (by decide) (by decide)).mono ?_
    rintro e w5 ⟨x, rfl, b5, he⟩
    go_wp2
    go_ret3
    exact ⟨_, _, _, rfl, Below.step b0 (Below.step b14 b5), rfl, rfl, he⟩
end Go.Proofs.YtmhiambkfdkkbaaGreatDoor

namespace Go.Proofs.YtmhiambkfdkkbaaGreatDoor
open Go.RowKit
set_option maxRecDepth 100000

theorem look1_any (x k : Int) (b : Nat) (w : World) (hb : w.cell? ⟨b, 0, none⟩ = some (.int .i64 k)) :
    Calls Tryz.prog 128 #[.int .i64 x, .pointer (some ⟨b, 0, none⟩)] w fun e w' => e = .returned (.bool (odd1 k x)) ∧ w = w' := by
  by_cases h : x < 0
  · have e : odd1 k x = true := by simp [odd1, h]
    rw [e]
    go_enter Tryz.func128, Tryz.ntmps128
    go_wp2
    go_ret
    exact ⟨rfl, rfl⟩
  · have e : odd1 k x = decide (k ≤ x) := by simp [odd1, h]
    rw [e]
    go_enter Tryz.func128, Tryz.ntmps128
    go_wp2
    go_ret
    exact ⟨ret_bool (by simp), rfl⟩
theorem eg_look1 (args : Array Value) (w : World) : (callFunc 128 args).run Tryz.prog w = .ok (.enter 128 args) w := by kernel_rfl

/-- pairs.look's answer. -/
def lookP (k : Int) (ws : List Int) (which from_ : Int) : PErr :=
  if 4096 < ws.length then fresh sPairs which 4 else if idxOf (odd1 k) ws = -1 then none else fresh sPairs (from_ + idxOf (odd1 k) ws) 2
theorem lookP_none {k : Int} {ws : List Int} {which from_ : Int} (h : lookP k ws which from_ = none) : ws.length ≤ 4096 ∧ Syms k ws := by
  unfold lookP at h
  by_cases hl : 4096 < ws.length
  · rw [if_pos hl] at h; cases h
  · rw [if_neg hl] at h
    refine ⟨by omega, ?_⟩
    rcases syms_or k ws with hs | ⟨i, hi, _⟩
    · exact hs
    · rw [if_neg (by omega)] at h; cases h
theorem lookP_ok {k : Int} {ws : List Int} (which from_ : Int) (hl : ws.length ≤ 4096) (h : Syms k ws) : lookP k ws which from_ = none := by
  unfold lookP
  rw [if_neg (by omega), if_pos h.odd]

set_option maxHeartbeats 1000000 in
theorem look_any (r : Nat → Addr) (k : Int) (u : Value) (ws : List Int) (which : Int) (from_ : Nat) (w : World) (hg : Glob r w) (hu : IntsAt w u ws) (hf : from_ ≤ 1000000) :
    Calls Tryz.prog 81 #[.int .i64 k, u, .int .i64 which, .int .i64 from_] w (Ret1 (fun x w' => ErrIs r w' (lookP k ws which from_) x) w) := by
  have b0 := belowAlloc w (.cells #[.int .i64 k] 3)
  have z0 : (w.alloc (.cells #[.int .i64 k] 3)).cell? ⟨w.heap.size, 0, none⟩ = some (.int .i64 k) := by simp [go_sem]
  have l1 := hu.len
  have lm := hu.len_le
  obtain ⟨a1, n1, c1, rfl⟩ := hu.shape
  replace hg := Lib.hid (hg.below b0)
  replace hu := Lib.hid (hu.below b0)
  obtain ⟨e0, he0⟩ : ∃ e0, lookP k ws which from_ = e0 := ⟨_, rfl⟩
  rw [he0]
  unfold lookP at he0
  by_cases hl : 4096 < ws.length
  · rw [if_pos hl] at he0
    replace he0 := Lib.hid he0
    have hd : decide ((4096 : Int) < (ws.length : Int)) = true := decide_eq_true (by omega)
    go_enter Tryz.func81, Tryz.ntmps81
    go_wp2_with fail
    refine (pairs_wrong r _ _ _ hg.out (by decide) (by decide)).mono ?_
    rintro e w2 ⟨x, rfl, b2, he⟩
    go_wp2
    go_ret
    exact ⟨_, rfl, Below.step b0 b2, by rw [← he0.out]; exact he⟩
  · rw [if_neg hl] at he0
    have hd : decide ((4096 : Int) < (ws.length : Int)) = false := decide_eq_false (by omega)
    have hf2 : (from_ : Int) ≤ 1000000 := by omega
    rcases idxOf_cases (odd1 k) ws with ⟨hi, _⟩ | ⟨i, hi, hi', _⟩
    · rw [if_pos hi] at he0
      replace hi := Lib.hid hi
      replace he0 := Lib.hid he0
      go_enter Tryz.func81, Tryz.ntmps81
      go_wp2_with fail
      refine (indexFunc_any _ _ 128 ws (odd1 k) _ hu.out eg_look1 (fun x _ => look1_any x k _ _ z0)).mono ?_
      rintro e w2 ⟨rfl, rfl⟩
      rw [hi.out]
      go_wp2
      go_ret
      exact ⟨_, rfl, b0, by rw [← he0.out]; rfl⟩
    · have hws : ws.length ≤ 4096 := by omega
      have hwr : IntKind.i64.wrap ((from_ : Int) + (i : Int)) = (from_ : Int) + (i : Int) := wrapK (by omega) (by omega)
      rw [if_neg (by omega), hi] at he0
      replace hi := Lib.hid hi
      replace he0 := Lib.hid he0
      go_enter Tryz.func81, Tryz.ntmps81
      go_wp2_with fail
      refine (indexFunc_any _ _ 128 ws (odd1 k) _ hu.out eg_look1 (fun x _ => look1_any x k _ _ z0)).mono ?_
      rintro e w2 ⟨rfl, rfl⟩
      rw [hi.out]
      go_wp2_with fail
      refine (pairs_wrong r _ _ _ hg.out (by decide) (by decide)).mono ?_
      rintro e w2 ⟨x, rfl, b2, he⟩
      go_wp2
      go_ret
      exact ⟨_, rfl, Below.step b0 b2, by rw [← he0.out]; exact he⟩
end Go.Proofs.YtmhiambkfdkkbaaGreatDoor

namespace Go.Proofs.YtmhiambkfdkkbaaGreatDoor
open Go.RowKit

def sTwins : ByteArray := ⟨#[116, 119, 105, 110, 115]⟩
def Ret4 (Φ : Value → Value → Value → Value → World → Prop) (w : World) (e : Ending) (w' : World) : Prop := ∃ x y z u, e = .returned (.tuple #[x, y, z, u]) ∧ Below w.heap.size w w' ∧ Φ x y z u w'
theorem results_tmp4 {fn : Func} {t u v x : Tmp} (h : fn.results = #[.tmp t, .tmp u, .tmp v, .tmp x]) (tmps : Array Value) (P : Program) (w : World) :
    (results fn tmps).run P w = .ok (.tuple #[tmps.getD t undef, tmps.getD u undef, tmps.getD v undef, tmps.getD x undef]) w := by
  simp [results, h]
end Go.Proofs.YtmhiambkfdkkbaaGreatDoor

namespace Go.Proofs.YtmhiambkfdkkbaaGreatDoor
open Go.RowKit
set_option maxRecDepth 100000

theorem symbols1_any (x k : Int) (b : Nat) (w : World) (hb : w.cell? ⟨b, 0, none⟩ = some (.int .i64 k)) :
    Calls Tryz.prog 100 #[.int .i64 x, .pointer (some ⟨b, 0, none⟩)] w fun e w' => e = .returned (.bool (odd1 k x)) ∧ w = w' := by
  by_cases h : x < 0
  · have e : odd1 k x = true := by simp [odd1, h]
    rw [e]
    go_enter Tryz.func100, Tryz.ntmps100
    go_wp2
    go_ret
    exact ⟨rfl, rfl⟩
  · have e : odd1 k x = decide (k ≤ x) := by simp [odd1, h]
    rw [e]
    go_enter Tryz.func100, Tryz.ntmps100
    go_wp2
    go_ret
    exact ⟨ret_bool (by simp), rfl⟩
theorem eg_symbols1 (args : Array Value) (w : World) : (callFunc 100 args).run Tryz.prog w = .ok (.enter 100 args) w := by kernel_rfl
theorem symbols_any (k : Int) (u : Value) (xs : List Int) (w : World) (hu : IntsAt w u xs) :
    Calls Tryz.prog 49 #[.int .i64 k, u] w (Ret1 (fun x _ => x = .int .i64 (idxOf (odd1 k) xs)) w) := by
  have b0 := belowAlloc w (.cells #[.int .i64 k] 3)
  have z0 : (w.alloc (.cells #[.int .i64 k] 3)).cell? ⟨w.heap.size, 0, none⟩ = some (.int .i64 k) := by simp [go_sem]
  have hI := indexFunc_any u (.pointer (some ⟨w.heap.size, 0, none⟩)) 100 xs (odd1 k) (w.alloc (.cells #[.int .i64 k] 3)) (hu.below b0) eg_symbols1 (fun x _ => symbols1_any x k w.heap.size _ z0)
  replace hI := Lib.hid hI
  go_enter Tryz.func49, Tryz.ntmps49
  go_wp2_with fail
  refine hI.out.mono ?_
  rintro e w1 ⟨rfl, rfl⟩
  go_wp2
  go_ret
  exact ⟨_, rfl, b0, rfl⟩

/-- How long a slice value says it is. -/
def sliceL : Value → Nat
  | .slice _ n _ => n
  | _ => 0
theorem sliceL_of {w : World} {v : Value} {xs : List Int} (h : IntsAt w v xs) : sliceL v = xs.length := by
  obtain ⟨a, cap, rfl, _⟩ := h; rfl

set_option maxHeartbeats 2000000 in
theorem timage_ok (K R : Nat) (va : Option Addr) (vn vc : Nat) (T : List Int) (u : Value) (x : List Int) (w : World) (h : IntsAt w (.slice va vn vc) T) (hr : RuleOk K R T) (hu : IntsAt w u x) (hx : Syms K x) (hl : x.length ≤ 100000) :
    Calls Tryz.prog 51 #[.agg #[.int .i64 K, .int .i64 R, .slice va vn vc], u] w (Ret1 (fun v w' => OwnI w.heap.size w' v (imgP K R T x)) w) := by
  have b0 := belowAlloc w (.cells #[.int .i64 K, .int .i64 R, .slice va vn vc] 24)
  have q : Box3 (w.alloc (.cells #[.int .i64 K, .int .i64 R, .slice va vn vc] 24)) w.heap.size (.int .i64 K) (.int .i64 R) (.slice va vn vc) := by simp [Box3, go_sem]
  have hR3 := hr.r3
  replace h := Lib.hid (h.below b0)
  replace hu := Lib.hid (hu.below b0)
  replace hr := Lib.hid hr
  replace hx := Lib.hid hx
  obtain ⟨W0, hW0⟩ : ∃ W : World, w.alloc (.cells #[.int .i64 K, .int .i64 R, .slice va vn vc] 24) = W := ⟨_, rfl⟩
  have s0 : w.heap.size ≤ W0.heap.size := by rw [← hW0]; simp
  rw [hW0] at h hu q b0
  replace hW0 := Lib.hid hW0
  go_enter Tryz.func51, Tryz.ntmps51
  go_upto_region 2 with fail
  rw [hW0.out]
  clear hW0
  go_loopw [1, 5] (fun uv ov wr => ∃ (k : Nat) (uw ow : Value), uw = uv ∧ ow = ov ∧ k ≤ x.length - 2 * R ∧ IntsAt W0 uw (x.drop k) ∧ OwnI W0.heap.size wr ow ((imgP K R T x).take k) ∧ Below W0.heap.size W0 wr) (fun uv _ _ => sliceL uv)
  case atStart => exact ⟨0, _, _, rfl, rfl, Nat.zero_le _, hu.out, OwnI.nil _ _, Below.refl _ _⟩
  case round =>
    obtain ⟨k, uw, ow, rfl, rfl, hk, hU0, hO, hB⟩ := hrel
    have hU := hU0.below hB
    obtain ⟨wo, rfl⟩ : ∃ wo : World, wo = wr := ⟨_, rfl⟩
    have lU := hU.len
    rw [List.length_drop] at lU
    obtain ⟨⟨z0, z1, z2⟩, -, -, -⟩ := q.below hB
    by_cases hgt : 2 * R < x.length - k
    · obtain ⟨m, hm⟩ : ∃ m, min (x.length - k) 4096 = m := ⟨_, rfl⟩
      have hm1 : m ≤ x.length - k := by omega
      have hm2 : m ≤ 4096 := by omega
      have hm3 : 2 * R < m := by omega
      obtain ⟨pv, hsl, hP⟩ := hU.front m (by rw [List.length_drop]; omega)
      have hT := h.out.below hB
      obtain ⟨ua, un, uc, rfl⟩ := hU.shape
      obtain ⟨pa, pn, pc, rfl⟩ := hP.shape
      replace hP := Lib.hid hP
      replace hU := Lib.hid hU
      replace hO := Lib.hid hO
      replace hT := Lib.hid hT
      obtain ⟨W, hW⟩ : ∃ W : World, wo.drew = W := ⟨_, rfl⟩
      have hTW : IntsAt W (.slice va vn vc) T := by rw [← hW]; exact hT.out
      have hPW : IntsAt W (.slice pa pn pc) ((x.drop k).take m) := by rw [← hW]; exact hP.out
      have hUW : IntsAt W (.slice ua un uc) (x.drop k) := by rw [← hW]; exact hU.out
      have hOW : OwnI W0.heap.size W ow ((imgP K R T x).take k) := by rw [← hW]; exact hO.out
      have hBW : Below W0.heap.size W0 W := by rw [← hW]; exact hB.drew
      have hS : W.cell? ⟨w.heap.size, 0, none⟩ = some (.int .i64 K) ∧ W.cell? ⟨w.heap.size, 1, none⟩ = some (.int .i64 R) ∧ W.cell? ⟨w.heap.size, 2, none⟩ = some (.slice va vn vc) := by rw [← hW]; exact ⟨z0, z1, z2⟩
      have hsy : Syms K ((x.drop k).take m) := syms_take (syms_drop hx.out k) m
      have hpl : ((x.drop k).take m).length = m := by rw [List.length_take, List.length_drop]; omega
      have hcut := img_cut (K := K) (R := R) (T := T) (x := x) (i := k) (m := m) (by omega)
      replace hTW := Lib.hid hTW
      replace hPW := Lib.hid hPW
      replace hUW := Lib.hid hUW
      replace hOW := Lib.hid hOW
      replace hsy := Lib.hid hsy
      replace hcut := Lib.hid hcut
      replace hpl := Lib.hid hpl
      replace hW := Lib.hid hW
      clear hT hP hU hO hB
      go_upto_region 3 with fail
      refine wp_region_plan (fun w' => w'.cell? ⟨w.heap.size, 0, none⟩ = some (.int .i64 K) ∧ w'.cell? ⟨w.heap.size, 1, none⟩ = some (.int .i64 R) ∧ w'.cell? ⟨w.heap.size, 2, none⟩ = some (.slice va vn vc)) 11 [(0, true), (1, true), (2, true), (3, true), (4, false), (5, true), (6, false), (7, true), (8, true), (9, true), (10, true)] (by kernel_rfl) (by kernel_rfl) ?_
      rw [hW.out]
      clear z0 z1 z2
      refine headY (v := ?_) (some 15) rfl rfl (Or.inl ⟨by rfl, ?_⟩) hS ?_
      rotate_left
      · rintro W' ⟨s0, s1, s2⟩; go_simp; try with_reducible rfl
      simp only [Act.put, List.setIfInBounds_toArray, List.set_cons_zero, List.set_cons_succ]
      refine headY (v := ?_) (some 16) rfl rfl (Or.inl ⟨by rfl, ?_⟩) hS ?_
      rotate_left
      · rintro W' ⟨s0, s1, s2⟩; go_simp; try with_reducible rfl
      simp only [Act.put, List.setIfInBounds_toArray, List.set_cons_zero, List.set_cons_succ]
      refine headY (v := ?_) (some 17) rfl rfl (Or.inl ⟨by rfl, ?_⟩) hS ?_
      rotate_left
      · rintro W' ⟨s0, s1, s2⟩; go_simp; try with_reducible rfl
      simp only [Act.put, List.setIfInBounds_toArray, List.set_cons_zero, List.set_cons_succ]
      refine headY (v := ?_) (some 18) rfl rfl (Or.inl ⟨by rfl, ?_⟩) hS ?_
      rotate_left
      · rintro W' ⟨s0, s1, s2⟩; go_simp; try with_reducible rfl
      simp only [Act.put, List.setIfInBounds_toArray, List.set_cons_zero, List.set_cons_succ]
      refine headC rfl (fun KK hK => ?_)
      go_simp
      rw [show min (((x.length - k : Nat) : Nat) : Int) 4096 = (m : Int) by omega]
      refine hK _ _ hS ?_
      clear hK KK
      refine headY (v := ?_) (some 20) rfl rfl (Or.inl ⟨by rfl, ?_⟩) hS ?_
      rotate_left
      · rintro W' ⟨s0, s1, s2⟩; go_simp; try with_reducible rfl
      simp only [Act.put, List.setIfInBounds_toArray, List.set_cons_zero, List.set_cons_succ]
      refine headC rfl (fun KK hK => ?_)
      go_simp
      refine (step_ok K R va vn vc T (.slice pa pn pc) ((x.drop k).take m) W hTW.out hr.out hPW.out hsy.out (by rw [hpl.out]; omega)).mono ?_
      rintro e w5 ⟨zv, _, rfl, b5, hz, rfl⟩
      rw [hcut.out] at hz
      have hS5 : w5.cell? ⟨w.heap.size, 0, none⟩ = some (.int .i64 K) ∧ w5.cell? ⟨w.heap.size, 1, none⟩ = some (.int .i64 R) ∧ w5.cell? ⟨w.heap.size, 2, none⟩ = some (.slice va vn vc) := by
        obtain ⟨⟨y0, y1, y2⟩, -, -, -⟩ := q.below (hBW.trans (b5.mono hBW.size))
        exact ⟨y0, y1, y2⟩
      refine hK _ _ hS5 ?_
      clear hK KK hS
      refine headY (v := ?_) (some 14) rfl rfl (Or.inl ⟨by rfl, ?_⟩) hS5 ?_
      rotate_left
      · rintro W' ⟨s0, s1, s2⟩; go_simp; try with_reducible rfl
      simp only [Act.put, List.setIfInBounds_toArray, List.set_cons_zero, List.set_cons_succ]
      refine headY (v := ?_) (some 22) rfl rfl (Or.inl ⟨by rfl, ?_⟩) hS5 ?_
      rotate_left
      · rintro W' ⟨s0, s1, s2⟩; go_simp; try with_reducible rfl
      simp only [Act.put, List.setIfInBounds_toArray, List.set_cons_zero, List.set_cons_succ]
      refine headY (v := ?_) (some 23) rfl rfl (Or.inl ⟨by rfl, ?_⟩) hS5 ?_
      rotate_left
      · rintro W' ⟨s0, s1, s2⟩; go_simp; try with_reducible rfl
      simp only [Act.put, List.setIfInBounds_toArray, List.set_cons_zero, List.set_cons_succ]
      refine headY (v := ?_) (some 6) rfl rfl (Or.inl ⟨by rfl, ?_⟩) hS5 ?_
      rotate_left
      · rintro W' ⟨s0, s1, s2⟩; go_simp; try with_reducible rfl
      simp only [Act.put, List.setIfInBounds_toArray, List.set_cons_zero, List.set_cons_succ]
      refine head0 ?_
      simp only [List.drop_succ_cons, List.drop_zero]
      have hzl : (((imgP K R T x).drop k).take (m - 2 * R)).length = m - 2 * R := by rw [List.length_take, List.length_drop, imgP_length]; omega
      have lz := hz.at.len
      rw [hzl] at lz
      obtain ⟨za, zn, zc, rfl⟩ := hz.at.shape
      have hO5 := hOW.out.below b5
      have hU5 := hUW.out.below b5
      have hB5 := hBW.trans (b5.mono hBW.size)
      obtain ⟨nv, hsl2, hN⟩ := hU0.post (m - 2 * R) (by rw [List.length_drop]; omega)
      obtain ⟨na, nn, nc, rfl⟩ := hN.shape
      rw [List.drop_drop] at hN
      have hs5 := hB5.size
      have hcat : (imgP K R T x).take k ++ ((imgP K R T x).drop k).take (m - 2 * R) = (imgP K R T x).take (k + (m - 2 * R)) := by rw [List.take_add]
      replace hzl := Lib.hid hzl
      replace hcat := Lib.hid hcat
      replace hz := Lib.hid hz
      replace hN := Lib.hid hN
      replace hO5 := Lib.hid hO5
      replace hU5 := Lib.hid hU5
      replace hU0 := Lib.hid hU0
      clear hS5
      go_wp2
      refine NoPanic.normal ?_
      go_wp2_with (at_builtin; refine wpl_append rfl _ _ rfl W0.heap.size ow (.slice za zn zc) _ _ hO5.out hz.out.at rfl rfl (by rw [hzl.out, List.length_take, imgP_length]; omega) hs5 ?_)
      intro v' w7 ho7 b7 _ _
      rw [hcat.out] at ho7
      clear hsl
      go_wp2
      go_roundw
      case measure => rw [sliceL_of hN.out, sliceL_of hU0.out, List.length_drop, List.length_drop]; omega
      case rel => exact ⟨k + (m - 2 * R), _, _, rfl, rfl, by omega, hN.out, ho7, hB5.trans b7⟩
    · have hke : k = x.length - 2 * R := by omega
      have hfin : (imgP K R T x).take k = imgP K R T x := List.take_of_length_le (by rw [imgP_length]; omega)
      rw [hfin] at hO
      replace hO := Lib.hid hO
      replace hU := Lib.hid hU
      replace hU0 := Lib.hid hU0
      replace hfin := Lib.hid hfin
      replace hke := Lib.hid hke
      obtain ⟨oa, on, oc, hov⟩ := hO.out.at.shape
      subst hov
      go_wp2
      go_ret
      exact ⟨_, rfl, b0.trans (hB.mono s0), hO.out.mono s0⟩
end Go.Proofs.YtmhiambkfdkkbaaGreatDoor
