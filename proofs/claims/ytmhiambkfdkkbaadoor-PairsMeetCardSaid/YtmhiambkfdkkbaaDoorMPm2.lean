/-
  The memory of graph's search under names: its box, the marks, the two stacks; what a store, an append, a shorter stack does to it.
  Plain mathematics: breadth first: the first of the shortest ways.
  A graph in memory: lists of ints that are read; its arrows as plain numbers.
  Lists of ints of one's own: a row of slices, each a row of its own; what a new list, an append, a store does to them.
  Rows of structs of two ints: append, the address of an element, what a list of such rows reads.
  copy onto an owned slice; a slice cut at its front; edenraw.Lent, Kept, LentRule, KeptRule, Rules.
  Walks: slices.Grow of nil, slices.Concat, slices.Reverse at []int; word.Back.
  Walk: rule.Check, at every rule.
  Plain mathematics of layer 18: the table of a sum, the factors of a rule.
  Plain mathematics of layer 19: rules that permute at one end.
  Walks: package permut.
  Walks: permut.check, permut.fits.
  Walk: permut.Right.
  Walk: permut.Left.
  Plain mathematics: one sum behind another is the sum of the product.
  Plain mathematics: the running number of rule.Step is the window's.
  Plain mathematics: the document's sides, mirrored rule and preimages with given ends are the program's.
-/
import Derived.Test.YtmhiambkfdkkbaaDoorMPm1
import Derived.BigQuiet
import Derived.Deep.QuietTactic
import Derived.Laws.CopyOwn
import Derived.Deep.RegionHeld3
import Derived.Lib.AppendZeros
import Derived.RegionTactic
namespace Go.Proofs.YtmhiambkfdkkbaaDoor
open Go.RowKit
set_option maxRecDepth 100000

/-- The first n values of a function. -/
def tab (n : Nat) (f : Nat → Nat) : List Int := (List.range n).map fun (v : Nat) => (f v : Int)
def tabI (n : Nat) (f : Nat → Int) : List Int := (List.range n).map f
theorem tab_len (n : Nat) (f : Nat → Nat) : (tab n f).length = n := by simp [tab]
theorem tabI_len (n : Nat) (f : Nat → Int) : (tabI n f).length = n := by simp [tabI]
theorem tabI_get (n : Nat) (f : Nat → Int) (v : Nat) (hv : v < n) : (tabI n f).getD v 0 = f v := by simp [tabI, List.getD, hv]
theorem tab_get (n : Nat) (f : Nat → Nat) (v : Nat) (hv : v < n) : (tab n f).getD v 0 = (f v : Int) := by simp [tab, List.getD, hv]
theorem tabI_upd (n : Nat) (f : Nat → Int) (v : Nat) (a : Int) : (tabI n f).set v a = tabI n (updN f v a) := by
  apply List.ext_getElem
  · simp [tabI]
  · intro i h1 h2
    simp only [tabI, List.getElem_set, List.getElem_map, List.getElem_range, updN]
    by_cases e : v = i
    · rw [if_pos e, if_pos e.symm]
    · rw [if_neg e, if_neg (fun q => e q.symm)]
theorem tab_upd (n : Nat) (f : Nat → Nat) (v a : Nat) : (tab n f).set v (a : Int) = tab n (updN f v a) := by
  have h := tabI_upd n (fun x => (f x : Int)) v a
  show (tabI n fun x => (f x : Int)).set v (a : Int) = _
  rw [h]
  unfold tab tabI
  apply List.map_congr_left
  intro x _
  by_cases e : x = v
  · subst e; rw [updN_same, updN_same]
  · rw [updN_other _ _ _ e, updN_other _ _ _ e]
/-- The stacks' cells. -/
def flatF (calls : List Nat) (idx : Nat → Nat) : List Value := calls.reverse.flatMap fun (v : Nat) => [.int .i64 (v : Int), .int .i64 (idx v : Int)]
def upI (l : List Nat) : List Int := l.reverse.map fun (v : Nat) => (v : Int)
theorem upI_len (l : List Nat) : (upI l).length = l.length := by simp [upI]
theorem upI_cons (v : Nat) (l : List Nat) : upI (v :: l) = upI l ++ [(v : Int)] := by simp [upI]
theorem flatF_cons (v : Nat) (l : List Nat) (idx : Nat → Nat) : flatF (v :: l) idx = flatF l idx ++ [.int .i64 (v : Int), .int .i64 (idx v : Int)] := by simp [flatF]
theorem flatF_len (l : List Nat) (idx : Nat → Nat) : (flatF l idx).length = l.length * 2 := by
  induction l with
  | nil => rfl
  | cons v l ih => rw [flatF_cons, List.length_append, ih]; simp; omega
theorem flatF_congr {l : List Nat} {f g : Nat → Nat} (h : ∀ v ∈ l, f v = g v) : flatF l f = flatF l g := by
  induction l with
  | nil => rfl
  | cons v l ih => rw [flatF_cons, flatF_cons, ih fun x hx => h x (List.mem_cons_of_mem _ hx), h v List.mem_cons_self]

/-- A row one element shorter. -/
theorem Rows.shrink {B : Nat} {w : World} {f : Names} {i : Nat × Nat} {E : TypeId} {size m g cap : Nat} {xs : List Value} (h : Rows B w f) (hi : f i = some ⟨E, size, .slice (some ⟨g, 0, none⟩) (m + 1) cap, m + 1, xs⟩) :
    Rows B w (upd f i (some ⟨E, size, .slice (some ⟨g, 0, none⟩) m cap, m, xs.take (m * size)⟩)) := by
  refine h.grown hi ⟨rfl, rfl, rfl, Nat.le_refl _, fun _ _ _ => rfl⟩ ?_ (.inl rfl)
  have ho : w.ownsRow B E size (.slice (some ⟨g, 0, none⟩) (m + 1) cap) (m + 1) xs := h.1 i _ hi
  have hl := ho.1
  have hms : m * size ≤ (m + 1) * size := Nat.mul_le_mul_right _ (by omega)
  rcases ho.2 with ⟨e, _⟩ | ⟨g', cap', cur, e, hB, hg, hn, hm, hs, ht⟩
  · cases e
  · injection e with e1 e2 e3
    injection e1 with e1
    injection e1 with e1
    subst e1; subst e3
    refine ⟨by show (xs.take (m * size)).length = m * size; rw [List.length_take, hl]; omega, .inr ⟨g, cap, cur, rfl, hB, hg, by show m ≤ cap; omega, hm, hs, ?_⟩⟩
    show cur.toList.take (m * size) = xs.take (m * size)
    rw [← ht, List.take_take, Nat.min_eq_left hms]

/-- append of one frame. -/
theorem run_appF (w : World) (B : Nat) (ty : TypeId) (v : Value) (m : Nat) (xs : List Value) (hown : w.ownsRow B 163 2 v m xs)
    (b : Nat) (y0 y1 : Int) (hys : ∀ (j : Nat) (u : Value), ([Value.int .i64 y0, .int .i64 y1] : List Value)[j]? = some u → w.cell? ((⟨b, 0, none⟩ : Addr).add j) = some u) (hlen : m < 1000000) (hB : B ≤ w.heap.size) :
    ∃ g n' c' w', (Builtin.append_ #[149, 149] ty #[v, .slice (some ⟨b, 0, none⟩) 1 1]).run Tryd.prog w = .ok (.slice (some ⟨g, 0, none⟩) n' c') w' ∧ n' = m + 1 ∧ w'.ownsRow B 163 2 (.slice (some ⟨g, 0, none⟩) (m + 1) c') (m + 1) (xs ++ [.int .i64 y0, .int .i64 y1]) ∧
      ((v.ownBlock = some g ∧ w.grownBy w' v.ownBlock) ∨ (g = w.heap.size ∧ w.grownBy w' none)) := by
  have ht : Tryd.prog.underlying 149 = some (.slice 163) := by kernel_rfl
  obtain ⟨i, hi, hz0, hz1, hz2⟩ : ∃ i, Tryd.prog.info? 163 = some i ∧ i.zero = some (.agg #[.int .i64 0, .int .i64 0]) ∧ i.size = 2 ∧ i.bytes = 16 := by
    have : (Tryd.prog.info? 163).map (fun i => (i.zero, i.size, i.bytes)) = some (some (.agg #[.int .i64 0, .int .i64 0]), 2, 16) := by kernel_rfl
    cases h : Tryd.prog.info? 163 with
    | none => rw [h] at this; cases this
    | some i => rw [h] at this; simp at this; exact ⟨i, rfl, this.1, this.2.1, this.2.2⟩
  have hzc : (Value.agg #[.int .i64 0, .int .i64 0]).cells = #[.int .i64 0, .int .i64 0] := by rfl
  have hxl := hown.1
  have big : ∀ (old : Nat), old < m + 1 →
      (w.drew.alloc (.cells (xs.toArray ++ [Value.int .i64 y0, .int .i64 y1].toArray ++ Builtin.zeroCells (Value.agg #[.int .i64 0, .int .i64 0]).cells (grownCap w (m + 1) old 163 - (m + 1))) 163)).ownsRow B 163 2 (.slice (some ⟨w.heap.size, 0, none⟩) (m + 1) (grownCap w (m + 1) old 163)) (m + 1) (xs ++ [.int .i64 y0, .int .i64 y1]) := by
    intro old ho
    have hge := grownCap_ge w (m + 1) old 163
    have hcm : grownCap w (m + 1) old 163 ≤ maxLen := grownCap_le_maxLen w _ old 163 (by unfold maxLen; omega)
    refine ⟨by simp [hxl]; omega, .inr ⟨w.heap.size, _, _, rfl, hB, heap_alloc_new w.drew _, hge, hcm, ?_, ?_⟩⟩
    · simp only [Array.size_append, List.size_toArray, size_zeroCells, hzc, hxl]
      simp
      omega
    · simp only [Array.toList_append]
      exact List.take_left' (by simp [hxl]; omega)
  have grw : ∀ (oo : Obj), w.grownBy (w.drew.alloc oo) none := fun oo => ⟨rfl, rfl, rfl, by simp, fun k hk _ => Below.heap_alloc w.drew oo k hk⟩
  rcases hown.2 with ⟨rfl, hn⟩ | ⟨g, cap, cur, rfl, hbg, hg, hnc, hcm, hcs, htake⟩
  · subst hn
    obtain rfl := List.length_eq_zero_iff.1 (show xs.length = 0 by omega)
    have hr := run_append_nil (P := Tryd.prog) w 149 ty 163 i _ ht hi hz0 ⟨b, 0, none⟩ 1 1 [.int .i64 y0, .int .i64 y1] (by rw [hz1]; rfl) hys (by omega) (by omega) (by rw [hz2]; decide)
    have hbg := big 0 (by omega)
    simp only [List.nil_append, Array.empty_append, Nat.zero_add] at hbg hr
    exact ⟨_, _, _, _, hr, rfl, by simpa using hbg, .inr ⟨rfl, grw _⟩⟩
  · by_cases hroom : m + 1 ≤ cap
    · have hr := run_append_room (P := Tryd.prog) w 149 ty 163 i ht hi g m cap cur hg ⟨b, 0, none⟩ 1 1 [.int .i64 y0, .int .i64 y1] (by rw [hz1]; rfl) hys (by simp [Value.oneCell']) hroom (by rw [hz1, hcs]; simp; omega)
      refine ⟨_, _, _, _, hr, rfl, ⟨by simp [hxl]; omega, .inr ⟨g, cap, _, rfl, hbg, setRow_heap w g cur _ 163 _ hg, hroom, hcm, ?_, ?_⟩⟩, .inl ⟨rfl, ⟨rfl, rfl, rfl, by simp, fun k _ hk => setRow_other w g k _ (fun e => hk (by simp [Value.ownBlock, e]))⟩⟩⟩
      · simp only [List.size_toArray, List.length_append, List.length_take, List.length_drop, Array.length_toList, hz1, hcs]
        simp
        omega
      · rw [hz1, htake]
        exact List.take_left' (by simp [hxl]; omega)
    · have holds : ∀ j u, xs[j]? = some u → w.cell? ((⟨g, 0, none⟩ : Addr).add j) = some u := World.ownsRow.cells hown (g := g) rfl
      have hr := run_append_grow (P := Tryd.prog) w 149 ty 163 i _ ht hi hz0 ⟨g, 0, none⟩ m cap xs (by rw [hz1]; exact hxl) holds ⟨b, 0, none⟩ 1 1 [.int .i64 y0, .int .i64 y1] (by rw [hz1]; rfl) hys (by omega) (by omega) (by
        rw [hz2]
        exact growslice_fits (by omega) (by
          calc (m + 1) * 16 ≤ 1000000 * 16 := Nat.mul_le_mul_right _ hlen
            _ ≤ _ := by decide))
      exact ⟨_, _, _, _, hr, rfl, big cap (by omega), .inr ⟨rfl, grw _⟩⟩

/-- append(s, frame) in the text's order. -/
theorem wpl_appF {w : World} {ops : Array Oper} {rest : List Oper} {o : Oper} {a : Act} {Q : Exit → Act → World → Prop} (hgd : o.guard = none) (s x : Operand)
    (ho : o.op = .call { callee := .builtin .append, args := #[s, x], argTypes := #[149, 149] })
    (B : Nat) (v : Value) (m : Nat) (xs : List Value) (y0 y1 : Int) (b : Nat) (hown : w.ownsRow B 163 2 v m xs) (hs : a.eval s = v) (hx : a.eval x = .slice (some ⟨b, 0, none⟩) 1 1) (hb : b = w.heap.size)
    (hlen : m < 1000000) (hB : B ≤ w.heap.size)
    (h : ∀ g c w', w'.ownsRow B 163 2 (.slice (some ⟨g, 0, none⟩) (m + 1) c) (m + 1) (xs ++ [.int .i64 y0, .int .i64 y1]) → ((v.ownBlock = some g ∧ w.grownBy w' v.ownBlock) ∨ (w.heap.size ≤ g ∧ w.grownBy w' none)) → wpList Tryd.prog ops Q rest (a.put o.dst (.slice (some ⟨g, 0, none⟩) (m + 1) c)) w') :
    wpList Tryd.prog ops Q (o :: rest) a (w.alloc (.cells #[.int .i64 y0, .int .i64 y1] 163)) := by
  subst hb
  refine wpList_plain hgd fun K hK => ?_
  have hcells : ∀ (j : Nat) (u : Value), ([Value.int .i64 y0, .int .i64 y1] : List Value)[j]? = some u → (w.alloc (.cells #[.int .i64 y0, .int .i64 y1] 163)).cell? ((⟨w.heap.size, 0, none⟩ : Addr).add j) = some u := by
    intro j u hj
    have hn := heap_alloc_new w (.cells #[.int .i64 y0, .int .i64 y1] 163)
    match j, hj with
    | 0, hj => simp at hj; subst hj; simp only [World.cell?, Addr.add, if_true]; rw [hn]; rfl
    | 1, hj => simp at hj; subst hj; simp only [World.cell?, Addr.add, show ¬ (1 = 0) by decide, if_false]; rw [hn]; rfl
    | j + 2, hj => simp at hj
  obtain ⟨g, n', c', w', hr, rfl, h2, h3⟩ := run_appF (w.alloc (.cells #[.int .i64 y0, .int .i64 y1] 163)) B o.type v m xs (World.ownsRow.alloc hown _) w.heap.size y0 y1 hcells hlen (by simp; omega)
  unfold Oper.wp execOp
  simp only [ho, resolve, invoke, builtin, Sem.run_bind, Sem.run_pure, Result.andThen_ok, List.map_toArray, List.map_cons, List.map_nil, hs, hx]
  rw [hr]
  have hal : ∀ row, w.grownBy (w.alloc (.cells #[.int .i64 y0, .int .i64 y1] 163)) row := fun row => World.grownBy_alloc w _ row
  rcases h3 with ⟨hv, hg⟩ | ⟨hk, hg⟩
  · exact hK _ _ (h g c' w' h2 (.inl ⟨hv, (hal v.ownBlock).trans hg⟩))
  · exact hK _ _ (h g c' w' h2 (.inr ⟨by rw [hk]; simp, (hal none).trans hg⟩))

/-- What the names name. -/
structure SN (f : Names) (d : Nat) (nv lv fv pv ov cv : Value) (n : Nat) (S : TS) : Prop where
  box : f (0, 0) = some ⟨151, 7, .slice (some ⟨d, 0, none⟩) 1 1, 1, [nv, lv, fv, ov, pv, cv, .int .i64 S.time]⟩
  low : f (1, 0) = some (rowI lv (tab n S.low))
  fnd : f (2, 0) = some (rowI fv (tab n S.found))
  opn : f (3, 0) = some (rowI ov (upI S.opn))
  part : f (4, 0) = some (rowI pv (tabI n S.part))
  calls : f (5, 0) = some ⟨163, 2, cv, S.calls.length, flatF S.calls S.idx⟩

section
variable {B : Nat} {w : World} {f : Names} {d : Nat} {nv lv fv pv ov cv : Value} {n : Nat} {S : TS}

theorem SN.cell (h : SN f d nv lv fv pv ov cv n S) (hr : Rows B w f) (k : Nat) (hk : k < 7) : w.cell? ⟨d, k, none⟩ = [nv, lv, fv, ov, pv, cv, .int .i64 S.time][k]? :=
  hr.cell h.box (g := d) (cap := 1) rfl k (by simp; omega)
theorem SN.frz (h : SN f d nv lv fv pv ov cv n S) (hr : Rows B w f) (k : Nat) : w.frozen? ⟨d, k, none⟩ = false := hr.frozen h.box (g := d) (cap := 1) rfl k
theorem SN.base (h : SN f d nv lv fv pv ov cv n S) (hr : Rows B w f) : B ≤ d := (hr.lt h.box d rfl).1
/-- s.time = t. -/
theorem SN.setTime (h : SN f d nv lv fv pv ov cv n S) (hr : Rows B w f) (t : Nat) : ∃ f', Rows B (w.setCell ⟨d, 6, none⟩ (.int .i64 t)) f' ∧ SN f' d nv lv fv pv ov cv n { S with time := t } := by
  refine ⟨_, hr.set h.box (g := d) (cap := 1) rfl 6 (.int .i64 t), ⟨upd_same _ _ _, ?_, ?_, ?_, ?_, ?_⟩⟩
  · rw [upd_ne _ _ (by simp)]; exact h.low
  · rw [upd_ne _ _ (by simp)]; exact h.fnd
  · rw [upd_ne _ _ (by simp)]; exact h.opn
  · rw [upd_ne _ _ (by simp)]; exact h.part
  · rw [upd_ne _ _ (by simp)]; exact h.calls
/-- s.low[v] = t. -/
theorem SN.setLow (h : SN f d nv lv fv pv ov cv n S) (hr : Rows B w f) (v : Nat) (hv : v < n) (t : Nat) : ∃ f', Rows B (w.setCell (valAt lv v) (.int .i64 t)) f' ∧ SN f' d nv lv fv pv ov cv n { S with low := updN S.low v t } := by
  have hs := hr.setI h.low v (by rw [tab_len]; exact hv) (t : Int)
  rw [tab_upd] at hs
  refine ⟨_, hs, ⟨?_, upd_same _ _ _, ?_, ?_, ?_, ?_⟩⟩
  · rw [upd_ne _ _ (by simp)]; exact h.box
  · rw [upd_ne _ _ (by simp)]; exact h.fnd
  · rw [upd_ne _ _ (by simp)]; exact h.opn
  · rw [upd_ne _ _ (by simp)]; exact h.part
  · rw [upd_ne _ _ (by simp)]; exact h.calls
/-- s.found[v] = t. -/
theorem SN.setFound (h : SN f d nv lv fv pv ov cv n S) (hr : Rows B w f) (v : Nat) (hv : v < n) (t : Nat) : ∃ f', Rows B (w.setCell (valAt fv v) (.int .i64 t)) f' ∧ SN f' d nv lv fv pv ov cv n { S with found := updN S.found v t } := by
  have hs := hr.setI h.fnd v (by rw [tab_len]; exact hv) (t : Int)
  rw [tab_upd] at hs
  refine ⟨_, hs, ⟨?_, ?_, upd_same _ _ _, ?_, ?_, ?_⟩⟩
  · rw [upd_ne _ _ (by simp)]; exact h.box
  · rw [upd_ne _ _ (by simp)]; exact h.low
  · rw [upd_ne _ _ (by simp)]; exact h.opn
  · rw [upd_ne _ _ (by simp)]; exact h.part
  · rw [upd_ne _ _ (by simp)]; exact h.calls
/-- s.part[v] = t. -/
theorem SN.setPart (h : SN f d nv lv fv pv ov cv n S) (hr : Rows B w f) (v : Nat) (hv : v < n) (t : Int) : ∃ f', Rows B (w.setCell (valAt pv v) (.int .i64 t)) f' ∧ SN f' d nv lv fv pv ov cv n { S with part := updN S.part v t } := by
  have hs := hr.setI h.part v (by rw [tabI_len]; exact hv) t
  rw [tabI_upd] at hs
  refine ⟨_, hs, ⟨?_, ?_, ?_, ?_, upd_same _ _ _, ?_⟩⟩
  · rw [upd_ne _ _ (by simp)]; exact h.box
  · rw [upd_ne _ _ (by simp)]; exact h.low
  · rw [upd_ne _ _ (by simp)]; exact h.fnd
  · rw [upd_ne _ _ (by simp)]; exact h.opn
  · rw [upd_ne _ _ (by simp)]; exact h.calls
theorem grown_via {w' : World} {row : Option Nat} (hg : w.grownBy w' row ∨ w.grownBy w' none) : w.grownBy w' row := by
  rcases hg with h | h
  · exact h
  · exact ⟨h.os, h.tape, h.output, h.size, fun k hk _ => h.block k hk (by simp)⟩
/-- s.open = append(s.open, v). -/
theorem SN.pushOpen (h : SN f d nv lv fv pv ov cv n S) (hr : Rows B w f) (hBw : B ≤ w.heap.size) {w1 : World} {ov' : Value} (v : Nat) (ho : OwnI B w1 ov' (upI S.opn ++ [(v : Int)]))
    (hal : (roomOf ov' = roomOf ov ∧ w.grownBy w1 ov.ownBlock) ∨ (∃ k, ov'.ownBlock = some k ∧ w.heap.size ≤ k ∧ w.grownBy w1 none)) :
    (∀ k, k < 7 → w1.cell? ⟨d, k, none⟩ = [nv, lv, fv, ov, pv, cv, .int .i64 S.time][k]?) ∧ (∀ k, w1.frozen? ⟨d, k, none⟩ = false) ∧ Below B w (w1.setCell ⟨d, 3, none⟩ ov') ∧ ∃ f', Rows B (w1.setCell ⟨d, 3, none⟩ ov') f' ∧ SN f' d nv lv fv pv ov' cv n { S with opn := v :: S.opn } := by
  have hO := hr.ownI h.opn
  have hg : w.grownBy w1 ov.ownBlock := grown_via (hal.imp (·.2) (fun ⟨_, _, _, q⟩ => q))
  have hob : ov'.ownBlock = ov.ownBlock ∨ ∃ k, ov'.ownBlock = some k ∧ w.heap.size ≤ k := by
    rcases hal with ⟨q, _⟩ | ⟨k, h1, h2, _⟩
    · obtain ⟨a1, n1, c1, e1⟩ := hO.at.shape
      obtain ⟨a2, n2, c2, e2⟩ := ho.at.shape
      exact .inl (ownBlock_of_room e1 e2 q)
    · exact .inr ⟨k, h1, h2⟩
  have h1 := hr.grown (r' := rowI ov' (upI S.opn ++ [(v : Int)])) h.opn hg ho hob
  have hb : upd f (3, 0) (some (rowI ov' (upI S.opn ++ [(v : Int)]))) (0, 0) = some ⟨151, 7, .slice (some ⟨d, 0, none⟩) 1 1, 1, [nv, lv, fv, ov, pv, cv, .int .i64 S.time]⟩ := by rw [upd_ne _ _ (by simp)]; exact h.box
  refine ⟨fun k hk => h1.cell hb (g := d) (cap := 1) rfl k (by simpa using hk), fun k => h1.frozen hb (g := d) (cap := 1) rfl k, ((Below.refl _ _).grown hg hBw (fun k hk => (hO.lt k hk).1)).setCell (h.base hr) _, _, h1.set hb (g := d) (cap := 1) rfl 3 ov', ⟨upd_same _ _ _, ?_, ?_, ?_, ?_, ?_⟩⟩
  · rw [upd_ne _ _ (by simp), upd_ne _ _ (by simp)]; exact h.low
  · rw [upd_ne _ _ (by simp), upd_ne _ _ (by simp)]; exact h.fnd
  · rw [upd_ne _ _ (by simp), upd_same, upI_cons]
  · rw [upd_ne _ _ (by simp), upd_ne _ _ (by simp)]; exact h.part
  · rw [upd_ne _ _ (by simp), upd_ne _ _ (by simp)]; exact h.calls
/-- s.calls = append(s.calls, frame{v, 0}). -/
theorem SN.pushCalls (h : SN f d nv lv fv pv ov cv n S) (hr : Rows B w f) (hBw : B ≤ w.heap.size) {w1 : World} {g c : Nat} (v : Nat) (hv : v ∉ S.calls)
    (ho : w1.ownsRow B 163 2 (.slice (some ⟨g, 0, none⟩) (S.calls.length + 1) c) (S.calls.length + 1) (flatF S.calls S.idx ++ [.int .i64 (v : Int), .int .i64 0]))
    (hal : (cv.ownBlock = some g ∧ w.grownBy w1 cv.ownBlock) ∨ (w.heap.size ≤ g ∧ w.grownBy w1 none)) :
    (∀ k, k < 7 → w1.cell? ⟨d, k, none⟩ = [nv, lv, fv, ov, pv, cv, .int .i64 S.time][k]?) ∧ (∀ k, w1.frozen? ⟨d, k, none⟩ = false) ∧ Below B w (w1.setCell ⟨d, 5, none⟩ (.slice (some ⟨g, 0, none⟩) (S.calls.length + 1) c)) ∧
      ∃ f', Rows B (w1.setCell ⟨d, 5, none⟩ (.slice (some ⟨g, 0, none⟩) (S.calls.length + 1) c)) f' ∧ SN f' d nv lv fv pv ov (.slice (some ⟨g, 0, none⟩) (S.calls.length + 1) c) n { S with calls := v :: S.calls, idx := updN S.idx v 0 } := by
  have hg : w.grownBy w1 cv.ownBlock := grown_via (hal.imp (·.2) (·.2))
  have hob : (Value.slice (some ⟨g, 0, none⟩) (S.calls.length + 1) c).ownBlock = cv.ownBlock ∨ ∃ k, (Value.slice (some ⟨g, 0, none⟩) (S.calls.length + 1) c).ownBlock = some k ∧ w.heap.size ≤ k := by
    rcases hal with ⟨q, _⟩ | ⟨q, _⟩
    · exact .inl q.symm
    · exact .inr ⟨g, rfl, q⟩
  have h1 := hr.grown (r' := ⟨163, 2, .slice (some ⟨g, 0, none⟩) (S.calls.length + 1) c, S.calls.length + 1, flatF S.calls S.idx ++ [Value.int .i64 (v : Int), Value.int .i64 0]⟩) h.calls hg (show Row.own B w1 ⟨_, _, _, _, _⟩ from ho) hob
  have hb : upd f (5, 0) (some ⟨163, 2, .slice (some ⟨g, 0, none⟩) (S.calls.length + 1) c, S.calls.length + 1, flatF S.calls S.idx ++ [Value.int .i64 (v : Int), Value.int .i64 0]⟩) (0, 0) = some ⟨151, 7, .slice (some ⟨d, 0, none⟩) 1 1, 1, [nv, lv, fv, ov, pv, cv, .int .i64 S.time]⟩ := by rw [upd_ne _ _ (by simp)]; exact h.box
  refine ⟨fun k hk => h1.cell hb (g := d) (cap := 1) rfl k (by simpa using hk), fun k => h1.frozen hb (g := d) (cap := 1) rfl k, ((Below.refl _ _).grown hg hBw (fun k hk => (hr.lt h.calls k hk).1)).setCell (h.base hr) _, _, h1.set hb (g := d) (cap := 1) rfl 5 (.slice (some ⟨g, 0, none⟩) (S.calls.length + 1) c), ⟨upd_same _ _ _, ?_, ?_, ?_, ?_, ?_⟩⟩
  · rw [upd_ne _ _ (by simp), upd_ne _ _ (by simp)]; exact h.low
  · rw [upd_ne _ _ (by simp), upd_ne _ _ (by simp)]; exact h.fnd
  · rw [upd_ne _ _ (by simp), upd_ne _ _ (by simp)]; exact h.opn
  · rw [upd_ne _ _ (by simp), upd_ne _ _ (by simp)]; exact h.part
  · rw [upd_ne _ _ (by simp), upd_same]
    simp only [flatF_cons, updN_same, List.length_cons]
    rw [flatF_congr (f := updN S.idx v 0) (g := S.idx) (fun x hx => updN_other _ _ _ (fun e => hv (by rw [← e]; exact hx)))]
    rfl
/-- s.open = s.open[:len(s.open)-1]. -/
theorem SN.popOpen {v : Nat} {r : List Nat} {g c : Nat} (h : SN f d nv lv fv pv (.slice (some ⟨g, 0, none⟩) (r.length + 1) c) cv n S) (he : S.opn = v :: r) (hr : Rows B w f) :
    ∃ f', Rows B (w.setCell ⟨d, 3, none⟩ (.slice (some ⟨g, 0, none⟩) r.length c)) f' ∧ SN f' d nv lv fv pv (.slice (some ⟨g, 0, none⟩) r.length c) cv n { S with opn := r } := by
  have ho := h.opn
  rw [he] at ho
  have ho' : f (3, 0) = some ⟨3, 1, .slice (some ⟨g, 0, none⟩) (r.length + 1) c, r.length + 1, (upI (v :: r)).map (Value.int .i64)⟩ := by
    rw [ho]; simp [rowI, upI_len]
  have h1 := hr.shrink ho'
  have hx : ((upI (v :: r)).map (Value.int .i64)).take (r.length * 1) = (upI r).map (Value.int .i64) := by
    rw [upI_cons, List.map_append, Nat.mul_one]; exact List.take_left' (by simp [upI_len])
  rw [hx] at h1
  refine ⟨_, h1.set (i := (0, 0)) (by rw [upd_ne _ _ (by simp)]; exact h.box) (g := d) (cap := 1) rfl 3 (.slice (some ⟨g, 0, none⟩) r.length c), ⟨upd_same _ _ _, ?_, ?_, ?_, ?_, ?_⟩⟩
  · rw [upd_ne _ _ (by simp), upd_ne _ _ (by simp)]; exact h.low
  · rw [upd_ne _ _ (by simp), upd_ne _ _ (by simp)]; exact h.fnd
  · rw [upd_ne _ _ (by simp), upd_same]; simp [upI_len]
  · rw [upd_ne _ _ (by simp), upd_ne _ _ (by simp)]; exact h.part
  · rw [upd_ne _ _ (by simp), upd_ne _ _ (by simp)]; exact h.calls
/-- s.calls = s.calls[:len(s.calls)-1]. -/
theorem SN.popCalls {v : Nat} {r : List Nat} {g c : Nat} (h : SN f d nv lv fv pv ov (.slice (some ⟨g, 0, none⟩) (r.length + 1) c) n S) (he : S.calls = v :: r) (hr : Rows B w f) :
    ∃ f', Rows B (w.setCell ⟨d, 5, none⟩ (.slice (some ⟨g, 0, none⟩) r.length c)) f' ∧ SN f' d nv lv fv pv ov (.slice (some ⟨g, 0, none⟩) r.length c) n { S with calls := r } := by
  have ho := h.calls
  rw [he] at ho
  have h1 := hr.shrink ho
  have hx : (flatF (v :: r) S.idx).take (r.length * 2) = flatF r S.idx := by
    rw [flatF_cons]; exact List.take_left' (flatF_len _ _)
  rw [hx] at h1
  refine ⟨_, h1.set (i := (0, 0)) (by rw [upd_ne _ _ (by simp)]; exact h.box) (g := d) (cap := 1) rfl 5 (.slice (some ⟨g, 0, none⟩) r.length c), ⟨upd_same _ _ _, ?_, ?_, ?_, ?_, ?_⟩⟩
  · rw [upd_ne _ _ (by simp), upd_ne _ _ (by simp)]; exact h.low
  · rw [upd_ne _ _ (by simp), upd_ne _ _ (by simp)]; exact h.fnd
  · rw [upd_ne _ _ (by simp), upd_ne _ _ (by simp)]; exact h.opn
  · rw [upd_ne _ _ (by simp), upd_ne _ _ (by simp)]; exact h.part
  · rw [upd_ne _ _ (by simp), upd_same]
/-- f.i = i at the topmost frame. -/
theorem SN.bump {v : Nat} {r : List Nat} {g c : Nat} (h : SN f d nv lv fv pv ov (.slice (some ⟨g, 0, none⟩) (r.length + 1) c) n S) (he : S.calls = v :: r) (hv : v ∉ r) (hr : Rows B w f) (i : Nat) :
    ∃ f', Rows B (w.setCell ⟨g, r.length * 2 + 1, none⟩ (.int .i64 (i : Int))) f' ∧ SN f' d nv lv fv pv ov (.slice (some ⟨g, 0, none⟩) (r.length + 1) c) n { S with idx := updN S.idx v i } := by
  have ho := h.calls
  rw [he] at ho
  have hs := hr.set ho (g := g) (cap := c) rfl (r.length * 2 + 1) (.int .i64 (i : Int))
  refine ⟨_, hs, ⟨?_, ?_, ?_, ?_, ?_, ?_⟩⟩
  · rw [upd_ne _ _ (by simp)]; exact h.box
  · rw [upd_ne _ _ (by simp)]; exact h.low
  · rw [upd_ne _ _ (by simp)]; exact h.fnd
  · rw [upd_ne _ _ (by simp)]; exact h.opn
  · rw [upd_ne _ _ (by simp)]; exact h.part
  · rw [upd_same, he]
    simp only [flatF_cons, updN_same, List.length_cons]
    rw [List.set_append_right _ _ (by rw [flatF_len]; omega), flatF_len, show r.length * 2 + 1 - r.length * 2 = 1 by omega,
      flatF_congr (f := updN S.idx v i) (g := S.idx) (fun x hx => updN_other _ _ _ (fun e => hv (by rw [← e]; exact hx)))]
    rfl
/-- The topmost frame, and the one below it. -/
theorem SN.callTop {v : Nat} {r : List Nat} {g c : Nat} (h : SN f d nv lv fv pv ov (.slice (some ⟨g, 0, none⟩) (r.length + 1) c) n S) (he : S.calls = v :: r) (hr : Rows B w f) :
    w.cell? ⟨g, r.length * 2, none⟩ = some (.int .i64 (v : Int)) ∧ w.cell? ⟨g, r.length * 2 + 1, none⟩ = some (.int .i64 (S.idx v : Int)) ∧ w.frozen? ⟨g, r.length * 2 + 1, none⟩ = false := by
  have ho := h.calls
  rw [he] at ho
  refine ⟨?_, ?_, hr.frozen ho (g := g) (cap := c) rfl _⟩
  · rw [hr.cell ho (g := g) (cap := c) rfl _ (by simp only [List.length_cons]; omega), flatF_cons, List.getElem?_append_right (by rw [flatF_len]; omega), flatF_len, Nat.sub_self]; rfl
  · rw [hr.cell ho (g := g) (cap := c) rfl _ (by simp; omega), flatF_cons, List.getElem?_append_right (by rw [flatF_len]; omega), flatF_len, show r.length * 2 + 1 - r.length * 2 = 1 by omega]; rfl
/-- The value that holds the stack of calls, the open stack. -/
theorem row_shape {E : TypeId} {size m : Nat} {v : Value} {xs : List Value} (h : w.ownsRow B E size v m xs) (hm : 0 < m) : ∃ g c, v = .slice (some ⟨g, 0, none⟩) m c ∧ m ≤ c := by
  rcases h.2 with ⟨_, e⟩ | ⟨g, cap, cur, e, _, _, hn, _⟩
  · omega
  · exact ⟨g, cap, e, hn⟩
theorem SN.callsShape (h : SN f d nv lv fv pv ov cv n S) (hr : Rows B w f) (hc : S.calls ≠ []) : ∃ g c, cv = .slice (some ⟨g, 0, none⟩) S.calls.length c ∧ S.calls.length ≤ c :=
  row_shape (hr.1 _ _ h.calls) (List.length_pos_iff.2 hc)
theorem SN.opnShape (h : SN f d nv lv fv pv ov cv n S) (hr : Rows B w f) (hc : S.opn ≠ []) : ∃ g c, ov = .slice (some ⟨g, 0, none⟩) S.opn.length c ∧ S.opn.length ≤ c := by
  have := row_shape (hr.1 _ _ h.opn) (by show 0 < (upI S.opn).length; rw [upI_len]; exact List.length_pos_iff.2 hc)
  obtain ⟨g, c, e, e2⟩ := this
  have e : ov = .slice (some ⟨g, 0, none⟩) (upI S.opn).length c := e
  have e2 : (upI S.opn).length ≤ c := e2
  rw [upI_len] at e e2
  exact ⟨g, c, e, e2⟩
theorem SN.opnNil {adj : Nat → List Nat} (_h : SN f d nv lv fv pv ov cv n S) (hI : TInv n adj S) (hc : S.calls = []) : S.opn = [] := hI.opn_nil hc
/-- The length of the stack of calls. -/
theorem SN.callsLen (h : SN f d nv lv fv pv ov cv n S) (hr : Rows B w f) : ∃ a c, cv = .slice a S.calls.length c := by
  rcases (hr.1 _ _ h.calls).2 with ⟨e, e2⟩ | ⟨g, cap, cur, e, _⟩
  · have e2 : S.calls.length = 0 := e2
    have e : cv = .slice none 0 0 := e
    exact ⟨none, 0, by rw [e, e2]⟩
  · exact ⟨_, _, e⟩
end
end Go.Proofs.YtmhiambkfdkkbaaDoor

namespace Go.Proofs.YtmhiambkfdkkbaaDoor

/-- w is a way from x to y. -/
inductive Way (adj : Nat → List Nat) : Nat → Nat → List Nat → Prop
  | one (x : Nat) : Way adj x x [x]
  | cons {x t y : Nat} {w : List Nat} (ht : t ∈ adj x) (h : Way adj t y w) : Way adj x y (x :: w)
theorem Way.goes {adj : Nat → List Nat} {x y : Nat} {w : List Nat} (h : Way adj x y w) : Goes adj x y := by
  induction h with
  | one => exact .refl _
  | cons ht _ ih => exact (Goes.one ht).trans ih
theorem Way.snoc {adj : Nat → List Nat} {x y z : Nat} {w : List Nat} (h : Way adj x y w) (hz : z ∈ adj y) : Way adj x z (w ++ [z]) := by
  induction h with
  | one => exact .cons hz (.one _)
  | cons ht _ ih => exact .cons ht (ih hz)
theorem Goes.way {adj : Nat → List Nat} {x y : Nat} (h : Goes adj x y) : ∃ w, Way adj x y w := by
  induction h with
  | refl => exact ⟨_, .one _⟩
  | step _ hz ih => obtain ⟨w, hw⟩ := ih; exact ⟨_, hw.snoc hz⟩
theorem Way.ne {adj : Nat → List Nat} {x y : Nat} {w : List Nat} (h : Way adj x y w) : ∃ w', w = x :: w' := by
  cases h with
  | one => exact ⟨_, rfl⟩
  | cons => exact ⟨_, rfl⟩
theorem Way.pos {adj : Nat → List Nat} {x y : Nat} {w : List Nat} (h : Way adj x y w) : 0 < w.length := by
  obtain ⟨w', rfl⟩ := h.ne; simp

/-- The order of words. -/
def lexLe : List Nat → List Nat → Prop
  | [], _ => True
  | _ :: _, [] => False
  | a :: l, b :: m => a < b ∨ (a = b ∧ lexLe l m)
theorem lexLe_refl : ∀ l, lexLe l l
  | [] => trivial
  | _ :: l => .inr ⟨rfl, lexLe_refl l⟩
theorem lexLe_antisymm : ∀ {l m : List Nat}, l.length = m.length → lexLe l m → lexLe m l → l = m
  | [], [], _, _, _ => rfl
  | [], _ :: _, h, _, _ => by simp at h
  | _ :: _, [], h, _, _ => by simp at h
  | a :: l, b :: m, h, h1, h2 => by
    simp only [lexLe] at h1 h2
    have hl : l.length = m.length := by simpa using h
    rcases h1 with q | ⟨q, r⟩ <;> rcases h2 with q' | ⟨q', r'⟩
    · omega
    · omega
    · omega
    · rw [q, lexLe_antisymm hl r r']

/-- w is the first of the shortest ways from x to y. -/
structure IsFirst (adj : Nat → List Nat) (x y : Nat) (w : List Nat) : Prop where
  way : Way adj x y w
  short : ∀ u, Way adj x y u → w.length ≤ u.length
  least : ∀ u, Way adj x y u → u.length = w.length → lexLe w u
theorem IsFirst.unique {adj : Nat → List Nat} {x y : Nat} {w u : List Nat} (h : IsFirst adj x y w) (h2 : IsFirst adj x y u) : w = u := by
  have e : w.length = u.length := by have := h.short u h2.way; have := h2.short w h.way; omega
  exact lexLe_antisymm e (h.least u h2.way e.symm) (h2.least w h.way e)
theorem IsFirst.tail {adj : Nat → List Nat} {x y t : Nat} {w : List Nat} (h : IsFirst adj x y (x :: t :: w)) : IsFirst adj t y (t :: w) := by
  obtain ⟨ht, hw⟩ : t ∈ adj x ∧ Way adj t y (t :: w) := by
    have h1 := h.way
    cases h1 with
    | cons ht h2 => obtain ⟨w', e⟩ := h2.ne; injection e with e1 e2; subst e1; exact ⟨ht, h2⟩
  refine ⟨hw, fun u hu => ?_, fun u hu hl => ?_⟩
  · have := h.short _ (.cons ht hu); simp only [List.length_cons] at this ⊢; omega
  · have := h.least _ (.cons ht hu) (by simp only [List.length_cons] at hl ⊢; omega)
    exact (this.resolve_left (Nat.lt_irrefl _)).2
theorem IsFirst.self {adj : Nat → List Nat} {x : Nat} {w : List Nat} (h : IsFirst adj x x w) : w = [x] := by
  have h1 := h.short _ (.one x)
  obtain ⟨w', rfl⟩ := h.way.ne
  cases w' with
  | nil => rfl
  | cons => simp only [List.length_cons, List.length_nil] at h1; omega
/-- The ends that stand in a way are the same, and each piece behind is a way. -/
theorem Way.mem {adj : Nat → List Nat} {x y : Nat} {w : List Nat} (h : Way adj x y w) : ∀ z ∈ w, ∃ u, Way adj z y u ∧ u.length ≤ w.length := by
  induction h with
  | one => intro z hz; cases List.mem_singleton.1 hz; exact ⟨_, .one _, Nat.le_refl _⟩
  | cons ht h ih =>
    intro z hz
    rcases List.mem_cons.1 hz with rfl | hz
    · exact ⟨_, .cons ht h, Nat.le_refl _⟩
    · obtain ⟨u, h1, h2⟩ := ih z hz; exact ⟨u, h1, by simp only [List.length_cons]; omega⟩
/-- No vertex twice. -/
theorem IsFirst.nodup {adj : Nat → List Nat} {x y : Nat} {w : List Nat} (h : IsFirst adj x y w) : w.Nodup := by
  induction w generalizing x with
  | nil => exact List.nodup_nil
  | cons a w ih =>
    obtain ⟨w', e⟩ := h.way.ne
    injection e with e1 e2
    subst e1; subst e2
    cases w with
    | nil => simp
    | cons t w =>
      refine List.nodup_cons.2 ⟨fun hm => ?_, ih h.tail⟩
      obtain ⟨u, h1, h2⟩ := h.tail.way.mem _ hm
      have := h.short u h1
      simp only [List.length_cons] at this h2; omega
/-- A shortest way is no longer than an arrow and a shortest way behind it. -/
theorem IsFirst.le_cons {adj : Nat → List Nat} {x y t : Nat} {w u : List Nat} (h : IsFirst adj x y w) (ht : t ∈ adj x) (hu : Way adj t y u) : w.length ≤ u.length + 1 := by
  have := h.short _ (.cons ht hu); simpa using this

/-- The queue, where everything came from, and with which place's help (par), how far (dist). -/
structure BBase (adj : Nat → List Nat) (a : Nat) (came : Nat → Int) (q : List Nat) (par dist : Nat → Nat) (b i : Nat) : Prop where
  hd : q[0]? = some a
  nodup : q.Nodup
  cameIff : ∀ x, 0 ≤ came x ↔ x ∈ q
  low : ∀ x, -1 ≤ came x
  root : came a = a
  dist0 : dist a = 0
  parLt : ∀ (j x : Nat), 0 < j → q[j]? = some x → par j < b ∧ par j < j ∧ ∃ p, q[par j]? = some p ∧ came x = (p : Int) ∧ x ∈ adj p ∧ dist x = dist p + 1
  mono : ∀ (j k x y : Nat), 0 < j → j < k → q[j]? = some x → q[k]? = some y → par j ≤ par k ∧ (par j = par k → x < y)
  distMono : ∀ (j k x y : Nat), j ≤ k → q[j]? = some x → q[k]? = some y → dist x ≤ dist y
  closed : ∀ p x, p < i → q[p]? = some x → ∀ t ∈ adj x, ∃ j, q[j]? = some t ∧ (0 < j → par j ≤ p)
/-- Between two rounds. -/
abbrev BOut (adj : Nat → List Nat) (a : Nat) (came : Nat → Int) (q : List Nat) (par dist : Nat → Nat) (i : Nat) : Prop := BBase adj a came q par dist i i
/-- Within a round: l is what is left of v's arrows, from the least on. -/
structure BIn (adj : Nat → List Nat) (a : Nat) (came : Nat → Int) (q : List Nat) (par dist : Nat → Nat) (i v : Nat) (l : List Nat) : Prop where
  base : BBase adj a came q par dist (i + 1) i
  cur : q[i]? = some v
  sub : ∀ t ∈ l, t ∈ adj v
  sorted : l.Pairwise (· ≤ ·)
  seen : ∀ t ∈ adj v, t ∈ l ∨ ∃ j, q[j]? = some t ∧ (0 < j → par j ≤ i)
  new : ∀ j x, 0 < j → q[j]? = some x → par j = i → ∀ t ∈ l, x ≤ t

variable {adj : Nat → List Nat} {a : Nat} {came : Nat → Int} {q : List Nat} {par dist : Nat → Nat} {b i v : Nat} {l : List Nat}

theorem get_of {q : List Nat} {j x : Nat} (h : q[j]? = some x) : j < q.length := by
  by_cases e : j < q.length
  · exact e
  · rw [List.getElem?_eq_none (by omega)] at h; cases h
theorem get_inj {q : List Nat} (hn : q.Nodup) {j k x : Nat} (h : q[j]? = some x) (h2 : q[k]? = some x) : j = k := by
  have h1 := get_of h
  exact (List.getElem?_inj h1 hn).1 (h.trans h2.symm)

theorem BBase.enter (h : BOut adj a came q par dist i) (hv : q[i]? = some v) (hl : ∀ t, t ∈ l ↔ t ∈ adj v) (hs : l.Pairwise (· ≤ ·)) : BIn adj a came q par dist i v l := by
  refine ⟨⟨h.hd, h.nodup, h.cameIff, h.low, h.root, h.dist0, fun j x hj hx => ?_, h.mono, h.distMono, h.closed⟩, hv, fun t ht => (hl t).1 ht, hs, fun t ht => .inl ((hl t).2 ht), fun j x hj hx hp => ?_⟩
  · obtain ⟨h1, h2, h3⟩ := h.parLt j x hj hx
    exact ⟨by omega, h2, h3⟩
  · have := (h.parLt j x hj hx).1; omega
theorem BIn.leave (h : BIn adj a came q par dist i v []) : BOut adj a came q par dist (i + 1) := by
  refine ⟨h.base.hd, h.base.nodup, h.base.cameIff, h.base.low, h.base.root, h.base.dist0, h.base.parLt, h.base.mono, h.base.distMono, fun p x hp hx t ht => ?_⟩
  by_cases e : p = i
  · subst e
    rw [h.cur] at hx; cases hx
    exact (h.seen t ht).resolve_left (by simp)
  · exact h.base.closed p x (by omega) hx t ht
/-- An arrow to a vertex that is there. -/
theorem BIn.old {t : Nat} (h : BIn adj a came q par dist i v (t :: l)) (ht : 0 ≤ came t) : BIn adj a came q par dist i v l := by
  refine ⟨h.base, h.cur, fun x hx => h.sub x (List.mem_cons_of_mem _ hx), (List.pairwise_cons.1 h.sorted).2, fun x hx => ?_, fun j x hj hx hp y hy => h.new j x hj hx hp y (List.mem_cons_of_mem _ hy)⟩
  rcases h.seen x hx with q1 | q1
  · rcases List.mem_cons.1 q1 with e | e
    · subst e
      obtain ⟨j, hj⟩ := List.mem_iff_getElem?.1 ((h.base.cameIff x).1 ht)
      refine .inr ⟨j, hj, fun hj0 => ?_⟩
      have := (h.base.parLt j x hj0 hj).1; omega
    · exact .inl e
  · exact .inr q1
/-- An arrow to a new one. -/
theorem BIn.add {t : Nat} (h : BIn adj a came q par dist i v (t :: l)) (ht : came t < 0) :
    BIn adj a (updN came t (v : Int)) (q ++ [t]) (updN par q.length i) (updN dist t (dist v + 1)) i v l := by
  have hB := h.base
  have htq : t ∉ q := fun hm => by have := (hB.cameIff t).2 hm; omega
  have hil := get_of h.cur
  have hga : ∀ j x, (q ++ [t])[j]? = some x → q[j]? = some x ∧ j < q.length ∧ x ≠ t ∨ j = q.length ∧ x = t := fun j x hx => by
    by_cases e : j < q.length
    · rw [List.getElem?_append_left e] at hx
      exact .inl ⟨hx, e, fun e2 => htq (by rw [← e2]; exact List.mem_of_getElem? hx)⟩
    · rw [List.getElem?_append_right (by omega)] at hx
      by_cases e2 : j = q.length
      · rw [e2] at hx; simp at hx; exact .inr ⟨e2, hx.symm⟩
      · rw [List.getElem?_eq_none (by simp; omega)] at hx; cases hx
  have hgo : ∀ {j x}, q[j]? = some x → (q ++ [t])[j]? = some x := fun {j x} hx => by rw [List.getElem?_append_left (get_of hx)]; exact hx
  have hne : ∀ x, x ∈ q → x ≠ t := fun x hx e => htq (by rw [← e]; exact hx)
  have hvt : v ≠ t := hne v (List.mem_of_getElem? h.cur)
  have po : ∀ j, j < q.length → updN par q.length i j = par j := fun j hj => updN_other _ _ _ (by omega)
  have dq : ∀ x, x ∈ q → updN dist t (dist v + 1) x = dist x := fun x hx => updN_other _ _ _ (hne x hx)
  have haq : a ∈ q := List.mem_of_getElem? hB.hd
  have hdle : ∀ x, x ∈ q → dist x ≤ dist v + 1 := fun x hx => by
    obtain ⟨j, hj⟩ := List.mem_iff_getElem?.1 hx
    by_cases e : 0 < j
    · obtain ⟨h1, h2, p, h3, h4, h5, h6⟩ := hB.parLt j x e hj
      have := hB.distMono (par j) i p v (by omega) h3 h.cur
      omega
    · have : j = 0 := by omega
      subst this; rw [hB.hd] at hj; cases hj; have := hB.dist0; omega
  refine ⟨⟨hgo hB.hd, ?_, fun x => ?_, fun x => ?_, ?_, ?_, fun j x hj hx => ?_, fun j k x y hj hjk hx hy => ?_, fun j k x y hjk hx hy => ?_, fun p x hp hx t' ht' => ?_⟩, hgo h.cur, fun x hx => h.sub x (List.mem_cons_of_mem _ hx), (List.pairwise_cons.1 h.sorted).2, fun x hx => ?_, fun j x hj hx hp y hy => ?_⟩
  · exact List.nodup_append.2 ⟨hB.nodup, by simp, fun x hx y hy => by cases List.mem_singleton.1 hy; exact hne x hx⟩
  · by_cases e : x = t
    · subst e; rw [updN_same]; simp
    · rw [updN_other _ _ _ e, hB.cameIff]; simp [e]
  · by_cases e : x = t
    · subst e; rw [updN_same]; omega
    · rw [updN_other _ _ _ e]; exact hB.low x
  · rw [updN_other _ _ _ (hne a haq)]; exact hB.root
  · rw [dq a haq]; exact hB.dist0
  · rcases hga j x hx with ⟨h1, h2, h3⟩ | ⟨rfl, rfl⟩
    · obtain ⟨p1, p2, p, p3, p4, p5, p6⟩ := hB.parLt j x hj h1
      rw [po j h2, updN_other _ _ _ h3, dq x (List.mem_of_getElem? h1)]
      exact ⟨p1, p2, p, hgo p3, p4, p5, by rw [dq p (List.mem_of_getElem? p3)]; exact p6⟩
    · rw [updN_same, updN_same, updN_same]
      exact ⟨by omega, hil, v, hgo h.cur, rfl, h.sub _ List.mem_cons_self, by rw [dq v (List.mem_of_getElem? h.cur)]⟩
  · rcases hga j x hx with ⟨h1, h2, h3⟩ | ⟨rfl, rfl⟩
    · rcases hga k y hy with ⟨k1, k2, k3⟩ | ⟨rfl, rfl⟩
      · rw [po j h2, po k k2]; exact hB.mono j k x y hj hjk h1 k1
      · rw [po j h2, updN_same]
        have := (hB.parLt j x hj h1).1
        exact ⟨by omega, fun e => by have := h.new j x hj h1 e y List.mem_cons_self; omega⟩
    · rcases hga k y hy with ⟨k1, k2, k3⟩ | ⟨rfl, rfl⟩ <;> omega
  · rcases hga k y hy with ⟨k1, k2, k3⟩ | ⟨rfl, rfl⟩
    · rcases hga j x hx with ⟨h1, h2, h3⟩ | ⟨rfl, rfl⟩
      · rw [dq x (List.mem_of_getElem? h1), dq y (List.mem_of_getElem? k1)]; exact hB.distMono j k x y hjk h1 k1
      · omega
    · rcases hga j x hx with ⟨h1, h2, h3⟩ | ⟨h1, rfl⟩
      · rw [dq x (List.mem_of_getElem? h1), updN_same]; exact hdle x (List.mem_of_getElem? h1)
      · exact Nat.le_refl _
  · rcases hga p x hx with ⟨h1, h2, h3⟩ | ⟨h1, rfl⟩
    · obtain ⟨j, j1, j2⟩ := hB.closed p x hp h1 t' ht'
      exact ⟨j, hgo j1, fun hj => by rw [po j (get_of j1)]; exact j2 hj⟩
    · omega
  · by_cases e : x = t
    · subst e; exact .inr ⟨q.length, by simp, fun _ => by rw [updN_same]; exact Nat.le_refl _⟩
    · rcases h.seen x hx with q1 | ⟨j, j1, j2⟩
      · exact .inl ((List.mem_cons.1 q1).resolve_left e)
      · exact .inr ⟨j, hgo j1, fun hj => by rw [po j (get_of j1)]; exact j2 hj⟩
  · rcases hga j x hx with ⟨h1, h2, h3⟩ | ⟨rfl, rfl⟩
    · rw [po j h2] at hp; exact h.new j x hj h1 hp y (List.mem_cons_of_mem _ hy)
    · exact (List.pairwise_cons.1 h.sorted).1 y hy
theorem BBase.init (adj : Nat → List Nat) (a : Nat) : BOut adj a (updN (fun _ => (-1 : Int)) a (a : Int)) [a] (fun _ => 0) (fun _ => 0) 0 := by
  have hg : ∀ j x, [a][j]? = some x → j = 0 ∧ x = a := fun j x hx => by
    cases j with
    | zero => simp at hx; exact ⟨rfl, hx.symm⟩
    | succ j => simp at hx
  refine ⟨rfl, by simp, fun x => ?_, fun x => ?_, updN_same _ _ _, rfl, fun j x hj hx => ?_, fun j k x y hj hjk hx hy => ?_, fun j k x y hjk hx hy => Nat.le_refl _, fun p x hp => by omega⟩
  · by_cases e : x = a
    · subst e; rw [updN_same]; simp
    · rw [updN_other _ _ _ e]; simp [e]
  · by_cases e : x = a
    · subst e; rw [updN_same]; omega
    · rw [updN_other _ _ _ e]; omega
  · have := (hg j x hx).1; omega
  · have := (hg j x hx).1; have := (hg k y hy).1; omega

/-- A way along which each vertex came from the one ahead of it. -/
inductive Tree (came : Nat → Int) (q : List Nat) (adj : Nat → List Nat) : Nat → Nat → List Nat → Prop
  | one (x : Nat) (hx : x ∈ q) : Tree came q adj x x [x]
  | cons {x t y : Nat} {w : List Nat} (jx jt : Nat) (hx : q[jx]? = some x) (ht : q[jt]? = some t) (h0 : 0 < jt) (hp : came t = (x : Int)) (h : Tree came q adj t y w) : Tree came q adj x y (x :: w)

theorem BBase.parent (h : BOut adj a came q par dist i) {jx jt x t : Nat} (hx : q[jx]? = some x) (ht : q[jt]? = some t) (h0 : 0 < jt) (hp : came t = (x : Int)) : par jt = jx ∧ jx < i ∧ jx < jt ∧ t ∈ adj x ∧ dist t = dist x + 1 := by
  obtain ⟨h1, h2, p, h3, h4, h5, h6⟩ := h.parLt jt t h0 ht
  have e : p = x := by rw [hp] at h4; omega
  subst e
  have := get_inj h.nodup h3 hx
  exact ⟨this, by omega, by omega, h5, h6⟩
theorem Tree.way (h : BOut adj a came q par dist i) {x y : Nat} {w : List Nat} (ht : Tree came q adj x y w) : Way adj x y w := by
  induction ht with
  | one => exact .one _
  | cons jx jt hx ht h0 hp _ ih => exact .cons (h.parent hx ht h0 hp).2.2.2.1 ih
theorem Tree.distEq (h : BOut adj a came q par dist i) {x y : Nat} {w : List Nat} (ht : Tree came q adj x y w) : dist y + 1 = dist x + w.length := by
  induction ht with
  | one => rfl
  | cons jx jt hx ht h0 hp _ ih => have := (h.parent hx ht h0 hp).2.2.2.2; simp only [List.length_cons]; omega
theorem Tree.last {x y : Nat} {w : List Nat} (ht : Tree came q adj x y w) : y ∈ q := by
  induction ht with
  | one _ hx => exact hx
  | cons _ _ _ _ _ _ _ ih => exact ih
theorem Tree.le (h : BOut adj a came q par dist i) {x y : Nat} {w : List Nat} (ht : Tree came q adj x y w) : ∀ {j k : Nat}, q[j]? = some x → q[k]? = some y → j ≤ k := by
  induction ht with
  | one => intro j k hj hk; exact Nat.le_of_eq (get_inj h.nodup hj hk)
  | cons jx jt hx ht h0 hp _ ih =>
    intro j k hj hk
    have h1 := (h.parent hx ht h0 hp).2.2.1
    have h2 := ih ht hk
    have := get_inj h.nodup hj hx
    omega
/-- No way to a vertex of the queue is shorter than how far it is. -/
theorem BBase.far (h : BOut adj a came q par dist i) {x y : Nat} {u : List Nat} (hu : Way adj x y u) (hx : x ∈ q) (hy : y ∈ q) : dist y + 1 ≤ dist x + u.length := by
  induction hu with
  | one => simp
  | @cons x t y w ht hu ih =>
    obtain ⟨jx, hjx⟩ := List.mem_iff_getElem?.1 hx
    have hl := hu.pos
    simp only [List.length_cons]
    by_cases hi : jx < i
    · obtain ⟨jt, h1, h2⟩ := h.closed jx x hi hjx t ht
      have := ih (List.mem_of_getElem? h1) hy
      have hd : dist t ≤ dist x + 1 := by
        by_cases h0 : 0 < jt
        · obtain ⟨_, _, p, p1, _, _, p2⟩ := h.parLt jt t h0 h1
          have := h.distMono _ _ _ _ (h2 h0) p1 hjx
          omega
        · have : jt = 0 := by omega
          subst this; rw [h.hd] at h1; cases h1; have := h.dist0; omega
      omega
    · obtain ⟨jy, hjy⟩ := List.mem_iff_getElem?.1 hy
      by_cases h0 : 0 < jy
      · obtain ⟨p0, _, p, p1, _, _, p2⟩ := h.parLt jy y h0 hjy
        have := h.distMono _ _ _ _ (show par jy ≤ jx by omega) p1 hjx
        omega
      · have : jy = 0 := by omega
        subst this; rw [h.hd] at hjy; cases hjy; have := h.dist0; omega
/-- From an earlier place a way is longer. -/
theorem BBase.longer (h : BOut adj a came q par dist i) {x y b : Nat} {u w : List Nat} (hu : Way adj x b u) (ht : Tree came q adj y b w) {jx jy : Nat} (hjx : q[jx]? = some x) (hjy : q[jy]? = some y) (hlt : jx < jy) : w.length < u.length := by
  induction hu generalizing y w jx jy with
  | one => have := ht.le h hjy hjx; omega
  | @cons x x' b u' hx' hu ih =>
    cases ht with
    | one => have := hu.pos; simp only [List.length_cons, List.length_nil]; omega
    | cons jy2 jt hy2 hjt h0 hp ht =>
      obtain ⟨e1, e2, e3, _, _⟩ := h.parent hy2 hjt h0 hp
      have e4 := get_inj h.nodup hjy hy2
      obtain ⟨jx', k1, k2⟩ := h.closed jx x (by omega) hjx x' hx'
      have : jx' < jt := by
        by_cases q1 : jx' < jt
        · exact q1
        · exfalso
          by_cases q2 : jx' = jt
          · rw [q2] at k2; have := k2 h0; omega
          · have := (h.mono jt jx' _ _ h0 (by omega) hjt k1).1
            have := k2 (by omega); omega
      have := ih ht k1 hjt this
      simp only [List.length_cons]; omega
/-- Of all ways of its length the tree's is the first. -/
theorem BBase.lex (h : BOut adj a came q par dist i) {x b : Nat} {u w : List Nat} (hu : Way adj x b u) (ht : Tree came q adj x b w) (hl : u.length = w.length) : lexLe w u := by
  induction hu generalizing w with
  | one =>
    cases ht with
    | one => exact lexLe_refl _
    | cons _ _ _ _ _ _ ht => cases ht <;> simp at hl
  | @cons x x' b u' hx' hu ih =>
    cases ht with
    | one => have := hu.pos; simp only [List.length_cons, List.length_nil] at hl; omega
    | @cons _ t _ w' jx jt hjx hjt h0 hp ht =>
      obtain ⟨e1, e2, e3, _, _⟩ := h.parent hjx hjt h0 hp
      have hl' : u'.length = w'.length := by simpa using hl
      by_cases e : x' = t
      · subst e; exact .inr ⟨rfl, ih ht hl'⟩
      · refine .inr ⟨rfl, ?_⟩
        obtain ⟨jx', k1, k2⟩ := h.closed jx x e2 hjx x' hx'
        have hne : jx' ≠ jt := fun q1 => by subst q1; rw [k1] at hjt; injection hjt with q2; exact e q2
        have hge : jt < jx' := by
          by_cases q1 : jx' < jt
          · have := h.longer hu ht k1 hjt q1; omega
          · omega
        have hm := h.mono jt jx' t x' h0 hge hjt k1
        have := k2 (by omega)
        have hlt := hm.2 (by omega)
        obtain ⟨_, rfl⟩ := hu.ne
        obtain ⟨_, rfl⟩ := (ht.way h).ne
        exact .inl hlt
theorem BBase.first (h : BOut adj a came q par dist i) {b : Nat} {w : List Nat} (ht : Tree came q adj a b w) : IsFirst adj a b w :=
  ⟨ht.way h, fun u hu => by
    have h1 := h.far hu (List.mem_of_getElem? h.hd) ht.last
    have h2 := ht.distEq h
    omega, fun u hu hl => h.lex hu ht hl⟩
/-- What isn't in the queue at the end can't be reached. -/
theorem BBase.none (h : BOut adj a came q par dist i) (hi : q.length ≤ i) {b : Nat} (hb : came b < 0) : ¬ Goes adj a b := fun hg => by
  have := Goes.closed (P := fun x => x ∈ q) (fun x hx t ht => by
    obtain ⟨j, hj⟩ := List.mem_iff_getElem?.1 hx
    obtain ⟨k, hk, _⟩ := h.closed j x (by have := get_of hj; omega) hj t ht
    exact List.mem_of_getElem? hk) hg (List.mem_of_getElem? h.hd)
  have := (h.cameIff b).2 this
  omega
end Go.Proofs.YtmhiambkfdkkbaaDoor

namespace Go.Proofs.YtmhiambkfdkkbaaDoor
open Go.RowKit

/-- v is a slice of slices that reads the lists G. -/
def ListsAt (w : World) (v : Value) (G : List (List Int)) : Prop :=
  ∃ vs : List Value, ValsAt w v vs ∧ vs.length = G.length ∧ ∀ i, i < G.length → IntsAt w (vAt vs i) (G.getD i [])
theorem ListsAt.below {w w' : World} {v : Value} {G : List (List Int)} (h : ListsAt w v G) (hb : Below w.heap.size w w') : ListsAt w' v G := by
  obtain ⟨vs, h1, h2, h3⟩ := h
  exact ⟨vs, h1.below hb, h2, fun i hi => (h3 i hi).below hb⟩
theorem ListsAt.drewN {w : World} {v : Value} {G : List (List Int)} (h : ListsAt w v G) (n : Nat) : ListsAt (w.drewN n) v G := h
theorem ListsAt.len {w : World} {v : Value} {G : List (List Int)} (h : ListsAt w v G) (ty : TypeId) (w' : World) :
    (Builtin.len_ #[43] ty #[v]).run Tryd.prog w' = .ok (.int .i64 G.length) w' := by
  obtain ⟨vs, h1, h2, h3⟩ := h
  rw [h1.len oneLists, h2]
theorem ListsAt.shape {w : World} {v : Value} {G : List (List Int)} (h : ListsAt w v G) : ∃ a c, v = .slice a G.length c := by
  obtain ⟨vs, ⟨a, c, e, _⟩, h2, _⟩ := h
  exact ⟨a, c, by rw [e, h2]⟩
theorem ListsAt.row {w : World} {v : Value} {G : List (List Int)} (h : ListsAt w v G) (x : Nat) (hx : x < G.length) :
    ∃ mv, (∀ w', (Instr.indexAt 43 v (.int .i64 x)).run Tryd.prog w' = .ok (.pointer (some (valAt v x))) w') ∧ w.cell? (valAt v x) = some mv ∧ IntsAt w mv (G.getD x []) := by
  obtain ⟨vs, h1, h2, h3⟩ := h
  exact ⟨vAt vs x, fun w' => h1.idx oneLists x (by omega) w', h1.cellV x (by omega), h3 x hx⟩
/-- Where an arrow leads. -/
def adjOf (G : List (List Int)) (v : Nat) : List Nat := (G.getD v []).map Int.toNat
/-- All arrows lead to vertices. -/
def GraphOk (G : List (List Int)) : Prop := ∀ v, v < G.length → ∀ t ∈ G.getD v [], 0 ≤ t ∧ t < G.length
theorem adjOf_len (G : List (List Int)) (v : Nat) : (adjOf G v).length = (G.getD v []).length := by simp [adjOf]
theorem GraphOk.lt {G : List (List Int)} (h : GraphOk G) : ∀ v, v < G.length → ∀ t ∈ adjOf G v, t < G.length := by
  intro v hv t ht
  obtain ⟨i, hi, rfl⟩ := List.mem_map.1 ht
  have := h v hv i hi
  omega
theorem GraphOk.get {G : List (List Int)} (h : GraphOk G) {v : Nat} (hv : v < G.length) {i : Nat} (hi : i < (G.getD v []).length) : (G.getD v []).getD i 0 = ((adjOf G v).getD i 0 : Int) := by
  have hm : (G.getD v [])[i] ∈ G.getD v [] := List.getElem_mem hi
  have := h v hv _ hm
  simp only [adjOf, List.getD_eq_getElem?_getD (l := List.map _ _), List.getElem?_map, List.getElem?_eq_getElem hi, Option.map_some, Option.getD_some]
  rw [List.getD_eq_getElem?_getD, List.getElem?_eq_getElem hi, Option.getD_some]
  omega
end Go.Proofs.YtmhiambkfdkkbaaDoor

namespace Go.Proofs.YtmhiambkfdkkbaaDoor
open Go.RowKit
set_option maxRecDepth 100000

/-- The lists of a function. -/
def rowsOf (n : Nat) (F : Nat → List Int) : List (List Int) := (List.range n).map F
theorem rowsOf_len (n : Nat) (F : Nat → List Int) : (rowsOf n F).length = n := by simp [rowsOf]
theorem rowsOf_get (n : Nat) (F : Nat → List Int) (u : Nat) (hu : u < n) : (rowsOf n F).getD u [] = F u := by simp [rowsOf, List.getD, hu]
theorem vAt_set_same {l : List Value} {k : Nat} {g : Value} (h : k < l.length) : vAt (l.set k g) k = g := by simp [vAt, List.getD, h]
theorem vAt_set_ne {l : List Value} {k t : Nat} {g : Value} (h : t ≠ k) : vAt (l.set k g) t = vAt l t := by
  simp [vAt, List.getD, Ne.symm h]
/-- What the names name: the outer row, the lists. -/
structure WN (f : Names) (ov : Value) (vals : List Value) (n : Nat) (F : Nat → List Int) : Prop where
  outer : f (1, 0) = some (rowV 22 ov vals)
  len : vals.length = n
  rows : ∀ u, u < n → f (2, u) = some (rowI (vAt vals u) (F u))
section
variable {B : Nat} {w : World} {f : Names} {ov : Value} {vals : List Value} {n : Nat} {F : Nat → List Int}
theorem WN.lists (h : WN f ov vals n F) (hr : Rows B w f) : ListsAt w ov (rowsOf n F) :=
  ⟨vals, (hr.ownV h.outer).at, by rw [h.len, rowsOf_len], fun i hi => by
    rw [rowsOf_len] at hi
    rw [rowsOf_get n F i hi]
    exact (hr.ownI (h.rows i hi)).at⟩
/-- out[u] = a list: the list's row is there; now the outer row's cell. -/
theorem WN.put (h : WN f ov vals n F) {w1 : World} {u : Nat} (hu : u < n) {v' : Value} {xs : List Int} (hr1 : Rows B w1 (upd f (2, u) (some (rowI v' xs)))) :
    w1.cell? (valAt ov u) = some (vAt vals u) ∧ w1.frozen? (valAt ov u) = false ∧ B ≤ (valAt ov u).block ∧
    ∃ f', Rows B (w1.setCell (valAt ov u) v') f' ∧ WN f' ov (vals.set u v') n (updN F u xs) ∧ ∀ i, i ≠ (1, 0) → i ≠ (2, u) → f' i = f i := by
  have ho : upd f (2, u) (some (rowI v' xs)) (1, 0) = some (rowV 22 ov vals) := by rw [upd_ne _ _ (by simp)]; exact h.outer
  have hl : u < vals.length := by rw [h.len]; exact hu
  have hO := hr1.ownV ho
  refine ⟨hO.at.cellV u hl, hO.frz u hl, (hO.blkB u hl).2, _, hr1.setV ho u hl v', ⟨upd_same _ _ _, by simpa using h.len, fun t ht => ?_⟩, fun i h1 h2 => by rw [upd_ne _ _ h1, upd_ne _ _ h2]⟩
  rw [upd_ne _ _ (by simp)]
  by_cases e : t = u
  · subst e
    rw [upd_same, vAt_set_same hl, updN_same]
  · rw [upd_ne _ _ (by simpa using e), vAt_set_ne e, updN_other _ _ _ e]
    exact h.rows t ht
/-- A list that a call has made. -/
theorem WN.new (_h : WN f ov vals n F) (hr : Rows B w f) {w1 : World} (u : Nat) {v' : Value} {xs : List Int} (hb : Below w.heap.size w w1) (hB : B ≤ w.heap.size) (ho : OwnI w.heap.size w1 v' xs) : Rows B w1 (upd f (2, u) (some (rowI v' xs))) :=
  hr.add hb (ho.mono hB) (fun k hk => (ho.lt k hk).1)
/-- append(out[u], x). -/
theorem WN.app (h : WN f ov vals n F) (hr : Rows B w f) {w1 : World} {u : Nat} (hu : u < n) {v' : Value} (x : Int) (ho : OwnI B w1 v' (F u ++ [x]))
    (hal : (roomOf v' = roomOf (vAt vals u) ∧ w.grownBy w1 (vAt vals u).ownBlock) ∨ (∃ k, v'.ownBlock = some k ∧ w.heap.size ≤ k ∧ w.grownBy w1 none)) : Rows B w1 (upd f (2, u) (some (rowI v' (F u ++ [x])))) := by
  have hO := hr.ownI (h.rows u hu)
  refine hr.grown (r' := rowI v' (F u ++ [x])) (h.rows u hu) (grown_via (hal.imp (·.2) (fun ⟨_, _, _, q⟩ => q))) ho ?_
  rcases hal with ⟨q, _⟩ | ⟨k, h1, h2, _⟩
  · obtain ⟨a1, n1, c1, e1⟩ := hO.at.shape
    obtain ⟨a2, n2, c2, e2⟩ := ho.at.shape
    exact .inl (ownBlock_of_room e1 e2 q)
  · exact .inr ⟨k, h1, h2⟩
/-- out[u][i] = x. -/
theorem WN.elem (h : WN f ov vals n F) (hr : Rows B w f) (u : Nat) (hu : u < n) (i : Nat) (hi : i < (F u).length) (x : Int) :
    ∃ f', Rows B (w.setCell (valAt (vAt vals u) i) (.int .i64 x)) f' ∧ WN f' ov vals n (updN F u ((F u).set i x)) := by
  refine ⟨_, hr.setI (h.rows u hu) i hi x, ⟨by rw [upd_ne _ _ (by simp)]; exact h.outer, h.len, fun t ht => ?_⟩⟩
  by_cases e : t = u
  · subst e; rw [upd_same, updN_same]
  · rw [upd_ne _ _ (by simpa using e), updN_other _ _ _ e]; exact h.rows t ht
end
/-- make([]T, n) as an equation. -/
theorem run_makeW {T E : TypeId} {z : Value} {b : Nat} (oc : OneCell T E z b) (C : Int) (n : Nat) (w : World) (hC : C = n) (hn : n ≤ 4398046511104) :
    ∃ v w', (Instr.makeSlice T (.int .i64 C) (.int .i64 C)).run Tryd.prog w = .ok v w' ∧ OwnV E w.heap.size w' v (List.replicate n z) ∧ Below w.heap.size w w' := by
  subst hC
  obtain ⟨i, hi, hz0, hz1, hz2⟩ := info_parts oc.hi
  have hb := oc.hb
  obtain ⟨w', hrun, r1, r2⟩ := run_make_full (P := Tryd.prog) w w.heap.size T E i z 1 oc.ht hi hz0 hz1 .i64 .i64 n (by
    rw [hz2]
    calc b * n ≤ 32 * 4398046511104 := Nat.mul_le_mul hb (by omega)
      _ ≤ _ := by decide) (by unfold maxLen; omega) (Nat.le_refl _)
  refine ⟨_, w', hrun, ?_, (Below.refl _ _).grown r2 (Nat.le_refl _) (by intro k hk; cases hk)⟩
  rw [oc.hz, toList_madeCells_one] at r1
  simpa [OwnV] using r1
/-- Lists none of which is made yet. -/
def nils (n : Nat) : Names := fun i => if i.1 = 2 ∧ i.2 < n then some (rowI (.slice none 0 0) []) else none
theorem rows_nils (B : Nat) (w : World) (n : Nat) : Rows B w (nils n) := by
  refine ⟨fun i r hi => ?_, fun i j r s hi _ _ => ?_⟩
  · unfold nils at hi
    split at hi
    · injection hi with hi; subst hi; exact OwnI.nil B w
    · cases hi
  · left
    unfold nils at hi
    split at hi
    · injection hi with hi; subst hi; rfl
    · cases hi
/-- make([][]int, n). -/
theorem WN.made {B : Nat} {w w1 : World} {ov : Value} (n : Nat) (hb : Below w.heap.size w w1) (hB : B ≤ w.heap.size) (ho : OwnV 22 w.heap.size w1 ov (List.replicate n (.slice none 0 0))) :
    ∃ f, Rows B w1 f ∧ WN f ov (List.replicate n (.slice none 0 0)) n (fun _ => []) := by
  refine ⟨_, (rows_nils B w n).add (i := (1, 0)) (r' := rowV 22 ov (List.replicate n (.slice none 0 0))) hb (ho.mono hB) (fun k hk => (ho.lt k hk).1), ⟨upd_same _ _ _, by simp, fun u hu => ?_⟩⟩
  rw [upd_ne _ _ (by simp)]
  show nils n (2, u) = _
  unfold nils
  rw [if_pos ⟨rfl, hu⟩]
  simp [vAt, List.getD, hu]
end Go.Proofs.YtmhiambkfdkkbaaDoor

namespace Go.Proofs.YtmhiambkfdkkbaaDoor
open Go.RowKit
set_option maxRecDepth 100000

/-- T: slices of E, a struct of two ints. -/
def TwoInts (T E : TypeId) : Prop := Tryd.prog.underlying T = some (.slice E) ∧ ∃ i, Tryd.prog.info? E = some i ∧ i.zero = some (.agg #[.int .i64 0, .int .i64 0]) ∧ i.size = 2 ∧ i.bytes = 16
theorem twoInts_mk {T E : TypeId} (h1 : Tryd.prog.underlying T = some (.slice E)) (h2 : (Tryd.prog.info? E).map (fun i => (i.zero, i.size, i.bytes)) = some (some (.agg #[.int .i64 0, .int .i64 0]), 2, 16)) : TwoInts T E := by
  refine ⟨h1, ?_⟩
  cases h : Tryd.prog.info? E with
  | none => rw [h] at h2; cases h2
  | some i => rw [h] at h2; simp at h2; exact ⟨i, rfl, h2.1, h2.2.1, h2.2.2⟩

/-- append of one struct of two ints. -/
theorem run_app2 {T E : TypeId} (tc : TwoInts T E) (w : World) (B : Nat) (ty : TypeId) (v : Value) (m : Nat) (xs : List Value) (hown : w.ownsRow B E 2 v m xs)
    (b : Nat) (y0 y1 : Int) (hys : ∀ (j : Nat) (u : Value), ([Value.int .i64 y0, .int .i64 y1] : List Value)[j]? = some u → w.cell? ((⟨b, 0, none⟩ : Addr).add j) = some u) (hlen : m < 1000000) (hB : B ≤ w.heap.size) :
    ∃ g n' c' w', (Builtin.append_ #[T, T] ty #[v, .slice (some ⟨b, 0, none⟩) 1 1]).run Tryd.prog w = .ok (.slice (some ⟨g, 0, none⟩) n' c') w' ∧ n' = m + 1 ∧ w'.ownsRow B E 2 (.slice (some ⟨g, 0, none⟩) (m + 1) c') (m + 1) (xs ++ [.int .i64 y0, .int .i64 y1]) ∧
      ((v.ownBlock = some g ∧ w.grownBy w' v.ownBlock) ∨ (g = w.heap.size ∧ w.grownBy w' none)) := by
  obtain ⟨ht, i, hi, hz0, hz1, hz2⟩ := tc
  have hzc : (Value.agg #[.int .i64 0, .int .i64 0]).cells = #[.int .i64 0, .int .i64 0] := by rfl
  have hxl := hown.1
  have big : ∀ (old : Nat), old < m + 1 →
      (w.drew.alloc (.cells (xs.toArray ++ [Value.int .i64 y0, .int .i64 y1].toArray ++ Builtin.zeroCells (Value.agg #[.int .i64 0, .int .i64 0]).cells (grownCap w (m + 1) old E - (m + 1))) E)).ownsRow B E 2 (.slice (some ⟨w.heap.size, 0, none⟩) (m + 1) (grownCap w (m + 1) old E)) (m + 1) (xs ++ [.int .i64 y0, .int .i64 y1]) := by
    intro old ho
    have hge := grownCap_ge w (m + 1) old E
    have hcm : grownCap w (m + 1) old E ≤ maxLen := grownCap_le_maxLen w _ old E (by unfold maxLen; omega)
    refine ⟨by simp [hxl]; omega, .inr ⟨w.heap.size, _, _, rfl, hB, heap_alloc_new w.drew _, hge, hcm, ?_, ?_⟩⟩
    · simp only [Array.size_append, List.size_toArray, size_zeroCells, hzc, hxl]
      simp
      omega
    · simp only [Array.toList_append]
      exact List.take_left' (by simp [hxl]; omega)
  have grw : ∀ (oo : Obj), w.grownBy (w.drew.alloc oo) none := fun oo => ⟨rfl, rfl, rfl, by simp, fun k hk _ => Below.heap_alloc w.drew oo k hk⟩
  rcases hown.2 with ⟨rfl, hn⟩ | ⟨g, cap, cur, rfl, hbg, hg, hnc, hcm, hcs, htake⟩
  · subst hn
    obtain rfl := List.length_eq_zero_iff.1 (show xs.length = 0 by omega)
    have hr := run_append_nil (P := Tryd.prog) w T ty E i _ ht hi hz0 ⟨b, 0, none⟩ 1 1 [.int .i64 y0, .int .i64 y1] (by rw [hz1]; rfl) hys (by omega) (by omega) (by rw [hz2]; decide)
    have hbg := big 0 (by omega)
    simp only [List.nil_append, Array.empty_append, Nat.zero_add] at hbg hr
    exact ⟨_, _, _, _, hr, rfl, by simpa using hbg, .inr ⟨rfl, grw _⟩⟩
  · by_cases hroom : m + 1 ≤ cap
    · have hr := run_append_room (P := Tryd.prog) w T ty E i ht hi g m cap cur hg ⟨b, 0, none⟩ 1 1 [.int .i64 y0, .int .i64 y1] (by rw [hz1]; rfl) hys (by simp [Value.oneCell']) hroom (by rw [hz1, hcs]; simp; omega)
      refine ⟨_, _, _, _, hr, rfl, ⟨by simp [hxl]; omega, .inr ⟨g, cap, _, rfl, hbg, setRow_heap w g cur _ E _ hg, hroom, hcm, ?_, ?_⟩⟩, .inl ⟨rfl, ⟨rfl, rfl, rfl, by simp, fun k _ hk => setRow_other w g k _ (fun e => hk (by simp [Value.ownBlock, e]))⟩⟩⟩
      · simp only [List.size_toArray, List.length_append, List.length_take, List.length_drop, Array.length_toList, hz1, hcs]
        simp
        omega
      · rw [hz1, htake]
        exact List.take_left' (by simp [hxl]; omega)
    · have holds : ∀ j u, xs[j]? = some u → w.cell? ((⟨g, 0, none⟩ : Addr).add j) = some u := World.ownsRow.cells hown (g := g) rfl
      have hr := run_append_grow (P := Tryd.prog) w T ty E i _ ht hi hz0 ⟨g, 0, none⟩ m cap xs (by rw [hz1]; exact hxl) holds ⟨b, 0, none⟩ 1 1 [.int .i64 y0, .int .i64 y1] (by rw [hz1]; rfl) hys (by omega) (by omega) (by
        rw [hz2]
        exact growslice_fits (by omega) (by
          calc (m + 1) * 16 ≤ 1000000 * 16 := Nat.mul_le_mul_right _ hlen
            _ ≤ _ := by decide))
      exact ⟨_, _, _, _, hr, rfl, big cap (by omega), .inr ⟨rfl, grw _⟩⟩

/-- append(s, struct) in the text's order. -/
theorem wpl_app2 {T E : TypeId} (tc : TwoInts T E) {w : World} {ops : Array Oper} {rest : List Oper} {o : Oper} {a : Act} {Q : Exit → Act → World → Prop} (hgd : o.guard = none) (s x : Operand)
    (ho : o.op = .call { callee := .builtin .append, args := #[s, x], argTypes := #[T, T] })
    (B : Nat) (v : Value) (m : Nat) (xs : List Value) (y0 y1 : Int) (b : Nat) (hown : w.ownsRow B E 2 v m xs) (hs : a.eval s = v) (hx : a.eval x = .slice (some ⟨b, 0, none⟩) 1 1) (hb : b = w.heap.size)
    (hlen : m < 1000000) (hB : B ≤ w.heap.size)
    (h : ∀ g c w', w'.ownsRow B E 2 (.slice (some ⟨g, 0, none⟩) (m + 1) c) (m + 1) (xs ++ [.int .i64 y0, .int .i64 y1]) → ((v.ownBlock = some g ∧ w.grownBy w' v.ownBlock) ∨ (w.heap.size ≤ g ∧ w.grownBy w' none)) → wpList Tryd.prog ops Q rest (a.put o.dst (.slice (some ⟨g, 0, none⟩) (m + 1) c)) w') :
    wpList Tryd.prog ops Q (o :: rest) a (w.alloc (.cells #[.int .i64 y0, .int .i64 y1] E)) := by
  subst hb
  refine wpList_plain hgd fun K hK => ?_
  have hcells : ∀ (j : Nat) (u : Value), ([Value.int .i64 y0, .int .i64 y1] : List Value)[j]? = some u → (w.alloc (.cells #[.int .i64 y0, .int .i64 y1] E)).cell? ((⟨w.heap.size, 0, none⟩ : Addr).add j) = some u := by
    intro j u hj
    have hn := heap_alloc_new w (.cells #[.int .i64 y0, .int .i64 y1] E)
    match j, hj with
    | 0, hj => simp at hj; subst hj; simp only [World.cell?, Addr.add, if_true]; rw [hn]; rfl
    | 1, hj => simp at hj; subst hj; simp only [World.cell?, Addr.add, show ¬ (1 = 0) by decide, if_false]; rw [hn]; rfl
    | j + 2, hj => simp at hj
  obtain ⟨g, n', c', w', hr, rfl, h2, h3⟩ := run_app2 tc (w.alloc (.cells #[.int .i64 y0, .int .i64 y1] E)) B o.type v m xs (World.ownsRow.alloc hown _) w.heap.size y0 y1 hcells hlen (by simp; omega)
  unfold Oper.wp execOp
  simp only [ho, resolve, invoke, builtin, Sem.run_bind, Sem.run_pure, Result.andThen_ok, List.map_toArray, List.map_cons, List.map_nil, hs, hx]
  rw [hr]
  have hal : ∀ row, w.grownBy (w.alloc (.cells #[.int .i64 y0, .int .i64 y1] E)) row := fun row => World.grownBy_alloc w _ row
  rcases h3 with ⟨hv, hg⟩ | ⟨hk, hg⟩
  · exact hK _ _ (h g c' w' h2 (.inl ⟨hv, (hal v.ownBlock).trans hg⟩))
  · exact hK _ _ (h g c' w' h2 (.inr ⟨by rw [hk]; simp, (hal none).trans hg⟩))

/-- The cells of such a row. -/
def flat2 (l : List (Int × Int)) : List Value := l.flatMap fun p => [.int .i64 p.1, .int .i64 p.2]
theorem flat2_snoc (l : List (Int × Int)) (a b : Int) : flat2 (l ++ [(a, b)]) = flat2 l ++ [.int .i64 a, .int .i64 b] := by simp [flat2]
theorem flat2_len (l : List (Int × Int)) : (flat2 l).length = l.length * 2 := by
  induction l with
  | nil => rfl
  | cons p l ih => simp only [flat2, List.flatMap_cons, List.length_append, List.length_cons, List.length_nil] at ih ⊢; omega
theorem flat2_get (l : List (Int × Int)) (s : Nat) (h : s < l.length) : (flat2 l)[s * 2]? = some (.int .i64 l[s].1) ∧ (flat2 l)[s * 2 + 1]? = some (.int .i64 l[s].2) := by
  induction l generalizing s with
  | nil => simp at h
  | cons p l ih =>
    cases s with
    | zero => exact ⟨rfl, rfl⟩
    | succ s =>
      have := ih s (by simpa using h)
      rw [show (s + 1) * 2 = s * 2 + 1 + 1 by omega]
      simpa [flat2] using this

end Go.Proofs.YtmhiambkfdkkbaaDoor

namespace Go.Proofs.YtmhiambkfdkkbaaDoor
open Go.RowKit
set_option maxRecDepth 100000

theorem sizeInt1 : (Tryd.prog.info? 3).map (·.size) = some 1 := by kernel_rfl

theorem splice_take {α : Type} (C ys : List α) (off n : Nat) (h : off + ys.length ≤ n) (hn : n ≤ C.length) :
    (C.take off ++ ys ++ C.drop (off + ys.length)).take n = (C.take n).take off ++ ys ++ (C.take n).drop (off + ys.length) := by
  have hl : (C.take off ++ ys).length = off + ys.length := by simp; omega
  rw [List.take_append, List.take_of_length_le (by omega), hl, List.drop_take, List.take_take, Nat.min_eq_left (by omega)]

/-- copy(d, u), d at place off of an owned slice. -/
theorem run_copyI {w : World} {B : Nat} {v u d : Value} {xs ys : List Int} (off : Nat) (ty : TypeId) (dp : Option Addr) (dLen dCap : Nat) (hown : OwnI B w v xs) (hu : IntsAt w u ys) (hd : d = .slice dp dLen dCap)
    (hdl : ys.length ≤ dLen) (hfit : off + ys.length ≤ xs.length) (hdp : 0 < ys.length → dp = some (valAt v off)) :
    ∃ w', (Builtin.copy_ #[22, 22] ty #[d, u]).run Tryd.prog w = .ok (.int .i64 ys.length) w' ∧ OwnI B w' v (xs.take off ++ ys ++ xs.drop (off + ys.length)) ∧ Below B w w' ∧ w.grownBy w' v.ownBlock := by
  subst hd
  obtain ⟨sp, sCap, rfl, h1, h2, h3, h4⟩ := hu
  by_cases h0 : ys.length = 0
  · obtain rfl : ys = [] := List.eq_nil_of_length_eq_zero h0
    have hr := run_copy_none (P := Tryd.prog) w 22 22 ty 3 dp sp dLen dCap 0 sCap uInts sizeInt1 (by simp)
    exact ⟨w, hr, by simpa using hown, Below.refl _ _, World.grownBy.refl _ _⟩
  · obtain rfl := hdp (by omega)
    cases sp with
    | none => have := h3 rfl; omega
    | some p =>
      rcases hown.2 with ⟨rfl, hn⟩ | ⟨g, cap, cur, rfl, hb, hg, hn, hm, hcs, ht⟩
      · omega
      · rw [valAt_row]
        have hsrc : ∀ j u, (ys.map (Value.int .i64))[j]? = some u → w.cell? (p.add j) = some u := by
          intro j u hj
          have hjl : j < ys.length := by have := (List.getElem?_eq_some_iff.1 hj).1; simpa using this
          have := h4 j hjl
          simp only [valAt] at this
          rw [this, ← hj]; simp [hjl]
        have hcl : cur.toList.length = cap := by rw [Array.length_toList, hcs]; omega
        have hr := run_copy_row (P := Tryd.prog) w 22 22 ty 3 g off dLen dCap p ys.length sCap cur 3 (ys.map (.int .i64)) uInts sizeInt1 hg (by simp; exact (Nat.min_eq_left hdl).symm) hsrc (by rw [hcs]; simp; omega) (ints_oneCell _ _)
        rw [show goInt (ys.map (Value.int .i64)).length = .int .i64 ys.length by rw [List.length_map]; rfl] at hr
        have hst : w.grownBy (w.setRow g (cur.toList.take off ++ ys.map (Value.int .i64) ++ cur.toList.drop (off + (ys.map (Value.int .i64)).length)).toArray) (some g) :=
          ⟨rfl, rfl, rfl, by simp, fun k _ hk => setRow_other w g k _ (fun e => hk (by simp [e]))⟩
        refine ⟨_, hr, ?_, (Below.refl _ _).grown hst (by have := (Array.getElem?_eq_some_iff.1 hg).1; omega) (by intro k hk; simp at hk; omega), hst⟩
        have hlen : (xs.take off ++ ys ++ xs.drop (off + ys.length)).length = xs.length := by simp; omega
        refine ⟨by simp, .inr ⟨g, cap, _, by rw [hlen], hb, setRow_heap w g cur _ _ _ hg, by rw [hlen]; exact hn, hm, ?_, ?_⟩⟩
        · simp only [List.size_toArray, List.length_append, List.length_take, List.length_drop, List.length_map, hcl]; omega
        · rw [hlen]
          have e := splice_take cur.toList (ys.map (Value.int .i64)) off xs.length (by simpa using hfit) (by omega)
          rw [Nat.mul_one] at ht ⊢
          rw [e, ht]
          simp [List.map_take, List.map_drop]

/-- copy(v, u), v owned and no shorter. -/
theorem run_copy0 {w : World} {B : Nat} {v u : Value} {xs ys : List Int} (ty : TypeId) (hown : OwnI B w v xs) (hu : IntsAt w u ys) (hfit : ys.length ≤ xs.length) :
    ∃ w', (Builtin.copy_ #[22, 22] ty #[v, u]).run Tryd.prog w = .ok (.int .i64 ys.length) w' ∧ OwnI B w' v (ys ++ xs.drop ys.length) ∧ Below B w w' ∧ w.grownBy w' v.ownBlock := by
  obtain ⟨a, cap, e, _⟩ := hown.at
  have := run_copyI 0 ty a xs.length cap hown hu e hfit (by omega) (by
    intro h0
    rcases hown.2 with ⟨rfl, hn⟩ | ⟨g, cap', cur, rfl, _⟩
    · omega
    · simp at e; obtain ⟨rfl, -⟩ := e; rw [valAt_row])
  simpa using this

/-- A slice cut to its first h elements. -/
def preV (v : Value) (h : Nat) : Value := match v with | .slice a _ c => .slice a h c | v => v
theorem preV_at (v : Value) (h i : Nat) : valAt (preV v h) i = valAt v i := by
  cases v with
  | slice a n c => cases a <;> rfl
  | _ => rfl

theorem run_pre {a : Option Addr} {n c : Nat} (h : Nat) (hh : h ≤ c) (w : World) :
    (Instr.slice 22 (.slice a n c) none (some (.int .i64 h)) none).run Tryd.prog w = .ok (preV (.slice a n c) h) w := by
  rw [run_slice_h w 22 a n c uIntsE .i64 h (by omega) (by omega), eInts, sInt]
  simp only [Result.andThen, sliced, preV]
  rw [Int.toNat_natCast]
  have e : Option.map (fun x => x.add 0) a = a := by cases a <;> simp [Addr.add]
  simp [e]

theorem IntsAt.pre {w : World} {v : Value} {xs : List Int} (h : IntsAt w v xs) (k : Nat) (hk : k ≤ xs.length) : IntsAt w (preV v k) (xs.take k) := by
  obtain ⟨a, cap, rfl, h1, h2, h3, h4⟩ := h
  have hl : (xs.take k).length = k := by simp; omega
  refine ⟨a, cap, by rw [hl]; rfl, by omega, h2, h3, fun i hi => ?_⟩
  rw [preV_at, h4 i (by omega)]
  simp
theorem OwnI.runPre {B : Nat} {w : World} {v : Value} {xs : List Int} (h : OwnI B w v xs) (k : Nat) (hk : k ≤ xs.length) (w' : World) :
    (Instr.slice 22 v none (some (.int .i64 k)) none).run Tryd.prog w' = .ok (preV v k) w' := by
  obtain ⟨a, cap, rfl, h1, _⟩ := h.at
  exact run_pre k (by omega) w'
theorem IntsAt.runPre {w : World} {v : Value} {xs : List Int} (h : IntsAt w v xs) (k : Nat) (hk : k ≤ xs.length) (w' : World) :
    (Instr.slice 22 v none (some (.int .i64 k)) none).run Tryd.prog w' = .ok (preV v k) w' := by
  obtain ⟨a, cap, rfl, h1, _⟩ := h
  exact run_pre k (by omega) w'

/-- Numbers lent: two marks lie in the room behind them. -/
def LentI (B : Nat) (w : World) (m : Value) (xs : List Int) : Prop := ∃ v, m = preV v xs.length ∧ OwnI B w v (xs ++ [7001, 7002])
theorem LentI.at {B : Nat} {w : World} {m : Value} {xs : List Int} (h : LentI B w m xs) : IntsAt w m xs := by
  obtain ⟨v, rfl, ho⟩ := h
  have := ho.at.pre xs.length (by simp)
  rwa [List.take_left'] at this
  rfl
theorem LentI.below {B : Nat} {w w' : World} {m : Value} {xs : List Int} (h : LentI B w m xs) (hb : Below w.heap.size w w') : LentI B w' m xs := by
  obtain ⟨v, e, ho⟩ := h
  exact ⟨v, e, ho.below hb⟩
/-- What is kept below a block number. -/
theorem OwnI.belowB {B B' : Nat} {w w' : World} {v : Value} {xs : List Int} (h : OwnI B w v xs) (hb : Below B' w w') (hlt : ∀ k, v.ownBlock = some k → k < B') : OwnI B w' v xs := by
  refine ⟨h.1, ?_⟩
  rcases h.2 with h2 | ⟨g, cap, cur, rfl, hB, hg, r⟩
  · exact .inl h2
  · exact .inr ⟨g, cap, cur, rfl, hB, by rw [hb.block g (hlt g rfl)]; exact hg, r⟩
theorem LentI.belowB {B B' : Nat} {w0 w w' : World} {m : Value} {xs : List Int} (h : LentI B w m xs) (h0 : LentI B w0 m xs) (hs : w0.heap.size ≤ B') (hb : Below B' w w') : LentI B w' m xs := by
  obtain ⟨v, rfl, ho⟩ := h
  obtain ⟨v0, e0, ho0⟩ := h0
  refine ⟨v, rfl, ho.belowB hb fun k hk => ?_⟩
  have hbk : v0.ownBlock = v.ownBlock := by
    obtain ⟨a, n, c, rfl⟩ := ho.at.shape
    obtain ⟨a', n', c', rfl⟩ := ho0.at.shape
    simp [preV] at e0
    obtain ⟨rfl, rfl⟩ := e0
    cases a <;> rfl
  have := (ho0.lt k (hbk.trans hk)).2
  omega

theorem LentI.full {B : Nat} {w : World} {m : Value} {xs : List Int} (h : LentI B w m xs) :
    ∃ v, OwnI B w v (xs ++ [7001, 7002]) ∧ ∀ w', (Instr.slice 22 m none (some (.int .i64 ((xs.length : Int) + 2))) none).run Tryd.prog w' = .ok v w' := by
  obtain ⟨v, rfl, ho⟩ := h
  refine ⟨v, ho, fun w' => ?_⟩
  obtain ⟨a, cap, rfl, h1, _⟩ := ho.at
  have := run_pre (a := a) (n := xs.length) (c := cap) (xs.length + 2) (by simpa using h1) w'
  have e : (xs ++ [7001, 7002]).length = xs.length + 2 := by simp
  rw [e]
  exact this

end Go.Proofs.YtmhiambkfdkkbaaDoor

namespace Go.Proofs.YtmhiambkfdkkbaaDoor
open Go.RowKit
set_option maxRecDepth 100000

theorem size_zeroC (n : Nat) : (Builtin.zeroCells (Value.cells (.int .i64 0)) n).size = n := by
  rw [size_zeroCells]; simp [Value.cells]

/-- The first n of a list of []ints, one after the other. -/
def catN (xs : Nat → List Int) (n : Nat) : List Int := (List.range n).flatMap xs
theorem catN_succ (xs : Nat → List Int) (n : Nat) : catN xs (n + 1) = catN xs n ++ xs n := by simp [catN, List.range_succ]

/-- The lengths' sum. -/
def lenN (xs : Nat → List Int) : Nat → Nat
  | 0 => 0
  | n + 1 => lenN xs n + (xs n).length
theorem catN_length (xs : Nat → List Int) (n : Nat) : (catN xs n).length = lenN xs n := by
  induction n with
  | zero => rfl
  | succ n ih => rw [catN_succ, List.length_append, ih]; rfl

end Go.Proofs.YtmhiambkfdkkbaaDoor

namespace Go.Proofs.YtmhiambkfdkkbaaDoor
open Go.RowKit

theorem check_k (r : Nat → Addr) (k R : Int) (v : Value) (w : World) (hg : Glob r w) (h : k < 1 ∨ 4 < k) :
    Calls Tryd.prog 38 #[.agg #[.int .i64 k, .int .i64 R, v]] w (Ret1 (fun x w' => ErrIs r w' (fresh sRule 0 1) x) w) := by
  have hg' := Lib.hid (hg.below ((Below.refl _ _).alloc (Nat.le_refl _) (.cells #[.int .i64 k, .int .i64 R, v] 24)))
  clear hg
  rcases h with h | h <;>
  (go_enter Tryd.func38, Tryd.ntmps38
   go_wp2_with fail
   refine (rule_wrong r _ _ _ hg'.out (by decide) (by decide)).mono ?_
   rintro e w' ⟨x, rfl, hb, he⟩
   go_wp2
   go_ret
   exact ⟨_, rfl, ((Below.refl _ _).alloc (Nat.le_refl _) _).trans (hb.mono (by simp)), he⟩)

theorem check_r (r : Nat → Addr) (k R : Int) (v : Value) (w : World) (hg : Glob r w) (h1 : 1 ≤ k) (h4 : k ≤ 4) (h : R < 0 ∨ 3 < R) :
    Calls Tryd.prog 38 #[.agg #[.int .i64 k, .int .i64 R, v]] w (Ret1 (fun x w' => ErrIs r w' (fresh sRule 1 1) x) w) := by
  have hg' := Lib.hid (hg.below ((Below.refl _ _).alloc (Nat.le_refl _) (.cells #[.int .i64 k, .int .i64 R, v] 24)))
  clear hg
  go_enter Tryd.func38, Tryd.ntmps38
  go_wp2_with fail
  refine (size_bad r _ _ _ hg'.out (by omega)).mono ?_
  rintro e w1 ⟨x, y, rfl, hb, rfl, he⟩
  obtain ⟨T, a, rfl⟩ := he.some_shape
  clear he
  go_wp2_with fail
  refine (rule_wrong r _ _ _ (hg'.out.below hb) (by decide) (by decide)).mono ?_
  rintro e w' ⟨x, rfl, hb', he⟩
  go_wp2
  go_ret
  exact ⟨_, rfl, (((Below.refl _ _).alloc (Nat.le_refl _) _).trans (hb.mono (by simp))).trans (hb'.mono (by have := hb.size; simp at this; omega)), he⟩

theorem check_len (r : Nat → Addr) (K R : Nat) (v : Value) (xs : List Int) (w : World) (hg : Glob r w) (h : IntsAt w v xs) (h1 : 1 ≤ K) (h4 : K ≤ 4) (h3 : R ≤ 3) (hl : xs.length ≠ pw K (2 * R + 1)) :
    Calls Tryd.prog 38 #[.agg #[.int .i64 K, .int .i64 R, v]] w (Ret1 (fun x w' => ErrIs r w' (fresh sRule 2 1) x) w) := by
  have hg' := Lib.hid (hg.below ((Below.refl _ _).alloc (Nat.le_refl _) (.cells #[.int .i64 K, .int .i64 R, v] 24)))
  clear hg
  have hlen := h.len
  clear h
  have hne : ((xs.length : Int) != (pw K (2 * R + 1) : Int)) = true := by simp; omega
  clear hl
  go_enter Tryd.func38, Tryd.ntmps38
  go_wp2_with fail
  refine (size_ok K R _ h1 h4 h3).mono ?_
  rintro e w1 ⟨rfl, rfl⟩
  go_wp2_with fail
  refine (rule_wrong r _ _ _ hg'.out (by decide) (by decide)).mono ?_
  rintro e w' ⟨x, rfl, hb', he⟩
  go_wp2
  go_ret
  exact ⟨_, rfl, ((Below.refl _ _).alloc (Nat.le_refl _) _).trans (hb'.mono (by simp)), he⟩

theorem check_odd (r : Nat → Addr) (K R : Nat) (v : Value) (xs : List Int) (i : Nat) (w : World) (hg : Glob r w) (h : IntsAt w v xs) (h1 : 1 ≤ K) (h4 : K ≤ 4) (h3 : R ≤ 3) (hl : xs.length = pw K (2 * R + 1)) (hi : idxOf (odd1 K) xs = i) (hi' : i < xs.length) :
    Calls Tryd.prog 38 #[.agg #[.int .i64 K, .int .i64 R, v]] w (Ret1 (fun x w' => ErrIs r w' (fresh sRule (3 + i) 1) x) w) := by
  have hg' := Lib.hid (hg.below ((Below.refl _ _).alloc (Nat.le_refl _) (.cells #[.int .i64 K, .int .i64 R, v] 24)))
  clear hg
  have hm := h.len_le
  have h' := Lib.hid (h.below ((Below.refl _ _).alloc (Nat.le_refl _) (.cells #[.int .i64 K, .int .i64 R, v] 24)))
  have hlen := h.len
  clear h
  have hne : ((xs.length : Int) != (pw K (2 * R + 1) : Int)) = false := by simp; omega
  clear hl
  replace hi := Lib.hid hi
  go_enter Tryd.func38, Tryd.ntmps38
  go_wp2_with fail
  refine (size_ok K R _ h1 h4 h3).mono ?_
  rintro e w1 ⟨rfl, rfl⟩
  go_wp2_with fail
  refine (rule_odd K v xs _ h'.out).mono ?_
  rintro e w1 ⟨x, rfl, hb, rfl⟩
  rw [hi.out]
  have hlt : i < 9223372036854775807 := by omega
  have hb3 : (3 + (i : Int)) ≤ 9223372036854775807 := by
    have := pw_le (i := 2 * R + 1) h1 h4 (by omega)
    have : ¬ ((xs.length : Int) != (pw K (2 * R + 1) : Int)) = true := by rw [hne]; simp
    simp at this
    omega
  go_wp2_with fail
  refine (rule_wrong r _ _ _ (hg'.out.below hb) (by decide) (by decide)).mono ?_
  rintro e w' ⟨x, rfl, hb', he⟩
  go_wp2
  go_ret
  exact ⟨_, rfl, (((Below.refl _ _).alloc (Nat.le_refl _) _).trans (hb.mono (by simp))).trans (hb'.mono (by have := hb.size; simp at this; omega)), he⟩

theorem check_ok (K R : Nat) (v : Value) (xs : List Int) (w : World) (h : IntsAt w v xs) (hr : RuleOk K R xs) :
    Calls Tryd.prog 38 #[.agg #[.int .i64 K, .int .i64 R, v]] w (Ret1 (fun x _ => x = .nilIface) w) := by
  obtain ⟨h1, h4, h3, hl, hs⟩ := hr
  have h' := Lib.hid (h.below ((Below.refl _ _).alloc (Nat.le_refl _) (.cells #[.int .i64 K, .int .i64 R, v] 24)))
  have hlen := h.len
  clear h
  have hne : ((xs.length : Int) != (pw K (2 * R + 1) : Int)) = false := by simp; omega
  clear hl
  replace hs := Lib.hid hs
  go_enter Tryd.func38, Tryd.ntmps38
  go_wp2_with fail
  refine (size_ok K R _ h1 h4 h3).mono ?_
  rintro e w1 ⟨rfl, rfl⟩
  go_wp2_with fail
  refine (rule_odd K v xs _ h'.out).mono ?_
  rintro e w1 ⟨x, rfl, hb, rfl⟩
  rw [hs.out.odd]
  go_wp2
  go_ret
  exact ⟨_, rfl, (((Below.refl _ _).alloc (Nat.le_refl _) _).trans (hb.mono (by simp))), rfl⟩

/-- rule.Check at every rule. -/
theorem check_any (r : Nat → Addr) (k R : Int) (v : Value) (xs : List Int) (w : World) (hg : Glob r w) (h : IntsAt w v xs) :
    Calls Tryd.prog 38 #[.agg #[.int .i64 k, .int .i64 R, v]] w (Ret1 (fun x w' => ErrIs r w' (checkP k R xs) x) w) := by
  by_cases hk : k < 1 ∨ 4 < k
  · rw [checkP, if_pos hk]; exact check_k r k R v w hg hk
  by_cases hr : R < 0 ∨ 3 < R
  · rw [checkP, if_neg hk, if_pos hr]; exact check_r r k R v w hg (by omega) (by omega) hr
  obtain ⟨K, rfl⟩ := Int.eq_ofNat_of_zero_le (show 0 ≤ k by omega)
  obtain ⟨R, rfl⟩ := Int.eq_ofNat_of_zero_le (show 0 ≤ R by omega)
  by_cases hl : xs.length = pw K (2 * R + 1)
  · rcases syms_or K xs with hs | ⟨i, hi, hlt⟩
    · have hok : RuleOk K R xs := ⟨by omega, by omega, by omega, hl, hs⟩
      rw [hok.check]; exact check_ok K R v xs w h hok
    · have : checkP K R xs = fresh sRule (3 + i) 1 := by
        rw [checkP, if_neg hk, if_neg hr, if_neg (by simp [hl]), if_neg (by omega), hi]
      rw [this]
      exact check_odd r K R v xs i w hg h (by omega) (by omega) (by omega) hl hi hlt
  · have : checkP K R xs = fresh sRule 2 1 := by
      rw [checkP, if_neg hk, if_neg hr, if_pos (by simpa using hl)]
    rw [this]
    exact check_len r K R v xs w hg h (by omega) (by omega) (by omega) hl
end Go.Proofs.YtmhiambkfdkkbaaDoor

namespace Go.Proofs.YtmhiambkfdkkbaaDoor

/-- One entry's followers. -/
def sumRow (K : Nat) (x y : Int) (s : Nat) : List Int := (List.range s).map fun (t : Nat) => (y + x * t) % K
/-- The table's next state. -/
def sumStep (K : Nat) (x : Int) (T : List Int) : List Int := T.flatMap fun y => sumRow K x y K
def sumTable (K : Nat) : List Int → List Int → List Int
  | T, [] => T
  | T, x :: f => sumTable K (sumStep K x T) f
/-- The table of a sum. -/
def sumT (K : Nat) (f : List Int) : List Int := sumTable K [0] f

theorem sumRow_length (K : Nat) (x y : Int) (s : Nat) : (sumRow K x y s).length = s := by simp [sumRow]
theorem sumRow_succ (K : Nat) (x y : Int) (s : Nat) : sumRow K x y (s + 1) = sumRow K x y s ++ [(y + x * s) % K] := by simp [sumRow, List.range_succ]
theorem sumStep_length (K : Nat) (x : Int) (T : List Int) : (sumStep K x T).length = T.length * K := by
  induction T with
  | nil => simp [sumStep]
  | cons y T ih => simp only [sumStep, List.flatMap_cons, List.length_append, sumRow_length, List.length_cons] at *; rw [ih, Nat.succ_mul]; omega
theorem sumStep_snoc (K : Nat) (x y : Int) (T : List Int) : sumStep K x (T ++ [y]) = sumStep K x T ++ sumRow K x y K := by simp [sumStep]
theorem sumStep_nil (K : Nat) (x : Int) : sumStep K x [] = [] := rfl
theorem sumTable_snoc (K : Nat) (T f : List Int) (x : Int) : sumTable K T (f ++ [x]) = sumStep K x (sumTable K T f) := by
  induction f generalizing T with
  | nil => rfl
  | cons y f ih => exact ih _
theorem sumTable_length (K : Nat) (T f : List Int) : (sumTable K T f).length = T.length * pw K f.length := by
  induction f generalizing T with
  | nil => simp [sumTable, pw]
  | cons y f ih => rw [sumTable, ih, sumStep_length, List.length_cons, pw_succ, Nat.mul_assoc, Nat.mul_comm K]
theorem sumT_length (K : Nat) (f : List Int) : (sumT K f).length = pw K f.length := by rw [sumT, sumTable_length]; simp
theorem sumRow_syms {K : Nat} (hK : 1 ≤ K) (x y : Int) (s : Nat) : Syms K (sumRow K x y s) := by
  intro z hz
  obtain ⟨t, _, rfl⟩ := List.mem_map.1 hz
  exact ⟨Int.emod_nonneg _ (by omega), Int.emod_lt_of_pos _ (by omega)⟩
theorem sumStep_syms {K : Nat} (hK : 1 ≤ K) (x : Int) (T : List Int) : Syms K (sumStep K x T) := by
  intro z hz
  obtain ⟨y, _, h⟩ := List.mem_flatMap.1 hz
  exact sumRow_syms hK x y K z h
theorem sumTable_syms {K : Nat} (hK : 1 ≤ K) (T f : List Int) (hT : Syms K T) : Syms K (sumTable K T f) := by
  induction f generalizing T with
  | nil => exact hT
  | cons y f ih => exact ih _ (sumStep_syms hK y T)
theorem sumT_syms {K : Nat} (hK : 1 ≤ K) (f : List Int) : Syms K (sumT K f) := sumTable_syms hK _ _ (by intro x hx; simp at hx; omega)
theorem take_snoc (l : List Int) (k : Nat) (h : k < l.length) : l.take (k + 1) = l.take k ++ [l[k]] := by rw [List.take_succ_eq_append_getElem h]

/-- additive.numbers' answer. -/
def numP (k : Int) (f : List Int) (from_ : Int) : PErr := if idxOf (odd1 k) f = -1 then none else fresh sAdditive (from_ + idxOf (odd1 k) f) 2
def oddP (n : Nat) : Bool := decide (n % 2 = 1) && decide (n ≤ 7)
/-- additive.check's answer. -/
def factP (k : Int) (f : List Int) : PErr :=
  if k < 1 ∨ 4 < k then fresh sAdditive 0 3 else if oddP f.length = false then fresh sAdditive 1 3 else numP k f 0
/-- additive.Make's fault. -/
def makeP (k R : Int) (f : List Int) : PErr :=
  if k < 1 ∨ 4 < k ∨ R < 0 ∨ 3 < R then fresh sAdditive 0 3 else if (f.length : Int) ≠ 2 * R + 1 then fresh sAdditive 1 3 else numP k f 0

theorem numP_none {k : Int} {f : List Int} {a : Int} (h : numP k f a = none) : Syms k f := by
  unfold numP at h
  rcases syms_or k f with hs | ⟨i, hi, _⟩
  · exact hs
  · rw [if_neg (by omega)] at h; cases h
theorem Syms.num {k : Int} {f : List Int} (h : Syms k f) (a : Int) : numP k f a = none := by rw [numP, if_pos h.odd]

/-- The factors that may be, i of them found, the last first. -/
def facL (K n : Nat) (xs : List Int) (i : Nat) : List Int := (List.range n).map fun j => if n ≤ i + j then xs.getD (pw K (n - 1 - j)) 0 else 0
theorem facL_length (K n : Nat) (xs : List Int) (i : Nat) : (facL K n xs i).length = n := by simp [facL]
theorem facL_zero (K n : Nat) (xs : List Int) : facL K n xs 0 = List.replicate n 0 := by
  refine List.ext_getElem (by simp [facL]) fun j h1 h2 => ?_
  simp [facL] at h1 ⊢
  omega
theorem facL_succ (K n : Nat) (xs : List Int) (i : Nat) (hi : i < n) (hx : pw K i < xs.length) : (facL K n xs i).set (n - 1 - i) xs[pw K i] = facL K n xs (i + 1) := by
  refine List.ext_getElem (by simp [facL]) fun j h1 h2 => ?_
  simp only [facL, List.length_set, List.length_map, List.length_range] at h1
  rw [List.getElem_set]
  by_cases e : n - 1 - i = j
  · rw [if_pos e]
    simp only [facL, List.getElem_map, List.getElem_range]
    rw [if_pos (by omega), show n - 1 - j = i by omega]
    simp [List.getD, hx]
  · rw [if_neg e]
    simp only [facL, List.getElem_map, List.getElem_range]
    by_cases c : n ≤ i + j
    · rw [if_pos c, if_pos (by omega)]
    · rw [if_neg c, if_neg (by omega)]
/-- The same, one symbol alone allowed. -/
def facI (K n : Nat) (xs : List Int) (i : Nat) : List Int := if 1 < K then facL K n xs i else List.replicate n 0
def wI (K i : Nat) : Nat := if 1 < K then pw K i else 1
theorem facI_length (K n : Nat) (xs : List Int) (i : Nat) : (facI K n xs i).length = n := by
  unfold facI; split
  · exact facL_length ..
  · simp
theorem facI_zero (K n : Nat) (xs : List Int) : facI K n xs 0 = List.replicate n 0 := by
  unfold facI; split
  · exact facL_zero ..
  · rfl
/-- The factors of a rule, if it is a sum. -/
def facs (K R : Nat) (xs : List Int) : List Int := facI K (2 * R + 1) xs (2 * R + 1)
theorem facs_length (K R : Nat) (xs : List Int) : (facs K R xs).length = 2 * R + 1 := facI_length ..
theorem facs_syms {K R : Nat} {xs : List Int} (h : RuleOk K R xs) : Syms K (facs K R xs) := by
  have hk := h.k1
  intro x hx
  unfold facs facI at hx
  split at hx
  · obtain ⟨j, _, rfl⟩ := List.mem_map.1 hx
    split
    · by_cases hp : pw K (2 * R + 1 - 1 - j) < xs.length
      · simp only [List.getD, List.getElem?_eq_getElem hp, Option.getD_some]
        exact h.syms _ (by simp)
      · simp only [List.getD, List.getElem?_eq_none (Nat.le_of_not_lt hp), Option.getD_none]
        omega
    · omega
  · have := List.eq_of_mem_replicate hx; omega
/-- Is it a sum? -/
def isSum (K R : Nat) (xs : List Int) : Bool := decide (sumT K (facs K R xs) = xs)

/-- How many factors p does not divide. -/
def cnt (p : Int) (f : List Int) : Nat := f.countP fun x => x % p != 0
theorem cnt_snoc (p x : Int) (f : List Int) : cnt p (f ++ [x]) = cnt p f + (if (x % p != 0) = true then 1 else 0) := by
  simp only [cnt, List.countP_append, List.countP_singleton]
theorem cnt_le (p : Int) (f : List Int) : cnt p f ≤ f.length := List.countP_le_length
def primesP (k : Int) : List Int := if k = 2 ∨ k = 4 then [2] else if k = 3 then [3] else []
theorem primesP_mem {k p : Int} (h : p ∈ primesP k) : p = 2 ∨ p = 3 := by
  unfold primesP at h
  split at h
  · simp at h; exact .inl h
  · split at h
    · simp at h; exact .inr h
    · simp at h
/-- additive.whole's answer. -/
def wholeP (may : Int → Bool) (k : Int) (f : List Int) : Bool := (primesP k).all fun p => may (cnt p f)
theorem wholeP_true {may : Int → Bool} {k : Int} {f : List Int} (h : ∀ j (_ : j < (primesP k).length), may (cnt (primesP k)[j] f) = true) : wholeP may k f = true := by
  rw [wholeP, List.all_eq_true]
  intro p hp
  obtain ⟨j, hj, rfl⟩ := List.mem_iff_getElem.1 hp
  exact h j hj
theorem wholeP_false {may : Int → Bool} {k : Int} {f : List Int} (j : Nat) (hj : j < (primesP k).length) (h : may (cnt (primesP k)[j] f) = false) : wholeP may k f = false := by
  rw [wholeP, List.all_eq_false]
  exact ⟨_, List.getElem_mem hj, by simp [h]⟩
def mayOnto (n : Int) : Bool := decide (0 < n)
def mayOne (n : Int) : Bool := n == 1

/-! Products. -/
def addAt (K : Nat) (o : List Int) (p : Nat) (z : Int) : List Int := o.set p ((o.getD p 0 + z) % K)
def mulRow (K i : Nat) (x : Int) (b : List Int) : Nat → List Int → List Int
  | 0, o => o
  | s + 1, o => addAt K (mulRow K i x b s o) (i + s) (x * b.getD s 0)
def mulAll (K : Nat) (a b : List Int) : Nat → List Int
  | 0 => List.replicate (a.length + b.length - 1) 0
  | i + 1 => mulRow K i (a.getD i 0) b b.length (mulAll K a b i)
/-- The factors of one sum behind another. -/
def mulL (K : Nat) (a b : List Int) : List Int := mulAll K a b a.length
theorem addAt_length (K : Nat) (o : List Int) (p : Nat) (z : Int) : (addAt K o p z).length = o.length := by simp [addAt]
theorem mulRow_length (K i : Nat) (x : Int) (b : List Int) (s : Nat) (o : List Int) : (mulRow K i x b s o).length = o.length := by
  induction s with
  | zero => rfl
  | succ s ih => rw [mulRow, addAt_length, ih]
theorem mulAll_length (K : Nat) (a b : List Int) (i : Nat) : (mulAll K a b i).length = a.length + b.length - 1 := by
  induction i with
  | zero => simp [mulAll]
  | succ i ih => rw [mulAll, mulRow_length, ih]
theorem mulL_length (K : Nat) (a b : List Int) : (mulL K a b).length = a.length + b.length - 1 := mulAll_length ..
theorem addAt_syms {K : Nat} (hK : 1 ≤ K) {o : List Int} (h : Syms K o) (p : Nat) (z : Int) : Syms K (addAt K o p z) := by
  intro x hx
  rcases List.mem_or_eq_of_mem_set hx with h1 | h1
  · exact h x h1
  · subst h1
    exact ⟨Int.emod_nonneg _ (by omega), Int.emod_lt_of_pos _ (by omega)⟩
theorem mulRow_syms {K : Nat} (hK : 1 ≤ K) (i : Nat) (x : Int) (b : List Int) (s : Nat) {o : List Int} (h : Syms K o) : Syms K (mulRow K i x b s o) := by
  induction s with
  | zero => exact h
  | succ s ih => exact addAt_syms hK ih _ _
theorem mulAll_syms {K : Nat} (hK : 1 ≤ K) (a b : List Int) (i : Nat) : Syms K (mulAll K a b i) := by
  induction i with
  | zero => intro x hx; have := List.eq_of_mem_replicate hx; omega
  | succ i ih => exact mulRow_syms hK _ _ _ _ ih
theorem Syms.getD {K : Int} {xs : List Int} (hK : 0 < K) (h : Syms K xs) (i : Nat) : 0 ≤ xs.getD i 0 ∧ xs.getD i 0 < K := by
  by_cases c : i < xs.length
  · simp only [List.getD, List.getElem?_eq_getElem c, Option.getD_some]
    exact h _ (by simp)
  · simp only [List.getD, List.getElem?_eq_none (Nat.le_of_not_lt c), Option.getD_none]
    omega
/-- additive.Mul's fault. -/
def mulP (k : Int) (a b : List Int) : PErr :=
  match factP k a with
  | some t => some t
  | none => if oddP b.length = false then fresh sAdditive 2 3 else
    match numP k b a.length with
    | some t => some t
    | none => if oddP (a.length + b.length - 1) = false then fresh sAdditive 2 3 else none
end Go.Proofs.YtmhiambkfdkkbaaDoor

namespace Go.Proofs.YtmhiambkfdkkbaaDoor

def sPermut : ByteArray := ⟨#[112, 101, 114, 109, 117, 116]⟩

/-- The symbols seen in a group of windows, as bits. -/
def seenP (T : List Int) (W i : Nat) : Nat → Nat
  | 0 => 0
  | s + 1 => seenP T W i s ||| 2 ^ (T.getD (i + s * W) 0).toNat
theorem seenP_lt {K : Nat} (hK : 1 ≤ K) {T : List Int} (h : Syms K T) (W i s : Nat) : seenP T W i s < 2 ^ K := by
  induction s with
  | zero => exact Nat.two_pow_pos K
  | succ s ih =>
    have := h.getD (by omega) (i + s * W)
    exact Nat.or_lt_two_pow ih (Nat.pow_lt_pow_right (by decide) (by omega))
theorem two_pow_K {K : Nat} (h : K ≤ 4) : 2 ^ K ≤ 16 := by
  have : K = 0 ∨ K = 1 ∨ K = 2 ∨ K = 3 ∨ K = 4 := by omega
  rcases this with rfl | rfl | rfl | rfl | rfl <;> decide

/-- The group of window i. -/
def fullP (K : Nat) (T : List Int) (W i : Nat) : Bool := seenP T W i K == 2 ^ K - 1
/-- permut.unlike's answer. -/
def unlikeP (K : Nat) (T : List Int) (W : Nat) : Bool := (List.range T.length).all fun i => i / W % K != 0 || fullP K T W i
theorem unlikeP_true {K : Nat} {T : List Int} {W : Nat} (h : ∀ i, i < T.length → i / W % K = 0 → fullP K T W i = true) : unlikeP K T W = true := by
  rw [unlikeP, List.all_eq_true]
  intro i hi
  have hi' := List.mem_range.1 hi
  by_cases c : i / W % K = 0
  · simp [h i hi' c]
  · simp [c]
theorem unlikeP_false {K : Nat} {T : List Int} {W : Nat} (i : Nat) (hi : i < T.length) (hm : i / W % K = 0) (h : fullP K T W i = false) : unlikeP K T W = false := by
  rw [unlikeP, List.all_eq_false]
  exact ⟨i, List.mem_range.2 hi, by simp [hm, h]⟩
theorem unlikeP_full {K : Nat} {T : List Int} {W : Nat} (h : unlikeP K T W = true) (i : Nat) (hi : i < T.length) (hm : i / W % K = 0) : fullP K T W i = true := by
  rw [unlikeP, List.all_eq_true] at h
  have := h i (List.mem_range.2 hi)
  simpa [hm] using this

/-- A bit is seen just if a symbol is. -/
theorem seenP_bit {K : Nat} {T : List Int} (hK : 1 ≤ K) (h : Syms K T) (W i s y : Nat) : (seenP T W i s).testBit y = true ↔ ∃ t, t < s ∧ T.getD (i + t * W) 0 = y := by
  induction s with
  | zero => simp [seenP]
  | succ s ih =>
    have hx := h.getD (by omega) (i + s * W)
    rw [seenP, Nat.testBit_or, Bool.or_eq_true, ih, Nat.testBit_two_pow]
    constructor
    · rintro (⟨t, ht, e⟩ | e)
      · exact ⟨t, by omega, e⟩
      · rw [decide_eq_true_iff] at e; exact ⟨s, by omega, by omega⟩
    · rintro ⟨t, ht, e⟩
      by_cases c : t = s
      · subst c; right; rw [decide_eq_true_iff]; omega
      · left; exact ⟨t, by omega, e⟩

/-- In a full group each symbol stands. -/
theorem fullP_all {K : Nat} {T : List Int} (hK : 1 ≤ K) (h : Syms K T) {W i : Nat} (hf : fullP K T W i = true) (y : Nat) (hy : y < K) : ∃ t, t < K ∧ T.getD (i + t * W) 0 = y := by
  have e : seenP T W i K = 2 ^ K - 1 := by simpa [fullP] using hf
  rw [← seenP_bit hK h, e, Nat.testBit_two_pow_sub_one]
  simpa using hy

/-- permut.fits' answer. -/
def fitP (T : List Int) (rest W : Nat) (image : Int) : Nat → Nat → Nat
  | 0, _ => 0
  | n + 1, s => if T.getD (rest + s * W) 0 = image then s else fitP T rest W image n (s + 1)
def fit (K : Nat) (T : List Int) (rest W : Nat) (image : Int) : Nat := fitP T rest W image K 0
theorem fitP_lt (T : List Int) (rest W : Nat) (image : Int) (n s : Nat) (h : 0 < s + n) : fitP T rest W image n s < s + n := by
  induction n generalizing s with
  | zero => exact h
  | succ n ih =>
    rw [fitP]
    split
    · omega
    · have := ih (s + 1) (by omega); omega
theorem fit_lt {K : Nat} (hK : 1 ≤ K) (T : List Int) (rest W : Nat) (image : Int) : fit K T rest W image < K := by
  have := fitP_lt T rest W image K 0 (by omega); simpa [fit] using this
theorem fitP_at (T : List Int) (rest W : Nat) (image : Int) (n s k : Nat) (hk : k < n) (h : T.getD (rest + (s + k) * W) 0 = image) (hj : ∀ j, j < k → T.getD (rest + (s + j) * W) 0 ≠ image) : fitP T rest W image n s = s + k := by
  induction n generalizing s k with
  | zero => omega
  | succ n ih =>
    rw [fitP]
    by_cases c : k = 0
    · subst c; rw [if_pos (by simpa using h)]; rfl
    · have := hj 0 (by omega)
      rw [if_neg (by simpa using this), ih (s + 1) (k - 1) (by omega) (by rw [show s + 1 + (k - 1) = s + k by omega]; exact h) (fun j hj' => by rw [show s + 1 + j = s + (j + 1) by omega]; exact hj (j + 1) (by omega))]
      omega
theorem fit_at {K : Nat} (T : List Int) (rest W : Nat) (image : Int) (k : Nat) (hk : k < K) (h : T.getD (rest + k * W) 0 = image) (hj : ∀ j, j < k → T.getD (rest + j * W) 0 ≠ image) : fit K T rest W image = k := by
  have := fitP_at T rest W image K 0 k hk (by simpa using h) (by simpa using hj)
  simpa [fit] using this
theorem fitP_none (T : List Int) (rest W : Nat) (image : Int) (n s : Nat) (hj : ∀ j, j < n → T.getD (rest + (s + j) * W) 0 ≠ image) : fitP T rest W image n s = 0 := by
  induction n generalizing s with
  | zero => rfl
  | succ n ih =>
    rw [fitP, if_neg (by simpa using hj 0 (by omega))]
    exact ih (s + 1) (fun j h => by rw [show s + 1 + j = s + (j + 1) by omega]; exact hj (j + 1) (by omega))
theorem fit_none {K : Nat} (T : List Int) (rest W : Nat) (image : Int) (hj : ∀ j, j < K → T.getD (rest + j * W) 0 ≠ image) : fit K T rest W image = 0 :=
  fitP_none T rest W image K 0 (by simpa using hj)
/-- Where some symbol fits, the answer fits. -/
theorem fit_ok {K : Nat} (T : List Int) (rest W : Nat) (image : Int) (h : ∃ t, t < K ∧ T.getD (rest + t * W) 0 = image) : T.getD (rest + fit K T rest W image * W) 0 = image := by
  suffices H : ∀ n s, (∃ t, t < n ∧ T.getD (rest + (s + t) * W) 0 = image) → T.getD (rest + fitP T rest W image n s * W) 0 = image by
    exact H K 0 (by simpa using h)
  intro n
  induction n with
  | zero => rintro s ⟨t, ht, _⟩; omega
  | succ n ih =>
    rintro s ⟨t, ht, e⟩
    rw [fitP]
    split
    · assumption
    · rename_i hne
      refine ih (s + 1) ⟨t - 1, ?_, ?_⟩
      · by_cases c : t = 0
        · subst c; simp at e; exact absurd e hne
        · omega
      · by_cases c : t = 0
        · subst c; simp at e; exact absurd e hne
        · rw [show s + 1 + (t - 1) = s + t by omega]; exact e

/-- The number of a word. -/
def numW (K : Nat) (xs : List Int) : Nat := xs.foldl (fun n x => n * K + x.toNat) 0
theorem numW_snoc (K : Nat) (xs : List Int) (x : Int) : numW K (xs ++ [x]) = numW K xs * K + x.toNat := by simp [numW]
theorem numW_lt {K : Nat} (xs : List Int) (h : Syms K xs) : numW K xs < pw K xs.length := by
  suffices H : ∀ ys zs, xs = ys ++ zs → numW K ys < pw K ys.length from H xs [] (by simp)
  intro ys
  induction hn : ys.length generalizing ys with
  | zero => intro zs _; have := List.eq_nil_of_length_eq_zero hn; subst this; simp [numW, pw]
  | succ n ih =>
    intro zs e
    have hne : ys ≠ [] := by intro e; subst e; simp at hn
    obtain ⟨b, x, rfl⟩ : ∃ b x, ys = b ++ [x] := ⟨ys.dropLast, ys.getLast hne, (List.dropLast_concat_getLast hne).symm⟩
    have hb : b.length = n := by simpa using hn
    have h1 := ih b hb ([x] ++ zs) (by rw [e]; simp)
    have hx := h x (by rw [e]; simp)
    rw [numW_snoc, pw_succ]
    have : (numW K b + 1) * K ≤ pw K n * K := Nat.mul_le_mul_right _ (by omega)
    rw [Nat.succ_mul] at this
    omega

/-- permut.Right's symbols. -/
def rightP (K : Nat) (T : List Int) : Nat → List Int → List Int
  | _, [] => []
  | node, x :: w => (fit K T (node * K) 1 x : Int) :: rightP K T ((node * K + fit K T (node * K) 1 x) % (T.length / K)) w
/-- The node behind them. -/
def rightN (K : Nat) (T : List Int) : Nat → List Int → Nat
  | node, [] => node
  | node, x :: w => rightN K T ((node * K + fit K T (node * K) 1 x) % (T.length / K)) w
theorem rightP_snoc (K : Nat) (T : List Int) (node : Nat) (w : List Int) (x : Int) : rightP K T node (w ++ [x]) = rightP K T node w ++ [(fit K T (rightN K T node w * K) 1 x : Int)] := by
  induction w generalizing node with
  | nil => rfl
  | cons y w ih => simp [rightP, rightN, ih]
theorem rightN_snoc (K : Nat) (T : List Int) (node : Nat) (w : List Int) (x : Int) : rightN K T node (w ++ [x]) = (rightN K T node w * K + fit K T (rightN K T node w * K) 1 x) % (T.length / K) := by
  induction w generalizing node with
  | nil => rfl
  | cons y w ih => simp [rightN, ih]
theorem rightP_length (K : Nat) (T : List Int) (node : Nat) (w : List Int) : (rightP K T node w).length = w.length := by
  induction w generalizing node with
  | nil => rfl
  | cons y w ih => simp [rightP, ih]
theorem rightN_lt {K : Nat} {T : List Int} (h : 0 < T.length / K) (node : Nat) (hn : node < T.length / K) (w : List Int) : rightN K T node w < T.length / K := by
  induction w generalizing node with
  | nil => exact hn
  | cons y w ih => exact ih _ (Nat.mod_lt _ h)

/-- permut.Left's symbols, from the last on: the node behind them and they. -/
def leftS (K : Nat) (T : List Int) : Nat → List Int → Nat × List Int
  | node, [] => (node, [])
  | node, x :: w =>
    let p := leftS K T node w
    let s := fit K T p.1 (T.length / K) x
    ((s * (T.length / K) + p.1) / K, (s : Int) :: p.2)
theorem leftS_length (K : Nat) (T : List Int) (node : Nat) (w : List Int) : (leftS K T node w).2.length = w.length := by
  induction w with
  | nil => rfl
  | cons y w ih => simp [leftS, ih]

/-- permut.check's fault. -/
def checkM (K R : Nat) (w ends : List Int) : PErr :=
  if 4096 < w.length then fresh sPermut 1 4 else if ends.length ≠ 2 * R then fresh sPermut 2 3
  else if idxOf (odd1 K) (w ++ ends) = -1 then none else fresh sPermut (idxOf (odd1 K) (w ++ ends)) 2
theorem checkM_none {K R : Nat} {w ends : List Int} (h : checkM K R w ends = none) : w.length ≤ 4096 ∧ ends.length = 2 * R ∧ Syms K w ∧ Syms K ends := by
  unfold checkM at h
  by_cases h1 : 4096 < w.length
  · rw [if_pos h1] at h; cases h
  rw [if_neg h1] at h
  by_cases h2 : ends.length ≠ 2 * R
  · rw [if_pos h2] at h; cases h
  rw [if_neg h2] at h
  rcases syms_or K (w ++ ends) with hs | ⟨i, hi, _⟩
  · exact ⟨by omega, by omega, fun x hx => hs x (by simp [hx]), fun x hx => hs x (by simp [hx])⟩
  · rw [if_neg (by omega)] at h; cases h
/-- permut.Right's and Left's faults: the side's weight is handed in. -/
def permF (k R : Int) (xs : List Int) (W : Nat) (w ends : List Int) : PErr :=
  match checkP k R xs with
  | some t => under sPermut 0 (some t)
  | none => if unlikeP k.toNat xs W = false then fresh sPermut 0 3 else checkM k.toNat R.toNat w ends

/-- A group of windows lies within the table. -/
theorem group_lt {K W q j s n : Nat} (hW : 1 ≤ W) (hn : n = q * (W * K)) (hj : j < n) (hm : j / W % K = 0) (hs : s < K) : j + s * W < n := by
  have h1 := Nat.div_add_mod j W
  have h2 := Nat.div_add_mod (j / W) K
  have h3 := Nat.mod_lt j hW
  rw [hm, Nat.add_zero] at h2
  have e : j = W * K * (j / W / K) + j % W := by
    rw [Nat.mul_assoc, h2]; omega
  have hc : j / W / K < q := by
    rw [Nat.div_div_eq_div_mul]
    exact Nat.div_lt_of_lt_mul (by rw [Nat.mul_comm]; omega)
  have h4 : W * K * (j / W / K + 1) ≤ W * K * q := Nat.mul_le_mul_left _ hc
  rw [Nat.mul_add, Nat.mul_one] at h4
  have h5 : (s + 1) * W ≤ K * W := Nat.mul_le_mul_right _ hs
  rw [Nat.succ_mul, Nat.mul_comm K W] at h5
  rw [hn, Nat.mul_comm q]
  omega

theorem RuleOk.half {K R : Nat} {xs : List Int} (h : RuleOk K R xs) : xs.length / K = pw K (2 * R) ∧ xs.length = pw K (2 * R) * K := by
  have e := h.len
  rw [pw_succ] at e
  have := h.k1
  exact ⟨by rw [e, Nat.mul_div_cancel _ (by omega)], e⟩
end Go.Proofs.YtmhiambkfdkkbaaDoor

namespace Go.Proofs.YtmhiambkfdkkbaaDoor
open Go.RowKit
set_option maxRecDepth 100000

theorem wrap64_nat (n : Nat) (h : n < 1048576) : wrap64 (n : Int) = n := wrap64_id (by omega) (by omega)
theorem wrap64_nat1 (n : Nat) (h1 : 1 ≤ n) (h : n < 1048576) : wrap64 ((n : Int) - 1) = ((n - 1 : Nat) : Int) := by
  rw [wrap64_id (by omega) (by omega)]; omega
theorem bits_or_nat (a b : Nat) (ha : a < 1024) (hb : b < 1024) : bits .or .i64 (a : Int) (b : Int) = ((a ||| b : Nat) : Int) := by
  have hx : a ||| b < 2 ^ 10 := Nat.or_lt_two_pow (by omega) (by omega)
  have h1 : (BitVec.ofInt 64 (a : Int)).toNat = a := by
    rw [BitVec.ofInt_natCast, BitVec.toNat_ofNat]; exact Nat.mod_eq_of_lt (by omega)
  have h2 : (BitVec.ofInt 64 (b : Int)).toNat = b := by
    rw [BitVec.ofInt_natCast, BitVec.toNat_ofNat]; exact Nat.mod_eq_of_lt (by omega)
  show IntKind.i64.wrap ((BitVec.ofInt 64 (a : Int) ||| BitVec.ofInt 64 (b : Int)).toNat : Int) = _
  rw [BitVec.toNat_or, h1, h2]
  exact wrapK (by omega) (by omega)

end Go.Proofs.YtmhiambkfdkkbaaDoor

namespace Go.Proofs.YtmhiambkfdkkbaaDoor
open Go.RowKit
set_option maxRecDepth 100000

theorem catN_two (vs : Nat → List Int) : catN vs 2 = vs 0 ++ vs 1 := by simp [catN, List.range, List.range.loop]

end Go.Proofs.YtmhiambkfdkkbaaDoor

namespace Go.Proofs.YtmhiambkfdkkbaaDoor
open Go.RowKit
set_option maxRecDepth 100000

theorem wpl_append1b {w : World} {ops : Array Oper} {rest : List Oper} {o : Oper} {a : Act} {Q : Exit → Act → World → Prop} (hgd : o.guard = none) (s x : Operand)
    (ho : o.op = .call { callee := .builtin .append, args := #[s, x], argTypes := #[22, 22] })
    (B : Nat) (v : Value) (xs : List Int) (y : Int) (hown : OwnI B w v xs) (hs : a.eval s = v) (b : Nat) (hx : a.eval x = .slice (some ⟨b, 0, none⟩) 1 1) (hb : b = w.heap.size)
    (hlen : xs.length < 17592186044415) (hB : B ≤ w.heap.size)
    (h : ∀ v' w', OwnI B w' v' (xs ++ [y]) → Below B w w' → w.grownBy w' v.ownBlock → (v'.ownBlock = v.ownBlock ∨ ∃ k, v'.ownBlock = some k ∧ w.heap.size ≤ k) → wpList Tryd.prog ops Q rest (a.put o.dst v') w') :
    wpList Tryd.prog ops Q (o :: rest) a (w.alloc (.cells #[.int .i64 y] 3)) := by
  subst hb
  exact wpl_append1 hgd s x ho B v xs y hown hs hx hlen hB h

end Go.Proofs.YtmhiambkfdkkbaaDoor

namespace Go.Proofs.YtmhiambkfdkkbaaDoor
open Go.RowKit
set_option maxRecDepth 100000

theorem leftS_lt {K : Nat} {T : List Int} (hK : 1 ≤ K) (node : Nat) (hn : node < T.length / K) (w : List Int) : (leftS K T node w).1 < T.length / K := by
  induction w with
  | nil => exact hn
  | cons y w ih =>
    have hf := fit_lt hK T (leftS K T node w).1 (T.length / K) y
    show (fit K T (leftS K T node w).1 (T.length / K) y * (T.length / K) + (leftS K T node w).1) / K < T.length / K
    rw [Nat.div_lt_iff_lt_mul hK]
    have h1 : (fit K T (leftS K T node w).1 (T.length / K) y + 1) * (T.length / K) ≤ K * (T.length / K) := Nat.mul_le_mul_right _ hf
    rw [Nat.succ_mul] at h1
    rw [Nat.mul_comm (T.length / K) K]
    omega

theorem run_makeI (C : Int) (n : Nat) (w : World) (hC : C = n) (hn : n ≤ 17592186044416) :
    ∃ v w', (Instr.makeSlice 22 (.int .i64 C) (.int .i64 C)).run Tryd.prog w = .ok v w' ∧ OwnI w.heap.size w' v (List.replicate n 0) ∧ Below w.heap.size w w' := by
  subst hC
  obtain ⟨i, hi, hz0, hz1, hz2⟩ := info_parts iInt
  obtain ⟨w', hrun, r1, r2⟩ := run_make_full (P := Tryd.prog) w w.heap.size 22 3 i (.int .i64 0) 1 uInts hi hz0 hz1 .i64 .i64 n (by rw [hz2]; omega) (by unfold maxLen; omega) (Nat.le_refl _)
  refine ⟨_, w', hrun, ?_, (Below.refl _ _).grown r2 (Nat.le_refl _) (by intro k hk; cases hk)⟩
  have e : (madeCells (Value.cells (.int .i64 0)) (n * 1)).toList = (List.replicate n (0 : Int)).map (Value.int .i64) := by
    rw [show Value.cells (.int .i64 0) = #[.int .i64 0] from rfl, toList_madeCells_one]; simp
  rw [e] at r1
  simpa [OwnI] using r1

/-- What is left of an owned slice from a place on. -/
theorem OwnI.post {B : Nat} {w : World} {v : Value} {xs : List Int} (h : OwnI B w v xs) (off : Nat) (ho : off ≤ xs.length) :
    ∃ dp dLen dCap, (∀ w', (Instr.slice 22 v (some (.int .i64 off)) none none).run Tryd.prog w' = .ok (.slice dp dLen dCap) w') ∧ dLen = xs.length - off ∧ (0 < xs.length - off → dp = some (valAt v off)) := by
  rcases h.2 with ⟨rfl, hn⟩ | ⟨g, cap, cur, rfl, hB, hg, hn, hm, hs, ht⟩
  · have hr : ∀ w', (Instr.slice 22 (.slice none 0 0) (some (.int .i64 off)) none none).run Tryd.prog w' = .ok (sliced none off 0 0 1) w' := by
      intro w'
      rw [run_slice_l w' 22 none 0 0 uIntsE .i64 off (by omega) (by omega), eInts, sInt]
      rfl
    exact ⟨_, _, _, hr, by omega, by intro hh; omega⟩
  · have hr : ∀ w', (Instr.slice 22 (.slice (some ⟨g, 0, none⟩) xs.length cap) (some (.int .i64 off)) none none).run Tryd.prog w' = .ok (sliced (some ⟨g, 0, none⟩) off xs.length cap 1) w' := by
      intro w'
      rw [run_slice_l w' 22 (some ⟨g, 0, none⟩) xs.length cap uIntsE .i64 off (by omega) (by omega), eInts, sInt]
      rfl
    refine ⟨_, _, _, hr, rfl, fun hh => ?_⟩
    rw [if_neg (by omega), valAt_row]
    simp [Addr.add]
    intro e; exact e.symm

end Go.Proofs.YtmhiambkfdkkbaaDoor

namespace Go.Proofs.YtmhiambkfdkkbaaDoor

/-- f 0 + .. + f (n - 1). -/
def Sm (f : Nat → Int) : Nat → Int
  | 0 => 0
  | n + 1 => Sm f n + f n
theorem Sm_congr {f g : Nat → Int} (n : Nat) (h : ∀ i, i < n → f i = g i) : Sm f n = Sm g n := by
  induction n with
  | zero => rfl
  | succ n ih => rw [Sm, Sm, ih fun i hi => h i (by omega), h n (by omega)]
theorem Sm_zero {f : Nat → Int} (n : Nat) (h : ∀ i, i < n → f i = 0) : Sm f n = 0 := by
  induction n with
  | zero => rfl
  | succ n ih => rw [Sm, ih fun i hi => h i (by omega), h n (by omega)]; rfl
theorem Sm_mod {f g : Nat → Int} {K : Int} (n : Nat) (h : ∀ i, i < n → f i % K = g i % K) : Sm f n % K = Sm g n % K := by
  induction n with
  | zero => rfl
  | succ n ih => rw [Sm, Sm, Int.add_emod, ih fun i hi => h i (by omega), h n (by omega), ← Int.add_emod]

/-- A cell set changes the sum by what it is more. -/
theorem Sm_set (O : List Int) (p : Nat) (v : Int) (hp : p < O.length) (u : Nat → Int) (n : Nat) :
    Sm (fun i => (O.set p v).getD i 0 * u i) n = Sm (fun i => O.getD i 0 * u i) n + if p < n then (v - O.getD p 0) * u p else 0 := by
  induction n with
  | zero => simp [Sm]
  | succ n ih =>
    rw [Sm, Sm, ih]
    by_cases e : n = p
    · subst e
      rw [if_neg (by omega), if_pos (by omega)]
      have : (O.set n v).getD n 0 = v := by simp [List.getD, hp]
      rw [this, Int.sub_mul]
      omega
    · have : (O.set p v).getD n 0 = O.getD n 0 := by simp [List.getD, show ¬ p = n by omega]
      rw [this]
      by_cases c : p < n
      · rw [if_pos c, if_pos (by omega)]; omega
      · rw [if_neg c, if_neg (by omega)]; omega

theorem mulRow_sum (K i : Nat) (x : Int) (b : List Int) (u : Nat → Int) (q : Nat) (O : List Int) (hq : i + q ≤ O.length) :
    Sm (fun t => (mulRow K i x b q O).getD t 0 * u t) O.length % K = (Sm (fun t => O.getD t 0 * u t) O.length + x * Sm (fun j => b.getD j 0 * u (i + j)) q) % K := by
  induction q with
  | zero => simp [mulRow, Sm]
  | succ q ih =>
    have ih' := ih (by omega)
    rw [mulRow, addAt, Sm_set _ _ _ (by rw [mulRow_length]; omega), if_pos (by omega), Int.add_emod, ih', ← Int.add_emod, Sm]
    generalize (mulRow K i x b q O).getD (i + q) 0 = z
    generalize Sm (fun j => b.getD j 0 * u (i + j)) q = A
    generalize Sm (fun t => O.getD t 0 * u t) O.length = B
    have e : (((z + x * b.getD q 0) % (K : Int) - z) * u (i + q)) % K = (x * b.getD q 0 * u (i + q)) % K := by
      rw [Int.mul_emod, Int.sub_emod, Int.emod_emod, ← Int.sub_emod, ← Int.mul_emod]
      congr 2
      omega
    rw [Int.add_emod, e, ← Int.add_emod]
    congr 1
    rw [Int.mul_add, Int.mul_assoc]
    omega

theorem mulAll_length' (K : Nat) (a b : List Int) (i : Nat) : (mulAll K a b i).length = a.length + b.length - 1 := mulAll_length ..

theorem mulAll_sum (K : Nat) (a b : List Int) (u : Nat → Int) (hb : 1 ≤ b.length) (i : Nat) (hi : i ≤ a.length) :
    Sm (fun t => (mulAll K a b i).getD t 0 * u t) (a.length + b.length - 1) % K = Sm (fun i => a.getD i 0 * Sm (fun j => b.getD j 0 * u (i + j)) b.length) i % K := by
  induction i with
  | zero =>
    rw [mulAll, Sm_zero]
    · rfl
    · intro t _
      by_cases c : t < a.length + b.length - 1
      · simp [List.getD, c]
      · simp [List.getD, c]
  | succ i ih =>
    have h := mulRow_sum K i (a.getD i 0) b u b.length (mulAll K a b i) (by rw [mulAll_length]; omega)
    rw [mulAll_length] at h
    rw [mulAll, h, Int.add_emod, ih (by omega), ← Int.add_emod, Sm]

/-- The product's sum. -/
theorem mulL_sum (K : Nat) (a b : List Int) (u : Nat → Int) (hb : 1 ≤ b.length) :
    Sm (fun t => (mulL K a b).getD t 0 * u t) (a.length + b.length - 1) % K = Sm (fun i => a.getD i 0 * (Sm (fun j => b.getD j 0 * u (i + j)) b.length % K)) a.length % K := by
  rw [mulL, mulAll_sum K a b u hb a.length (Nat.le_refl _)]
  refine Sm_mod _ fun i _ => ?_
  rw [Int.mul_emod, ← Int.mul_emod, Int.mul_emod (a.getD i 0) (_ % _), Int.emod_emod, ← Int.mul_emod]

theorem sumStep_at (K : Nat) (x : Int) (T : List Int) (n s : Nat) (hn : n < T.length) (hs : s < K) : (sumStep K x T).getD (n * K + s) 0 = (T.getD n 0 + x * s) % K := by
  induction T generalizing n with
  | nil => simp at hn
  | cons y T ih =>
    have e : sumStep K x (y :: T) = sumRow K x y K ++ sumStep K x T := by simp [sumStep]
    rw [e]
    cases n with
    | zero =>
      have h : s < (sumRow K x y K).length := by rw [sumRow_length]; exact hs
      rw [Nat.zero_mul, Nat.zero_add]
      simp only [List.getD, List.getElem?_append_left h]
      simp [sumRow, hs]
    | succ n =>
      have h : (sumRow K x y K).length ≤ (n + 1) * K + s := by rw [sumRow_length, Nat.succ_mul]; omega
      have e2 : (n + 1) * K + s - (sumRow K x y K).length = n * K + s := by rw [sumRow_length, Nat.succ_mul]; omega
      have := ih n (by simpa using hn)
      simp only [List.getD, List.getElem?_append_right h, e2, List.getElem?_cons_succ] at this ⊢
      exact this

theorem numW_bound {K : Nat} {w : List Int} (h : Syms K w) {f : List Int} (hl : f.length = w.length) : numW K w < (sumT K f).length := by
  rw [sumT_length, hl]; exact numW_lt w h

/-- A sum's symbol at a window. -/
theorem sumT_at (K : Nat) (f w : List Int) (hl : f.length = w.length) (hw : Syms K w) :
    (sumT K f).getD (numW K w) 0 = Sm (fun i => f.getD i 0 * w.getD i 0) f.length % K := by
  induction hn : f.length generalizing f w with
  | zero =>
    obtain rfl := List.eq_nil_of_length_eq_zero hn
    obtain rfl := List.eq_nil_of_length_eq_zero (hl.symm.trans hn)
    simp [sumT, sumTable, numW, Sm]
  | succ n ih =>
    have hf : f ≠ [] := by intro e; subst e; simp at hn
    have hwe : w ≠ [] := by intro e; subst e; simp at hl; exact hf hl
    obtain ⟨g, x, rfl⟩ : ∃ g x, f = g ++ [x] := ⟨f.dropLast, f.getLast hf, (List.dropLast_concat_getLast hf).symm⟩
    obtain ⟨v, y, rfl⟩ : ∃ v y, w = v ++ [y] := ⟨w.dropLast, w.getLast hwe, (List.dropLast_concat_getLast hwe).symm⟩
    have hgn : g.length = n := by simpa using hn
    have hgv : g.length = v.length := by simpa using hl
    have hv : Syms K v := fun z hz => hw z (by simp [hz])
    have hy := hw y (by simp)
    rw [numW_snoc, sumT, sumTable_snoc]
    have := sumStep_at K x (sumTable K [0] g) (numW K v) y.toNat (numW_bound hv hgv) (by omega)
    rw [this, show (sumTable K [0] g).getD (numW K v) 0 = (sumT K g).getD (numW K v) 0 from rfl, ih g v hgv hv hgn, Int.emod_add_emod, Sm]
    congr 2
    · refine Sm_congr _ fun i hi => ?_
      rw [← hgn] at hi
      simp only [List.getD, List.getElem?_append_left hi, List.getElem?_append_left (show i < v.length by omega)]
    · have e1 : (g ++ [x]).getD n 0 = x := by rw [← hgn]; simp [List.getD]
      have e2 : (v ++ [y]).getD n 0 = y := by rw [← hgn, hgv]; simp [List.getD]
      rw [e1, e2]
      rw [show ((y.toNat : Nat) : Int) = y by omega]

/-- The window of a number. -/
def digs (K : Nat) : Nat → Nat → List Int
  | 0, _ => []
  | n + 1, x => digs K n (x / K) ++ [((x % K : Nat) : Int)]
theorem digs_length (K n x : Nat) : (digs K n x).length = n := by
  induction n generalizing x with
  | zero => rfl
  | succ n ih => simp [digs, ih]
theorem digs_syms {K : Nat} (hK : 1 ≤ K) (n x : Nat) : Syms K (digs K n x) := by
  induction n generalizing x with
  | zero => intro y hy; simp [digs] at hy
  | succ n ih =>
    intro y hy
    rw [digs, List.mem_append, List.mem_singleton] at hy
    rcases hy with hy | rfl
    · exact ih _ y hy
    · have := Nat.mod_lt x (show 0 < K by omega); omega
theorem numW_digs {K : Nat} (hK : 1 ≤ K) (n x : Nat) (hx : x < pw K n) : numW K (digs K n x) = x := by
  induction n generalizing x with
  | zero => simp [pw] at hx; subst hx; rfl
  | succ n ih =>
    rw [digs, numW_snoc, ih _ (by rw [Nat.div_lt_iff_lt_mul (by omega), ← pw_succ]; exact hx), Int.toNat_natCast]
    exact Nat.div_add_mod' x K

/-- The image of a word, window by window. -/
def imgP (K R : Nat) (T : List Int) (w : List Int) : List Int := (List.range (w.length - 2 * R)).map fun i => T.getD (numW K ((w.drop i).take (2 * R + 1))) 0
/-- The table of one rule behind another. -/
def behindT (K R1 : Nat) (T1 : List Int) (R2 : Nat) (T2 : List Int) : List Int :=
  (List.range (pw K (2 * (R1 + R2) + 1))).map fun x => T1.getD (numW K (imgP K R2 T2 (digs K (2 * (R1 + R2) + 1) x))) 0

theorem imgP_length (K R : Nat) (T w : List Int) : (imgP K R T w).length = w.length - 2 * R := by simp [imgP]
theorem imgP_getD (K R : Nat) (T w : List Int) (i : Nat) (hi : i < w.length - 2 * R) : (imgP K R T w).getD i 0 = T.getD (numW K ((w.drop i).take (2 * R + 1))) 0 := by
  simp [imgP, List.getD, hi]
theorem imgP_syms {K : Nat} (hK : 1 ≤ K) {R : Nat} {T w : List Int} (hT : Syms K T) : Syms K (imgP K R T w) := by
  intro y hy
  obtain ⟨i, _, rfl⟩ := List.mem_map.1 hy
  exact hT.getD (by omega) _

theorem window_sum {K R1 R2 : Nat} (hK : 1 ≤ K) {a b w : List Int} (ha : a.length = 2 * R1 + 1) (hb : b.length = 2 * R2 + 1) (hw : Syms K w) (hl : w.length = 2 * (R1 + R2) + 1) :
    (sumT K a).getD (numW K (imgP K R2 (sumT K b) w)) 0 = (sumT K (mulL K a b)).getD (numW K w) 0 := by
  have hml : (mulL K a b).length = a.length + b.length - 1 := mulL_length ..
  rw [sumT_at K a _ (by rw [imgP_length]; omega) (imgP_syms hK (sumT_syms hK b)), sumT_at K (mulL K a b) w (by omega) hw, hml, mulL_sum K a b (fun i => w.getD i 0) (by omega)]
  refine Sm_mod _ fun i hi => ?_
  rw [imgP_getD _ _ _ _ _ (by omega)]
  congr 2
  have hwl : ((w.drop i).take (2 * R2 + 1)).length = 2 * R2 + 1 := by simp; omega
  rw [sumT_at K b _ (by omega) (fun x hx => hw x (List.mem_of_mem_drop (List.mem_of_mem_take hx)))]
  congr 1
  refine Sm_congr _ fun j hj => ?_
  congr 1
  simp [List.getD, List.getElem?_drop, show j < 2 * R2 + 1 by omega]

/-- One sum behind another is the sum of the product. -/
theorem behind_sum {K R1 R2 : Nat} (hK : 1 ≤ K) {a b : List Int} (ha : a.length = 2 * R1 + 1) (hb : b.length = 2 * R2 + 1) :
    behindT K R1 (sumT K a) R2 (sumT K b) = sumT K (mulL K a b) := by
  have hml : (mulL K a b).length = 2 * (R1 + R2) + 1 := by rw [mulL_length]; omega
  refine List.ext_getElem (by simp [behindT, sumT_length, hml]) fun x h1 h2 => ?_
  have hx : x < pw K (2 * (R1 + R2) + 1) := by simpa [behindT] using h1
  simp only [behindT, List.getElem_map, List.getElem_range]
  rw [window_sum hK ha hb (digs_syms hK _ _) (digs_length ..), numW_digs hK _ _ hx]
  simp [List.getD, h2]
end Go.Proofs.YtmhiambkfdkkbaaDoor

namespace Go.Proofs.YtmhiambkfdkkbaaDoor

theorem numW_append (K : Nat) (u v : List Int) : numW K (u ++ v) = numW K u * pw K v.length + numW K v := by
  induction hn : v.length generalizing v with
  | zero =>
    obtain rfl := List.eq_nil_of_length_eq_zero hn
    simp [numW, pw]
  | succ n ih =>
    have hne : v ≠ [] := by intro e; subst e; simp at hn
    obtain ⟨b, x, rfl⟩ : ∃ b x, v = b ++ [x] := ⟨v.dropLast, v.getLast hne, (List.dropLast_concat_getLast hne).symm⟩
    have hb : b.length = n := by simpa using hn
    rw [← List.append_assoc, numW_snoc, numW_snoc, ih b hb, pw_succ, Nat.add_mul, Nat.mul_assoc]
    omega
theorem numW_mod {K : Nat} {u v : List Int} (h : Syms K v) : numW K (u ++ v) % pw K v.length = numW K v := by
  rw [numW_append, Nat.mul_comm, Nat.mul_add_mod, Nat.mod_eq_of_lt (numW_lt v h)]

/-- One symbol more. -/
theorem imgP_snoc {K R : Nat} {T w : List Int} {x : Int} (hT : T.length = pw K (2 * R + 1)) (hw : Syms K (w ++ [x])) :
    imgP K R T (w ++ [x]) = if 2 * R ≤ w.length then imgP K R T w ++ [T.getD (numW K (w ++ [x]) % T.length) 0] else imgP K R T w := by
  by_cases h : 2 * R ≤ w.length
  · rw [if_pos h]
    unfold imgP
    rw [show (w ++ [x]).length - 2 * R = (w.length - 2 * R) + 1 by simp; omega, List.range_succ, List.map_append]
    congr 1
    · refine List.map_congr_left fun i hi => ?_
      have hi' := List.mem_range.1 hi
      congr 2
      rw [List.drop_append_of_le_length (by omega), List.take_append_of_le_length (by simp; omega)]
    · simp only [List.map_cons, List.map_nil]
      congr 2
      have e : ((w ++ [x]).drop (w.length - 2 * R)).take (2 * R + 1) = (w ++ [x]).drop (w.length - 2 * R) := List.take_of_length_le (by simp; omega)
      rw [e, hT]
      have hl : ((w ++ [x]).drop (w.length - 2 * R)).length = 2 * R + 1 := by simp; omega
      have := numW_mod (K := K) (u := (w ++ [x]).take (w.length - 2 * R)) (v := (w ++ [x]).drop (w.length - 2 * R)) (fun y hy => hw y (List.mem_of_mem_drop hy))
      rw [List.take_append_drop, hl] at this
      exact this.symm
  · rw [if_neg h]
    unfold imgP
    rw [show (w ++ [x]).length - 2 * R = 0 by simp; omega, show w.length - 2 * R = 0 by omega]
    rfl
theorem numW_step (K : Nat) (w : List Int) (x : Int) (L : Nat) : numW K (w ++ [x]) % L = (numW K w % L * K + x.toNat) % L := by
  rw [numW_snoc, Nat.add_mod, Nat.mul_mod, ← Nat.mod_mod (numW K w) L, ← Nat.mul_mod, ← Nat.add_mod, Nat.mod_mod]

/-- A window's digits, from the last on. -/
theorem digs_getD (K n x j : Nat) (hj : j < n) : (digs K n x).getD (n - 1 - j) 0 = ((x / pw K j % K : Nat) : Int) := by
  induction n generalizing x j with
  | zero => omega
  | succ n ih =>
    rw [digs]
    cases j with
    | zero =>
      rw [pw_zero, Nat.div_one, show n + 1 - 1 - 0 = (digs K n (x / K)).length by rw [digs_length]; omega]
      simp [List.getD]
    | succ j =>
      have h := ih (x / K) j (by omega)
      have hl : n + 1 - 1 - (j + 1) < (digs K n (x / K)).length := by rw [digs_length]; omega
      simp only [List.getD, List.getElem?_append_left hl] at h ⊢
      rw [show n + 1 - 1 - (j + 1) = n - 1 - j by omega, h, pw_succ, Nat.div_div_eq_div_mul, Nat.mul_comm]

/-- The window's list while it is filled from its end. -/
theorem digs_fill (K n x j : Nat) (hj : j < n) (p : List Int) (hp : p.length = n) :
    (p.take (n - j) ++ (digs K n x).drop (n - j)).set (n - 1 - j) ((x / pw K j % K : Nat) : Int) = p.take (n - (j + 1)) ++ (digs K n x).drop (n - (j + 1)) := by
  have hd := digs_getD K n x j hj
  have hdl := digs_length K n x
  rw [show n - (j + 1) = n - 1 - j by omega, show n - j = n - 1 - j + 1 by omega]
  have hm : n - 1 - j < n := by omega
  generalize n - 1 - j = m at hd hm
  rw [← hd, take_snoc p m (by omega), List.drop_eq_getElem_cons (show m < (digs K n x).length by omega), List.append_assoc, List.set_append_right _ _ (by simp; omega)]
  have e : m - (p.take m).length = 0 := by simp; omega
  rw [e]
  simp [List.getD, show m < (digs K n x).length by omega]
end Go.Proofs.YtmhiambkfdkkbaaDoor

namespace Go.Proofs.YtmhiambkfdkkbaaDoor

theorem numW_cons (K : Nat) (s : Int) (u : List Int) : numW K (s :: u) = s.toNat * pw K u.length + numW K u := by
  have := numW_append K [s] u
  simpa [numW] using this

theorem digs_numW {K : Nat} (hK : 1 ≤ K) (w : List Int) (h : Syms K w) : digs K w.length (numW K w) = w := by
  induction hn : w.length generalizing w with
  | zero => obtain rfl := List.eq_nil_of_length_eq_zero hn; rfl
  | succ n ih =>
    have hne : w ≠ [] := by intro e; subst e; simp at hn
    obtain ⟨b, x, rfl⟩ : ∃ b x, w = b ++ [x] := ⟨w.dropLast, w.getLast hne, (List.dropLast_concat_getLast hne).symm⟩
    have hb : b.length = n := by simpa using hn
    have hx := h x (by simp)
    have hxn : x.toNat < K := by omega
    have := ih b (fun y hy => h y (by simp [hy])) hb
    rw [digs, numW_snoc]
    rw [show (numW K b * K + x.toNat) / K = numW K b by rw [Nat.mul_comm, Nat.mul_add_div (by omega), Nat.div_eq_of_lt hxn, Nat.add_zero], this,
      show (numW K b * K + x.toNat) % K = x.toNat by rw [Nat.mul_comm, Nat.mul_add_mod, Nat.mod_eq_of_lt hxn]]
    congr 2
    omega

/-- The mirrored table. -/
def mirT (K n : Nat) (T : List Int) : List Int := (List.range T.length).map fun i => T.getD (numW K (digs K n i).reverse) 0
theorem mirT_length (K n : Nat) (T : List Int) : (mirT K n T).length = T.length := by simp [mirT]
theorem mirT_syms {K : Nat} (hK : 1 ≤ K) (n : Nat) {T : List Int} (h : Syms K T) : Syms K (mirT K n T) := by
  intro y hy
  obtain ⟨i, _, rfl⟩ := List.mem_map.1 hy
  exact h.getD (by omega) _
theorem mirT_at {K n : Nat} (hK : 1 ≤ K) {T : List Int} (hT : T.length = pw K n) (w : List Int) (hw : Syms K w) (hl : w.length = n) : (mirT K n T).getD (numW K w) 0 = T.getD (numW K w.reverse) 0 := by
  have hlt := numW_lt w hw
  rw [hl, ← hT] at hlt
  have : (mirT K n T).getD (numW K w) 0 = T.getD (numW K (digs K n (numW K w)).reverse) 0 := by simp [mirT, List.getD, hlt]
  rw [this, ← hl, digs_numW hK w hw]
theorem mirT_ok {K R : Nat} {T : List Int} (h : RuleOk K R T) : RuleOk K R (mirT K (2 * R + 1) T) :=
  ⟨h.k1, h.k4, h.r3, by rw [mirT_length]; exact h.len, mirT_syms h.k1 _ h.syms⟩

/-- edenref19.right's answer. -/
def rightR (K : Nat) (T : List Int) : Bool := decide (∀ i, i < T.length → ∀ j, j < T.length → i < j → j / K = i / K → T.getD i 0 ≠ T.getD j 0)
theorem rightR_false {K : Nat} {T : List Int} (i j : Nat) (hj : j < T.length) (h : i < j) (hq : j / K = i / K) (e : T.getD i 0 = T.getD j 0) : rightR K T = false := by
  rw [rightR, decide_eq_false_iff_not]
  intro hh
  exact hh i (by omega) j hj h hq e
theorem rightR_true {K : Nat} {T : List Int} (h : ∀ i, i < T.length → ∀ j, j < T.length → i < j → j / K = i / K → T.getD i 0 ≠ T.getD j 0) : rightR K T = true := by
  rw [rightR, decide_eq_true_iff]; exact h

theorem bits2 : ∀ a b : Fin 2, ((0 ||| 2 ^ a.val) ||| 2 ^ b.val == 2 ^ 2 - 1) = decide (a ≠ b) := by decide
theorem bits3 : ∀ a b c : Fin 3, (((0 ||| 2 ^ a.val) ||| 2 ^ b.val) ||| 2 ^ c.val == 2 ^ 3 - 1) = decide (a ≠ b ∧ a ≠ c ∧ b ≠ c) := by decide
theorem bits4 : ∀ a b c d : Fin 4, ((((0 ||| 2 ^ a.val) ||| 2 ^ b.val) ||| 2 ^ c.val) ||| 2 ^ d.val == 2 ^ 4 - 1) = decide (a ≠ b ∧ a ≠ c ∧ a ≠ d ∧ b ≠ c ∧ b ≠ d ∧ c ≠ d) := by decide +kernel

theorem fullP_iff {K : Nat} (h1 : 1 ≤ K) (h4 : K ≤ 4) {T : List Int} (hT : Syms K T) (W i : Nat) :
    fullP K T W i = true ↔ ∀ s t, s < t → t < K → T.getD (i + s * W) 0 ≠ T.getD (i + t * W) 0 := by
  have hx : ∀ s, ∃ a : Fin K, T.getD (i + s * W) 0 = (a.val : Int) := fun s => by
    have := hT.getD (by omega) (i + s * W)
    exact ⟨⟨(T.getD (i + s * W) 0).toNat, by omega⟩, by simp only []; omega⟩
  have hk : K = 1 ∨ K = 2 ∨ K = 3 ∨ K = 4 := by omega
  unfold fullP
  rcases hk with rfl | rfl | rfl | rfl
  · obtain ⟨a, ha⟩ := hx 0
    simp only [seenP, ha, Int.toNat_natCast]
    have : a.val = 0 := by omega
    rw [this]
    exact ⟨fun _ s t h h' => by omega, fun _ => rfl⟩
  · obtain ⟨a, ha⟩ := hx 0
    obtain ⟨b, hb⟩ := hx 1
    simp only [seenP, ha, hb, Int.toNat_natCast, bits2, decide_eq_true_iff]
    constructor
    · intro h s t hst ht
      obtain rfl : s = 0 := by omega
      obtain rfl : t = 1 := by omega
      rw [ha, hb]
      intro e; exact h (Fin.ext (by omega))
    · intro h e
      have := h 0 1 (by omega) (by omega)
      rw [ha, hb, e] at this; exact this rfl
  · obtain ⟨a, ha⟩ := hx 0
    obtain ⟨b, hb⟩ := hx 1
    obtain ⟨c, hc⟩ := hx 2
    simp only [seenP, ha, hb, hc, Int.toNat_natCast, bits3, decide_eq_true_iff]
    constructor
    · rintro ⟨n1, n2, n3⟩ s t hst ht
      have : (s = 0 ∧ t = 1) ∨ (s = 0 ∧ t = 2) ∨ (s = 1 ∧ t = 2) := by omega
      rcases this with ⟨rfl, rfl⟩ | ⟨rfl, rfl⟩ | ⟨rfl, rfl⟩
      · rw [ha, hb]; intro e; exact n1 (Fin.ext (by omega))
      · rw [ha, hc]; intro e; exact n2 (Fin.ext (by omega))
      · rw [hb, hc]; intro e; exact n3 (Fin.ext (by omega))
    · intro h
      refine ⟨fun e => ?_, fun e => ?_, fun e => ?_⟩
      · have := h 0 1 (by omega) (by omega); rw [ha, hb, e] at this; exact this rfl
      · have := h 0 2 (by omega) (by omega); rw [ha, hc, e] at this; exact this rfl
      · have := h 1 2 (by omega) (by omega); rw [hb, hc, e] at this; exact this rfl
  · obtain ⟨a, ha⟩ := hx 0
    obtain ⟨b, hb⟩ := hx 1
    obtain ⟨c, hc⟩ := hx 2
    obtain ⟨d, hd⟩ := hx 3
    simp only [seenP, ha, hb, hc, hd, Int.toNat_natCast, bits4, decide_eq_true_iff]
    constructor
    · rintro ⟨n1, n2, n3, n4, n5, n6⟩ s t hst ht
      have : (s = 0 ∧ t = 1) ∨ (s = 0 ∧ t = 2) ∨ (s = 0 ∧ t = 3) ∨ (s = 1 ∧ t = 2) ∨ (s = 1 ∧ t = 3) ∨ (s = 2 ∧ t = 3) := by omega
      rcases this with ⟨rfl, rfl⟩ | ⟨rfl, rfl⟩ | ⟨rfl, rfl⟩ | ⟨rfl, rfl⟩ | ⟨rfl, rfl⟩ | ⟨rfl, rfl⟩
      · rw [ha, hb]; intro e; exact n1 (Fin.ext (by omega))
      · rw [ha, hc]; intro e; exact n2 (Fin.ext (by omega))
      · rw [ha, hd]; intro e; exact n3 (Fin.ext (by omega))
      · rw [hb, hc]; intro e; exact n4 (Fin.ext (by omega))
      · rw [hb, hd]; intro e; exact n5 (Fin.ext (by omega))
      · rw [hc, hd]; intro e; exact n6 (Fin.ext (by omega))
    · intro h
      refine ⟨fun e => ?_, fun e => ?_, fun e => ?_, fun e => ?_, fun e => ?_, fun e => ?_⟩
      · have := h 0 1 (by omega) (by omega); rw [ha, hb, e] at this; exact this rfl
      · have := h 0 2 (by omega) (by omega); rw [ha, hc, e] at this; exact this rfl
      · have := h 0 3 (by omega) (by omega); rw [ha, hd, e] at this; exact this rfl
      · have := h 1 2 (by omega) (by omega); rw [hb, hc, e] at this; exact this rfl
      · have := h 1 3 (by omega) (by omega); rw [hb, hd, e] at this; exact this rfl
      · have := h 2 3 (by omega) (by omega); rw [hc, hd, e] at this; exact this rfl

theorem unlikeP_iff {K : Nat} {T : List Int} {W : Nat} : unlikeP K T W = true ↔ ∀ i, i < T.length → i / W % K = 0 → fullP K T W i = true :=
  ⟨fun h i => unlikeP_full h i, unlikeP_true⟩

theorem mul_add_lt {K q s m : Nat} (hs : s < K) (hq : q < m) : q * K + s < m * K := by
  have := Nat.mul_le_mul_right K (show q + 1 ≤ m from hq)
  rw [Nat.succ_mul] at this
  omega
theorem div_mk {K q s : Nat} (hs : s < K) : (q * K + s) / K = q := by
  rw [Nat.mul_comm, Nat.mul_add_div (by omega), Nat.div_eq_of_lt hs, Nat.add_zero]
theorem mod_mk {K q s : Nat} (hs : s < K) : (q * K + s) % K = s := by
  rw [Nat.mul_comm, Nat.mul_add_mod, Nat.mod_eq_of_lt hs]

/-- The last place permutes: the program's test is the document's. -/
theorem unlike_right {K R : Nat} {T : List Int} (h : RuleOk K R T) : unlikeP K T 1 = rightR K T := by
  have h1 := h.k1
  have hl := h.half.2
  rw [Bool.eq_iff_iff, unlikeP_iff, rightR, decide_eq_true_iff]
  constructor
  · intro hu i hi j hj hij hq
    have e1 := Nat.div_add_mod' i K
    have e2 := Nat.div_add_mod' j K
    have m1 := Nat.mod_lt i (show K > 0 by omega)
    have m2 := Nat.mod_lt j (show K > 0 by omega)
    rw [hq] at e2
    have := (fullP_iff h1 h.k4 h.syms 1 (i / K * K)).1 (hu _ (by omega) (by rw [Nat.div_one, Nat.mul_mod_left])) (i % K) (j % K) (by omega) m2
    rwa [Nat.mul_one, Nat.mul_one, e1, e2] at this
  · intro hr i hi hm
    rw [Nat.div_one] at hm
    obtain ⟨q, rfl⟩ : ∃ q, i = q * K := ⟨i / K, by have := Nat.div_add_mod' i K; omega⟩
    have hq : q < pw K (2 * R) := Nat.lt_of_mul_lt_mul_right (a := K) (by rw [← hl]; exact hi)
    refine (fullP_iff h1 h.k4 h.syms 1 _).2 fun s t hst ht => ?_
    have l2 := mul_add_lt ht hq
    rw [← hl] at l2
    have := hr (q * K + s) (by omega) (q * K + t) l2 (by omega) (by rw [div_mk ht, div_mk (by omega)])
    rwa [Nat.mul_one, Nat.mul_one]

theorem digs_snoc {K : Nat} (n x : Nat) : digs K (n + 1) x = digs K n (x / K) ++ [((x % K : Nat) : Int)] := rfl

/-- The first place permutes just if the mirrored rule's last does. -/
theorem unlike_left {K R : Nat} {T : List Int} (h : RuleOk K R T) : unlikeP K T (T.length / K) = rightR K (mirT K (2 * R + 1) T) := by
  have h1 := h.k1
  obtain ⟨hW, hl⟩ := h.half
  have hMl := mirT_length K (2 * R + 1) T
  have hp := pw_pos (K := K) (2 * R) h1
  rw [hW, Bool.eq_iff_iff, unlikeP_iff, rightR, decide_eq_true_iff, hMl]
  have key : ∀ q s, q < pw K (2 * R) → s < K → (mirT K (2 * R + 1) T).getD (q * K + s) 0 = T.getD (numW K (digs K (2 * R) q).reverse + s * pw K (2 * R)) 0 := by
    intro q s hq hs
    have hsy : Syms K (digs K (2 * R) q ++ [(s : Int)]) := by
      intro y hy
      rcases List.mem_append.1 hy with hy | hy
      · exact digs_syms h1 _ _ y hy
      · rw [List.mem_singleton] at hy; subst hy; omega
    have := mirT_at h1 h.len (digs K (2 * R) q ++ [(s : Int)]) hsy (by simp [digs_length])
    rw [numW_snoc, numW_digs h1 _ _ hq, Int.toNat_natCast, List.reverse_append, List.reverse_singleton, List.singleton_append, numW_cons, Int.toNat_natCast, List.length_reverse, digs_length, Nat.add_comm (s * _)] at this
    exact this
  have rsy : ∀ q, Syms K (digs K (2 * R) q).reverse := fun q y hy => digs_syms h1 _ _ y (List.mem_reverse.1 hy)
  have rlt : ∀ q, numW K (digs K (2 * R) q).reverse < pw K (2 * R) := fun q => by
    have := numW_lt _ (rsy q)
    rwa [List.length_reverse, digs_length] at this
  constructor
  · intro hu i hi j hj hij hq
    have e1 := Nat.div_add_mod' i K
    have e2 := Nat.div_add_mod' j K
    have m1 := Nat.mod_lt i (show K > 0 by omega)
    have m2 := Nat.mod_lt j (show K > 0 by omega)
    rw [hq] at e2
    have hqi : i / K < pw K (2 * R) := by rw [Nat.div_lt_iff_lt_mul (by omega), ← hl]; exact hi
    have a1 := key (i / K) (i % K) hqi m1
    have a2 := key (i / K) (j % K) hqi m2
    rw [e1] at a1
    rw [e2] at a2
    rw [a1, a2]
    have lt := rlt (i / K)
    refine (fullP_iff h1 h.k4 h.syms (pw K (2 * R)) _).1 (hu _ ?_ ?_) (i % K) (j % K) (by omega) m2
    · rw [hl]; have := Nat.mul_le_mul_left (pw K (2 * R)) h1; omega
    · rw [Nat.div_eq_of_lt lt, Nat.zero_mod]
  · intro hr i hi hm
    have hiW : i < pw K (2 * R) := by
      have hdl : i / pw K (2 * R) < K := by rw [Nat.div_lt_iff_lt_mul (by omega), Nat.mul_comm, ← hl]; exact hi
      rw [Nat.mod_eq_of_lt hdl] at hm
      have := Nat.div_add_mod i (pw K (2 * R))
      have := Nat.mod_lt i (show pw K (2 * R) > 0 by omega)
      rw [hm] at *
      omega
    refine (fullP_iff h1 h.k4 h.syms (pw K (2 * R)) i).2 fun s t hst ht => ?_
    have hq := rlt i
    have a1 := key _ s hq (by omega)
    have a2 := key _ t hq ht
    have back : numW K (digs K (2 * R) (numW K (digs K (2 * R) i).reverse)).reverse = i := by
      have := digs_numW h1 _ (rsy i)
      rw [List.length_reverse, digs_length] at this
      rw [this, List.reverse_reverse, numW_digs h1 _ _ hiW]
    rw [back] at a1 a2
    rw [← a1, ← a2]
    have l2 := mul_add_lt ht hq
    rw [← hl] at l2
    exact hr _ (by omega) _ l2 (by omega) (by rw [div_mk ht, div_mk (by omega)])

/-- The symbols to the right, and the node behind them: the last 2 R symbols. -/
theorem num_shift {K : Nat} {u : List Int} {s : Int} (h : Syms K (u ++ [s])) : numW K ((u ++ [s]).drop 1) = numW K (u ++ [s]) % pw K u.length := by
  have hl : ((u ++ [s]).drop 1).length = u.length := by simp
  have := numW_mod (K := K) (u := (u ++ [s]).take 1) (v := (u ++ [s]).drop 1) (fun y hy => h y (List.mem_of_mem_drop hy))
  rw [List.take_append_drop, hl] at this
  exact this.symm
theorem rightP_syms {K : Nat} (hK : 1 ≤ K) (T : List Int) (node : Nat) (w : List Int) : Syms K (rightP K T node w) := by
  induction w generalizing node with
  | nil => intro y hy; cases hy
  | cons x w ih =>
    intro y hy
    rw [rightP, List.mem_cons] at hy
    rcases hy with rfl | hy
    · have := fit_lt hK T (node * K) 1 x; omega
    · exact ih _ y hy
theorem on_front {K R : Nat} {T : List Int} (hK : 1 ≤ K) (hW : T.length / K = pw K (2 * R)) (zs ys : List Int) (hz : Syms K zs) (hl : zs.length = 2 * R) :
    numW K ((zs ++ rightP K T (numW K zs) ys).drop ys.length) = rightN K T (numW K zs) ys := by
  induction hn : ys.length generalizing ys with
  | zero => obtain rfl := List.eq_nil_of_length_eq_zero hn; simp [rightP, rightN]
  | succ n ih =>
    have hne : ys ≠ [] := by intro e; subst e; simp at hn
    obtain ⟨b, x, rfl⟩ : ∃ b x, ys = b ++ [x] := ⟨ys.dropLast, ys.getLast hne, (List.dropLast_concat_getLast hne).symm⟩
    have hb : b.length = n := by simpa using hn
    have ih' := ih b hb
    rw [rightP_snoc, rightN_snoc, ← List.append_assoc, ← ih', hW]
    have hPl := rightP_length K T (numW K zs) b
    have hs := fit_lt hK T (numW K ((zs ++ rightP K T (numW K zs) b).drop n) * K) 1 x
    generalize fit K T (numW K ((zs ++ rightP K T (numW K zs) b).drop n) * K) 1 x = s at *
    have hu : Syms K (zs ++ rightP K T (numW K zs) b) := by
      intro y hy
      rcases List.mem_append.1 hy with hy | hy
      · exact hz y hy
      · exact rightP_syms hK _ _ _ y hy
    have hul : (zs ++ rightP K T (numW K zs) b).length = 2 * R + n := by simp [hPl, hl, hb]
    generalize zs ++ rightP K T (numW K zs) b = u at *
    have e : (u ++ [(s : Int)]).drop (n + 1) = (u.drop n ++ [(s : Int)]).drop 1 := by
      rw [← List.drop_drop, List.drop_append_of_le_length (by omega)]
    have hdl : (u.drop n).length = 2 * R := by simp; omega
    rw [e, num_shift, numW_snoc, hdl, Int.toNat_natCast]
    intro y hy
    rcases List.mem_append.1 hy with hy | hy
    · exact hu y (List.mem_of_mem_drop hy)
    · rw [List.mem_singleton] at hy; subst hy; omega

theorem fitP_congr {T M : List Int} {r1 W1 r2 W2 : Nat} (image : Int) (n s : Nat) (h : ∀ t, t < s + n → T.getD (r1 + t * W1) 0 = M.getD (r2 + t * W2) 0) : fitP T r1 W1 image n s = fitP M r2 W2 image n s := by
  induction n generalizing s with
  | zero => rfl
  | succ n ih => rw [fitP, fitP, h s (by omega), ih (s + 1) (fun t ht => h t (by omega))]

/-- The symbols to the left are those to the right by the mirrored rule, mirrored. -/
theorem left_mirror {K R : Nat} {T : List Int} (h : RuleOk K R T) (zs ys : List Int) (hz : Syms K zs) (hl : zs.length = 2 * R) :
    ∃ u, u.length = 2 * R ∧ Syms K u ∧ (leftS K T (numW K zs) ys).1 = numW K u ∧ rightN K (mirT K (2 * R + 1) T) (numW K zs.reverse) ys.reverse = numW K u.reverse ∧
      (leftS K T (numW K zs) ys).2 = (rightP K (mirT K (2 * R + 1) T) (numW K zs.reverse) ys.reverse).reverse := by
  have h1 := h.k1
  obtain ⟨hW, hlen⟩ := h.half
  have hMW : (mirT K (2 * R + 1) T).length / K = pw K (2 * R) := by rw [mirT_length]; exact hW
  induction ys with
  | nil => exact ⟨zs, hl, hz, rfl, rfl, rfl⟩
  | cons x w ih =>
    obtain ⟨u, hul, hu, e1, e2, e3⟩ := ih
    have hf : fit K T (numW K u) (T.length / K) x = fit K (mirT K (2 * R + 1) T) (numW K u.reverse * K) 1 x := by
      refine fitP_congr x K 0 fun t ht => ?_
      have hsy : Syms K (u.reverse ++ [(t : Int)]) := by
        intro y hy
        rcases List.mem_append.1 hy with hy | hy
        · exact hu y (List.mem_reverse.1 hy)
        · rw [List.mem_singleton] at hy; subst hy; omega
      have := mirT_at h1 h.len (u.reverse ++ [(t : Int)]) hsy (by simp [hul])
      rw [numW_snoc, Int.toNat_natCast, List.reverse_append, List.reverse_singleton, List.singleton_append, List.reverse_reverse, numW_cons, Int.toNat_natCast, hul] at this
      rw [hW, Nat.mul_one, this, Nat.add_comm]
    have hs := fit_lt h1 T (numW K u) (T.length / K) x
    have es : (leftS K T (numW K zs) (x :: w)) = ((fit K T (numW K u) (T.length / K) x * (T.length / K) + numW K u) / K, (fit K T (numW K u) (T.length / K) x : Int) :: (leftS K T (numW K zs) w).2) := by
      rw [leftS, e1]
    rw [es, List.reverse_cons, rightP_snoc, rightN_snoc, e2, ← hf, e3, hMW]
    rw [hW] at hf hs es ⊢
    generalize fit K T (numW K u) (pw K (2 * R)) x = s at *
    have hsu : Syms K ((s : Int) :: u) := by
      intro y hy
      rcases List.mem_cons.1 hy with rfl | hy
      · omega
      · exact hu y hy
    have hne : ((s : Int) :: u) ≠ [] := by simp
    have hcat := List.dropLast_concat_getLast hne
    have hv : Syms K ((s : Int) :: u).dropLast := fun y hy => hsu y (List.dropLast_subset _ hy)
    refine ⟨((s : Int) :: u).dropLast, by simp [hul], hv, ?_, ?_, ?_⟩
    · have e := numW_cons K s u
      rw [Int.toNat_natCast, hul] at e
      show (s * pw K (2 * R) + numW K u) / K = _
      rw [← e, ← hcat, numW_snoc, hcat, div_mk]
      have := hsu _ (List.getLast_mem hne)
      omega
    · have e : (u.reverse ++ [(s : Int)]).drop 1 = ((s : Int) :: u).dropLast.reverse := by
        rw [List.dropLast_eq_take, List.reverse_take]
        simp
      have hr : Syms K (u.reverse ++ [(s : Int)]) := by
        intro y hy
        apply hsu
        simpa [or_comm] using hy
      rw [← e, num_shift hr, numW_snoc, List.length_reverse, hul, Int.toNat_natCast]
    · simp
end Go.Proofs.YtmhiambkfdkkbaaDoor
