/-
  Slices whose elements are one cell each, of whatever type: read (ValsAt), owned (OwnV); append with the whole truth about where the new slice lies.
-/
import Derived.Test.YtmddapkhipmlgaaDoorPre
namespace Go.Proofs.YtmddapkhipmlgaaDoor
open Go.RowKit

/-- v is a slice that reads the values vs (one cell each). -/
def ValsAt (w : World) (v : Value) (vs : List Value) : Prop :=
  ∃ a cap, v = .slice a vs.length cap ∧ vs.length ≤ cap ∧ cap ≤ maxLen ∧ (a = none → cap = 0) ∧ ∀ i (h : i < vs.length), w.cell? (valAt v i) = some vs[i]

theorem IntsAt.vals {w : World} {v : Value} {xs : List Int} (h : IntsAt w v xs) : ValsAt w v (xs.map (Value.int .i64)) := by
  obtain ⟨a, cap, e, h1, h2, h3, h4⟩ := h
  exact ⟨a, cap, by simpa using e, by simpa using h1, h2, h3, fun i hi => by rw [h4 i (by simpa using hi)]; simp⟩

theorem ValsAt.cell {w : World} {v : Value} {vs : List Value} (h : ValsAt w v vs) (i : Nat) (hi : i < vs.length) : w.cell? (valAt v i) = some vs[i] := by
  obtain ⟨a, cap, e, h1, h2, h3, h4⟩ := h
  exact h4 i hi
theorem ValsAt.len_le {w : World} {v : Value} {vs : List Value} (h : ValsAt w v vs) : vs.length ≤ 9223372036854775807 := by
  obtain ⟨a, cap, rfl, h1, h2, _⟩ := h
  unfold maxLen at h2; omega
theorem ValsAt.blk {w : World} {v : Value} {vs : List Value} (h : ValsAt w v vs) (i : Nat) (hi : i < vs.length) : (valAt v i).block < w.heap.size :=
  World.block_lt_of_cell? _ _ (h.cell i hi)
theorem ValsAt.below {w w' : World} {v : Value} {vs : List Value} (h : ValsAt w v vs) (hb : Below w.heap.size w w') : ValsAt w' v vs := by
  have hk := h.blk
  obtain ⟨a, cap, e, h1, h2, h3, h4⟩ := h
  exact ⟨a, cap, e, h1, h2, h3, fun i hi => by rw [hb.cell (hk i hi)]; exact h4 i hi⟩
theorem ValsAt.cells_eq {w w' : World} {v : Value} {vs : List Value} (h : ValsAt w v vs) (hc : ∀ i, i < vs.length → w'.cell? (valAt v i) = w.cell? (valAt v i)) : ValsAt w' v vs := by
  obtain ⟨a, cap, e, h1, h2, h3, h4⟩ := h
  exact ⟨a, cap, e, h1, h2, h3, fun i hi => by rw [hc i hi]; exact h4 i hi⟩

/-- A slice type of one-cell elements. -/
structure OneCell (T E : TypeId) (z : Value) (bytes : Nat) : Prop where
  ht : Tryd.prog.underlying T = some (.slice E)
  hi : (Tryd.prog.info? E).map (fun i => (i.zero, i.size, i.bytes)) = some (some z, 1, bytes)
  hz : z.cells = #[z]
  hb : bytes ≤ 32
  hs : ∀ w, (sizeOf E).run Tryd.prog w = .ok 1 w

theorem oneInts : OneCell 22 3 (.int .i64 0) 8 := ⟨uInts, iInt, rfl, by decide, sInt⟩

theorem ValsAt.len {T E : TypeId} {z : Value} {b : Nat} (o : OneCell T E z b) {w : World} {v : Value} {vs : List Value} (h : ValsAt w v vs) (ty : TypeId) (w' : World) :
    (Builtin.len_ #[T] ty #[v]).run Tryd.prog w' = .ok (.int .i64 vs.length) w' := by
  obtain ⟨a, cap, rfl, h1, h2, h3, h4⟩ := h
  have e : Tryd.prog.elem T = E := by simp [Program.elem, o.ht]
  rw [run_len_slice _ _ _ _ _ _ (by rw [e]; exact o.ht)]
  rfl
theorem ValsAt.idx {T E : TypeId} {z : Value} {b : Nat} (o : OneCell T E z b) {w : World} {v : Value} {vs : List Value} (h : ValsAt w v vs) (i : Nat) (hi : i < vs.length) (w' : World) :
    (Instr.indexAt T v (.int .i64 i)).run Tryd.prog w' = .ok (.pointer (some (valAt v i))) w' := by
  obtain ⟨a, cap, rfl, h1, h2, h3, h4⟩ := h
  have e : Tryd.prog.elem T = E := by simp [Program.elem, o.ht]
  cases a with
  | none => have := h3 rfl; omega
  | some p =>
    rw [run_indexAt_slice _ _ _ _ _ _ _ (by rw [e]; exact o.ht), if_pos (by omega), e, o.hs]
    simp [valAt]

/-- v is a slice that this call made, from block B on; its spare room is its own, too. -/
def OwnV (E : TypeId) (B : Nat) (w : World) (v : Value) (vs : List Value) : Prop := w.ownsRow B E 1 v vs.length vs

theorem OwnI.toV {B : Nat} {w : World} {v : Value} {xs : List Int} (h : OwnI B w v xs) : OwnV 3 B w v (xs.map (Value.int .i64)) := by
  unfold OwnV; simpa [OwnI] using h
theorem OwnV.toI {B : Nat} {w : World} {v : Value} {xs : List Int} (h : OwnV 3 B w v (xs.map (Value.int .i64))) : OwnI B w v xs := by
  unfold OwnV at h; simpa [OwnI] using h

theorem OwnV.nil (E : TypeId) (B : Nat) (w : World) : OwnV E B w (.slice none 0 0) [] := World.ownsRow_nil w B _ 1
theorem OwnV.at {E : TypeId} {B : Nat} {w : World} {v : Value} {vs : List Value} (h : OwnV E B w v vs) : ValsAt w v vs := by
  rcases h.2 with ⟨rfl, hn⟩ | ⟨g, cap, cur, rfl, hb, hg, hn, hm, hs, ht⟩
  · obtain rfl := List.length_eq_zero_iff.1 hn
    exact ⟨none, 0, rfl, by simp, by simp, fun _ => rfl, by simp⟩
  · refine ⟨some ⟨g, 0, none⟩, cap, rfl, hn, hm, (by intro e; cases e), fun i hi => ?_⟩
    exact World.ownsRow.cells h (g := g) rfl i _ (by simp [hi])
theorem OwnV.mono {E : TypeId} {B B' : Nat} {w : World} {v : Value} {vs : List Value} (h : OwnV E B w v vs) (hB : B' ≤ B) : OwnV E B' w v vs := by
  refine ⟨h.1, ?_⟩
  rcases h.2 with h2 | ⟨g, cap, cur, e, hb, r⟩
  · exact .inl h2
  · exact .inr ⟨g, cap, cur, e, Nat.le_trans hB hb, r⟩
theorem OwnV.lt {E : TypeId} {B : Nat} {w : World} {v : Value} {vs : List Value} (h : OwnV E B w v vs) : ∀ k, v.ownBlock = some k → B ≤ k ∧ k < w.heap.size := World.ownsRow.lt h
theorem OwnV.frz {E : TypeId} {B : Nat} {w : World} {v : Value} {vs : List Value} (h : OwnV E B w v vs) (i : Nat) (hi : i < vs.length) : w.frozen? (valAt v i) = false := by
  rcases h.2 with ⟨rfl, hn⟩ | ⟨g, cap, cur, rfl, hb, hg, hn, hm, hs, ht⟩
  · omega
  · rw [valAt_row]; exact frozen_of_row w g i cur _ hg
theorem OwnV.blkB {E : TypeId} {B : Nat} {w : World} {v : Value} {vs : List Value} (h : OwnV E B w v vs) (i : Nat) (hi : i < vs.length) : v.ownBlock = some (valAt v i).block ∧ B ≤ (valAt v i).block := by
  rcases h.2 with ⟨rfl, hn⟩ | ⟨g, cap, cur, rfl, hb, hg, hn, hm, hs, ht⟩
  · omega
  · rw [valAt_row]; exact ⟨rfl, hb⟩
theorem OwnV.set {E : TypeId} {B : Nat} {w : World} {v : Value} {vs : List Value} (h : OwnV E B w v vs) (i : Nat) (hi : i < vs.length) (y : Value) :
    OwnV E B (w.setCell (valAt v i) y) v (vs.set i y) := by
  rcases h.2 with ⟨rfl, hn⟩ | ⟨g, cap, cur, rfl, hb, hg, hn, hm, hs, ht⟩
  · omega
  · rw [valAt_row]
    have := (World.ownsRow.stored h i y).1
    unfold OwnV
    rw [List.length_set]
    exact this
theorem OwnV.setGrown {E : TypeId} {B : Nat} {w : World} {v : Value} {vs : List Value} (h : OwnV E B w v vs) (i : Nat) (hi : i < vs.length) (y : Value) :
    w.grownBy (w.setCell (valAt v i) y) v.ownBlock := by
  have hb := (h.blkB i hi).1
  exact ⟨rfl, rfl, rfl, by simp [World.setCell], fun k _ hk => Below.heap_setCell _ _ _ _ (by rw [hb] at hk; simp at hk; omega)⟩
theorem OwnV.below {E : TypeId} {B : Nat} {w w' : World} {v : Value} {vs : List Value} (h : OwnV E B w v vs) (hb : Below w.heap.size w w') : OwnV E B w' v vs := by
  refine ⟨h.1, ?_⟩
  rcases h.2 with h2 | ⟨g, cap, cur, e, hB, hg, r⟩
  · exact .inl h2
  · refine .inr ⟨g, cap, cur, e, hB, ?_, r⟩
    rw [hb.block g (Array.getElem?_eq_some_iff.1 hg).1]; exact hg
theorem OwnV.kept {E : TypeId} {B : Nat} {w w' : World} {row : Option Nat} {v : Value} {vs : List Value} (h : OwnV E B w v vs) (hg : w.grownBy w' row) (hne : v.ownBlock = none ∨ v.ownBlock ≠ row) : OwnV E B w' v vs := World.ownsRow.kept h hg hne
theorem OwnV.alloc {E : TypeId} {B : Nat} {w : World} {v : Value} {vs : List Value} (h : OwnV E B w v vs) (o : Obj) : OwnV E B (w.alloc o) v vs := World.ownsRow.alloc h o
theorem OwnV.shape {E : TypeId} {B : Nat} {w : World} {v : Value} {vs : List Value} (h : OwnV E B w v vs) : ∃ a n c, v = .slice a n c := by
  obtain ⟨a, cap, e, _⟩ := h.at; exact ⟨_, _, _, e⟩

/-- A slice's array: where it begins, how much room it has. -/
def roomOf (v : Value) : Option Addr × Nat := match v with | .slice a _ c => (a, c) | _ => (none, 0)

/-- The front of an owned slice whose array another one shares. -/
theorem OwnV.front {E : TypeId} {B : Nat} {w w' : World} {v v' : Value} {xs ys : List Value} (h : OwnV E B w v xs) (h' : OwnV E B w' v' (xs ++ ys)) (hb : roomOf v' = roomOf v) : OwnV E B w' v xs := by
  rcases h.2 with ⟨rfl, hn⟩ | ⟨g, cap, cur, rfl, hB, hg, hn, hm, hs, ht⟩
  · obtain rfl := List.length_eq_zero_iff.1 hn
    exact OwnV.nil E B w'
  · rcases h'.2 with ⟨rfl, _⟩ | ⟨g', cap', cur', rfl, hB', hg', hn', hm', hs', ht'⟩
    · simp [roomOf] at hb
    · simp [roomOf] at hb
      obtain ⟨rfl, rfl⟩ := hb
      refine ⟨by simp, .inr ⟨g', cap', cur', rfl, hB', hg', hn, hm', hs', ?_⟩⟩
      have := congrArg (List.take xs.length) ht'
      rw [List.take_take, List.take_left'] at this
      · rw [Nat.mul_one] at this ⊢
        rwa [Nat.min_eq_left (by simp)] at this
      · rfl

theorem ownBlock_of_room {v v' : Value} {a n c a' n' c'} (hv : v = .slice a n c) (hv' : v' = .slice a' n' c') (h : roomOf v' = roomOf v) : v'.ownBlock = v.ownBlock := by
  subst hv hv'
  simp [roomOf] at h
  obtain ⟨rfl, rfl⟩ := h
  cases a' <;> rfl

/-- append, with the whole truth about where the new slice lies: in the old one's array, or in a new one, and then nothing that was there has changed. -/
theorem run_app {T E : TypeId} {z : Value} {b : Nat} (o : OneCell T E z b) (w : World) (B : Nat) (ty : TypeId) (v : Value) (xs : List Value) (hown : OwnV E B w v xs)
    (a : Addr) (c : Nat) (ys : List Value) (h0 : 0 < ys.length) (hys : ∀ j u, ys[j]? = some u → w.cell? (a.add j) = some u) (h1 : ∀ u ∈ ys, u.oneCell' = true)
    (hlen : xs.length + ys.length ≤ 4398046511104) (hB : B ≤ w.heap.size) :
    ∃ v' w', (Builtin.append_ #[T, T] ty #[v, .slice (some a) ys.length c]).run Tryd.prog w = .ok v' w' ∧ OwnV E B w' v' (xs ++ ys) ∧
      ((roomOf v' = roomOf v ∧ w.grownBy w' v.ownBlock) ∨ (v'.ownBlock = some w.heap.size ∧ w.grownBy w' none)) := by
  obtain ⟨i, hi, hz0, hz1, hz2⟩ := info_parts o.hi
  have hb := o.hb
  have hl1 : (xs ++ ys).length = (xs.length + ys.length) * 1 := by simp
  have big : ∀ (old : Nat), old < xs.length + ys.length →
      OwnV E B (w.drew.alloc (.cells (xs.toArray ++ ys.toArray ++ Builtin.zeroCells z.cells (grownCap w (xs.length + ys.length) old E - (xs.length + ys.length))) E)) (.slice (some ⟨w.heap.size, 0, none⟩) (xs.length + ys.length) (grownCap w (xs.length + ys.length) old E)) (xs ++ ys) := by
    intro old ho
    have hge := grownCap_ge w (xs.length + ys.length) old E
    have hcm : grownCap w (xs.length + ys.length) old E ≤ maxLen := grownCap_le_maxLen w _ old E (by unfold maxLen; omega)
    refine ⟨by simp, .inr ⟨w.heap.size, _, _, by simp, hB, heap_alloc_new w.drew _, by simpa using hge, hcm, ?_, ?_⟩⟩
    · simp only [Array.size_append, List.size_toArray, size_zeroCells, o.hz]
      simp
      omega
    · simp only [Array.toList_append, Nat.mul_one, List.length_append]
      exact List.take_left' (by simp)
  have grw : ∀ (oo : Obj), w.grownBy (w.drew.alloc oo) none := fun oo => ⟨rfl, rfl, rfl, by simp, fun k hk _ => Below.heap_alloc w.drew oo k hk⟩
  rcases hown.2 with ⟨rfl, hn⟩ | ⟨g, cap, cur, rfl, hbg, hg, hnc, hcm, hcs, htake⟩
  · obtain rfl := List.length_eq_zero_iff.1 hn
    have hr := run_append_nil (P := Tryd.prog) w T ty E i z o.ht hi hz0 a ys.length c ys (by rw [hz1]; simp) hys h0 (by simp at hlen; omega) (by
      rw [hz2]
      simp only [List.length_nil, Nat.zero_add] at hlen
      calc ys.length * b ≤ 4398046511104 * 32 := Nat.mul_le_mul hlen hb
        _ ≤ _ := by decide)
    have hbg := big 0 (by simpa using h0)
    simp only [List.length_nil, Nat.zero_add, List.nil_append, Array.empty_append] at hbg
    exact ⟨_, _, hr, by simpa using hbg, .inr ⟨rfl, grw _⟩⟩
  · by_cases hroom : xs.length + ys.length ≤ cap
    · have hr := run_append_room (P := Tryd.prog) w T ty E i o.ht hi g xs.length cap cur hg a ys.length c ys (by rw [hz1]; simp) hys h1 hroom (by rw [hz1, hcs]; omega)
      refine ⟨_, _, hr, ⟨by simp, .inr ⟨g, cap, _, by simp, hbg, setRow_heap w g cur _ E _ hg, by simpa using hroom, hcm, ?_, ?_⟩⟩, .inl ⟨rfl, ⟨rfl, rfl, rfl, by simp, fun k _ hk => setRow_other w g k _ (fun e => hk (by simp [Value.ownBlock, e]))⟩⟩⟩
      · simp only [List.size_toArray, List.length_append, List.length_take, List.length_drop, Array.length_toList, hz1]
        omega
      · rw [hz1, htake]
        simp only [Nat.mul_one, List.length_append]
        exact List.take_left' (by simp)
    · have holds : ∀ j u, xs[j]? = some u → w.cell? ((⟨g, 0, none⟩ : Addr).add j) = some u := World.ownsRow.cells hown (g := g) rfl
      have hr := run_append_grow (P := Tryd.prog) w T ty E i z o.ht hi hz0 ⟨g, 0, none⟩ xs.length cap xs (by rw [hz1]; simp) holds a ys.length c ys (by rw [hz1]; simp) hys (by omega) (by omega) (by
        rw [hz2]
        exact growslice_fits (by omega) (by
          calc (xs.length + ys.length) * b ≤ 4398046511104 * 32 := Nat.mul_le_mul hlen hb
            _ ≤ _ := by decide))
      exact ⟨_, _, hr, big cap (by omega), .inr ⟨rfl, grw _⟩⟩

/-- append(s, y) of one int, the whole truth. -/
theorem wpl_app1 {w : World} {ops : Array Oper} {rest : List Oper} {o : Oper} {a : Act} {Q : Exit → Act → World → Prop} (hgd : o.guard = none) (s x : Operand)
    (ho : o.op = .call { callee := .builtin .append, args := #[s, x], argTypes := #[22, 22] })
    (B : Nat) (v : Value) (xs : List Int) (y : Int) (hown : OwnI B w v xs) (hs : a.eval s = v) (hx : a.eval x = .slice (some ⟨w.heap.size, 0, none⟩) 1 1)
    (hlen : xs.length < 4398046511104) (hB : B ≤ w.heap.size)
    (h : ∀ v' w', OwnI B w' v' (xs ++ [y]) → Below B w w' → ((roomOf v' = roomOf v ∧ w.grownBy w' v.ownBlock) ∨ (∃ k, v'.ownBlock = some k ∧ w.heap.size ≤ k ∧ w.grownBy w' none)) → wpList Tryd.prog ops Q rest (a.put o.dst v') w') :
    wpList Tryd.prog ops Q (o :: rest) a (w.alloc (.cells #[.int .i64 y] 3)) := by
  refine wpList_plain hgd fun K hK => ?_
  obtain ⟨v', w', hr, h2, h3⟩ := run_app oneInts (w.alloc (.cells #[.int .i64 y] 3)) B o.type v _ (hown.alloc _).toV ⟨w.heap.size, 0, none⟩ 1 [.int .i64 y] (by simp) (cell_one_new _ _ _) (by simp [Value.oneCell']) (by simp; omega) (by simp; omega)
  unfold Oper.wp execOp
  simp only [ho, resolve, invoke, builtin, Sem.run_bind, Sem.run_pure, Result.andThen_ok, List.map_toArray, List.map_cons, List.map_nil, hs, hx]
  rw [show ([.int .i64 y] : List Value).length = 1 from rfl] at hr
  rw [hr]
  have hal : ∀ row, w.grownBy (w.alloc (.cells #[.int .i64 y] 3)) row := fun row => World.grownBy_alloc w _ row
  have ho' : OwnI B w' v' (xs ++ [y]) := OwnV.toI (by simpa using h2)
  rcases h3 with ⟨hroom, hg⟩ | ⟨hk, hg⟩
  · have hg2 := (hal v.ownBlock).trans hg
    exact hK _ _ (h v' w' ho' ((Below.refl _ _).grown hg2 hB (fun k hk => (hown.lt k hk).1)) (.inl ⟨hroom, hg2⟩))
  · have hg2 := (hal none).trans hg
    exact hK _ _ (h v' w' ho' ((Below.refl _ _).grown hg2 hB (by intro k hk; cases hk)) (.inr ⟨_, hk, by simp, hg2⟩))

theorem oneLists : OneCell 41 22 (.slice none 0 0) 24 := ⟨by kernel_rfl, by kernel_rfl, rfl, by decide, fun _ => by kernel_rfl⟩

/-- make([]T, n). -/
theorem wpl_makeV {T E : TypeId} {z : Value} {b : Nat} (oc : OneCell T E z b) {w : World} {ops : Array Oper} {rest : List Oper} {o : Oper} {a : Act} {Q : Exit → Act → World → Prop}
    (hg : o.guard = none) (l c : Operand) (hop : o.op = Op.makeSlice T l c) (C : Int) (hl : a.eval l = .int .i64 C) (hc : a.eval c = .int .i64 C)
    (h0 : 0 ≤ C) (hC : C ≤ 4398046511104)
    (hK : ∀ v w', OwnV E w.heap.size w' v (List.replicate C.toNat z) → w.grownBy w' none → wpList Tryd.prog ops Q rest (a.put o.dst v) w') :
    wpList Tryd.prog ops Q (o :: rest) a w := by
  obtain ⟨i, hi, hz0, hz1, hz2⟩ := info_parts oc.hi
  obtain ⟨n, rfl⟩ := Int.eq_ofNat_of_zero_le h0
  have hb := oc.hb
  refine wpList_make_full w hg l c T hop w.heap.size E i z 1 oc.ht hi hz0 hz1 .i64 .i64 n n n hl hc rfl rfl (by
    rw [hz2]
    calc b * n ≤ 32 * 4398046511104 := Nat.mul_le_mul hb (by omega)
      _ ≤ _ := by decide) (by unfold maxLen; omega) (Nat.le_refl _) ?_
  intro w' hown hgrow
  refine hK _ _ ?_ hgrow
  rw [oc.hz, toList_madeCells_one] at hown
  simpa [OwnV] using hown
end Go.Proofs.YtmddapkhipmlgaaDoor
