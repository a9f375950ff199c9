/-
  What a slice of ints is in memory, read and owned; laws for make, append, store over such slices. Values stay opaque: the walk gets run equations.
-/
import Derived.Test.YtmddapkhipmlgaaDoorProg
import Derived.KernelRfl
import Derived.WalkKit
import Derived.WalkSpells
import Derived.WalkLawsBesides
import Derived.Lib.Hide
import Derived.Maps.AppendAt
namespace Go.Proofs.YtmddapkhipmlgaaDoor
open Go.RowKit

/-- The address of element i of a slice value. -/
def valAt (v : Value) (i : Nat) : Addr := match v with | .slice (some p) _ _ => p.add i | _ => default

/-- v is a []int that reads xs. -/
def IntsAt (w : World) (v : Value) (xs : List Int) : Prop :=
  ∃ a cap, v = .slice a xs.length cap ∧ xs.length ≤ cap ∧ cap ≤ maxLen ∧ (a = none → cap = 0) ∧ ∀ i (h : i < xs.length), w.cell? (valAt v i) = some (.int .i64 xs[i])

theorem IntsAt.len_le {w : World} {v : Value} {xs : List Int} (h : IntsAt w v xs) : xs.length ≤ 9223372036854775807 := by
  obtain ⟨a, cap, rfl, h1, h2, _⟩ := h
  unfold maxLen at h2; omega

theorem uInts : Tryd.prog.underlying 22 = some (.slice 3) := by kernel_rfl
theorem iInt : (Tryd.prog.info? 3).map (fun i => (i.zero, i.size, i.bytes)) = some (some (.int .i64 0), 1, 8) := by kernel_rfl
theorem eInts : Tryd.prog.elem 22 = 3 := by kernel_rfl
theorem uIntsE : Tryd.prog.underlying 22 = some (.slice (Tryd.prog.elem 22)) := by rw [eInts]; exact uInts
theorem sInt (w : World) : (sizeOf 3).run Tryd.prog w = .ok 1 w := by kernel_rfl

theorem IntsAt.len {w : World} {v : Value} {xs : List Int} (h : IntsAt w v xs) (w' : World) :
    (Builtin.len_ #[22] 3 #[v]).run Tryd.prog w' = .ok (.int .i64 xs.length) w' := by
  obtain ⟨a, cap, rfl, h1, h2, h3, h4⟩ := h
  rw [run_len_slice _ _ _ _ _ _ uIntsE]
  rfl

theorem IntsAt.idx {w : World} {v : Value} {xs : List Int} (h : IntsAt w v xs) (i : Nat) (hi : i < xs.length) (w' : World) :
    (Instr.indexAt 22 v (.int .i64 i)).run Tryd.prog w' = .ok (.pointer (some (valAt v i))) w' := by
  obtain ⟨a, cap, rfl, h1, h2, h3, h4⟩ := h
  cases a with
  | none => have := h3 rfl; omega
  | some p =>
    rw [run_indexAt_slice _ _ _ _ _ _ _ uIntsE, if_pos (by omega), eInts, sInt]
    simp [valAt]

/-- The same at an index that is an integer expression. -/
theorem IntsAt.idxI {w : World} {v : Value} {xs : List Int} (h : IntsAt w v xs) (i : Int) (h0 : 0 ≤ i) (hi : i < xs.length) (w' : World) :
    (Instr.indexAt 22 v (.int .i64 i)).run Tryd.prog w' = .ok (.pointer (some (valAt v i.toNat))) w' := by
  have := h.idx i.toNat (by omega) w'
  rwa [Int.toNat_of_nonneg h0] at this

theorem IntsAt.cell {w : World} {v : Value} {xs : List Int} (h : IntsAt w v xs) (i : Nat) (hi : i < xs.length) :
    w.cell? (valAt v i) = some (.int .i64 xs[i]) := by
  obtain ⟨a, cap, rfl, h1, h2, h3, h4⟩ := h
  exact h4 i hi

theorem IntsAt.cellD {w : World} {v : Value} {xs : List Int} (h : IntsAt w v xs) (i : Nat) (hi : i < xs.length) :
    w.cell? (valAt v i) = some (.int .i64 (xs.getD i 0)) := by
  rw [h.cell i hi]; simp [List.getD, hi]

theorem IntsAt.blk {w : World} {v : Value} {xs : List Int} (h : IntsAt w v xs) (i : Nat) (hi : i < xs.length) : (valAt v i).block < w.heap.size :=
  World.block_lt_of_cell? _ _ (h.cell i hi)

theorem IntsAt.below {w w' : World} {v : Value} {xs : List Int} (h : IntsAt w v xs) (hb : Below w.heap.size w w') : IntsAt w' v xs := by
  have hk := h.blk
  obtain ⟨a, cap, e, h1, h2, h3, h4⟩ := h
  exact ⟨a, cap, e, h1, h2, h3, fun i hi => by rw [hb.cell (hk i hi)]; exact h4 i hi⟩

theorem IntsAt.cells_eq {w w' : World} {v : Value} {xs : List Int} (h : IntsAt w v xs) (hc : ∀ i, i < xs.length → w'.cell? (valAt v i) = w.cell? (valAt v i)) : IntsAt w' v xs := by
  obtain ⟨a, cap, e, h1, h2, h3, h4⟩ := h
  exact ⟨a, cap, e, h1, h2, h3, fun i hi => by rw [hc i hi]; exact h4 i hi⟩

/-- Two readings of one value are one. -/
theorem IntsAt.uniq {w : World} {v : Value} {xs ys : List Int} (h : IntsAt w v xs) (k : IntsAt w v ys) : xs = ys := by
  have e : xs.length = ys.length := by
    obtain ⟨a, cap, e, _⟩ := h
    obtain ⟨b, cap', e', _⟩ := k
    rw [e] at e'; injection e'
  refine List.ext_getElem e fun i h1 h2 => ?_
  have c1 := h.cell i h1
  rw [k.cell i h2] at c1
  simpa using c1.symm

/-- v is a []int that this call made, from block B on; its spare room is its own, too. -/
def OwnI (B : Nat) (w : World) (v : Value) (xs : List Int) : Prop := w.ownsRow B 3 1 v xs.length (xs.map (Value.int .i64))

theorem OwnI.nil (B : Nat) (w : World) : OwnI B w (.slice none 0 0) [] := World.ownsRow_nil w B _ 1

theorem OwnI.at {B : Nat} {w : World} {v : Value} {xs : List Int} (h : OwnI B w v xs) : IntsAt w v xs := by
  rcases h.2 with ⟨rfl, hn⟩ | ⟨g, cap, cur, rfl, hb, hg, hn, hm, hs, ht⟩
  · obtain rfl := List.length_eq_zero_iff.1 hn
    exact ⟨none, 0, rfl, by simp, by simp, fun _ => rfl, by simp⟩
  · refine ⟨some ⟨g, 0, none⟩, cap, rfl, hn, hm, (by intro e; cases e), fun i hi => ?_⟩
    exact World.ownsRow.cells h (g := g) rfl i _ (by simp [hi])

theorem OwnI.mono {B B' : Nat} {w : World} {v : Value} {xs : List Int} (h : OwnI B w v xs) (hB : B' ≤ B) : OwnI B' w v xs := by
  refine ⟨h.1, ?_⟩
  rcases h.2 with h2 | ⟨g, cap, cur, e, hb, r⟩
  · exact .inl h2
  · exact .inr ⟨g, cap, cur, e, Nat.le_trans hB hb, r⟩

theorem OwnI.lt {B : Nat} {w : World} {v : Value} {xs : List Int} (h : OwnI B w v xs) : ∀ k, v.ownBlock = some k → B ≤ k ∧ k < w.heap.size := World.ownsRow.lt h

theorem valAt_row (g i n cap : Nat) : valAt (.slice (some ⟨g, 0, none⟩) n cap) i = ⟨g, i, none⟩ := by
  show (⟨g, 0, none⟩ : Addr).add i = _
  unfold Addr.add; split <;> simp_all

theorem OwnI.frz {B : Nat} {w : World} {v : Value} {xs : List Int} (h : OwnI B w v xs) (i : Nat) (hi : i < xs.length) : w.frozen? (valAt v i) = false := by
  rcases h.2 with ⟨rfl, hn⟩ | ⟨g, cap, cur, rfl, hb, hg, hn, hm, hs, ht⟩
  · omega
  · rw [valAt_row]
    exact frozen_of_row w g i cur _ hg

theorem OwnI.blkB {B : Nat} {w : World} {v : Value} {xs : List Int} (h : OwnI B w v xs) (i : Nat) (hi : i < xs.length) : B ≤ (valAt v i).block := by
  rcases h.2 with ⟨rfl, hn⟩ | ⟨g, cap, cur, rfl, hb, hg, hn, hm, hs, ht⟩
  · omega
  · rw [valAt_row]; exact hb

/-- A store into an owned slice. -/
theorem OwnI.set {B : Nat} {w : World} {v : Value} {xs : List Int} (h : OwnI B w v xs) (i : Nat) (hi : i < xs.length) (y : Int) :
    OwnI B (w.setCell (valAt v i) (.int .i64 y)) v (xs.set i y) := by
  rcases h.2 with ⟨rfl, hn⟩ | ⟨g, cap, cur, rfl, hb, hg, hn, hm, hs, ht⟩
  · omega
  · rw [valAt_row]
    have := (World.ownsRow.stored h i (.int .i64 y)).1
    unfold OwnI
    rw [List.map_set, List.length_set]
    exact this

theorem OwnI.setBelow {B : Nat} {w0 w : World} {v : Value} {xs : List Int} (h : OwnI B w v xs) (hb : Below B w0 w) (i : Nat) (hi : i < xs.length) (y : Value) :
    Below B w0 (w.setCell (valAt v i) y) := hb.setCell (h.blkB i hi) y

theorem OwnI.below {B : Nat} {w w' : World} {v : Value} {xs : List Int} (h : OwnI B w v xs) (hb : Below w.heap.size w w') : OwnI B w' v xs := by
  refine ⟨h.1, ?_⟩
  rcases h.2 with h2 | ⟨g, cap, cur, e, hB, hg, r⟩
  · exact .inl h2
  · refine .inr ⟨g, cap, cur, e, hB, ?_, r⟩
    rw [hb.block g (Array.getElem?_eq_some_iff.1 hg).1]; exact hg

theorem OwnI.alloc {B : Nat} {w : World} {v : Value} {xs : List Int} (h : OwnI B w v xs) (o : Obj) : OwnI B (w.alloc o) v xs := World.ownsRow.alloc h o
theorem OwnI.drew {B : Nat} {w : World} {v : Value} {xs : List Int} (h : OwnI B w v xs) : OwnI B w.drew v xs := h
theorem OwnI.drewN {B : Nat} {w : World} {v : Value} {xs : List Int} (h : OwnI B w v xs) (n : Nat) : OwnI B (w.drewN n) v xs := h
theorem IntsAt.drew {w : World} {v : Value} {xs : List Int} (h : IntsAt w v xs) : IntsAt w.drew v xs := h
theorem IntsAt.drewN {w : World} {v : Value} {xs : List Int} (h : IntsAt w v xs) (n : Nat) : IntsAt (w.drewN n) v xs := h

/-- Another owned slice is not touched by a store, an append into one. -/
theorem OwnI.kept {B : Nat} {w w' : World} {row : Option Nat} {v : Value} {xs : List Int} (h : OwnI B w v xs) (hg : w.grownBy w' row) (hne : v.ownBlock = none ∨ v.ownBlock ≠ row) : OwnI B w' v xs := World.ownsRow.kept h hg hne
theorem OwnI.setOther {B B' : Nat} {w : World} {v u : Value} {xs ys : List Int} (h : OwnI B w v xs) (k : OwnI B' w u ys) (hne : v.ownBlock ≠ u.ownBlock) (i : Nat) (hi : i < ys.length) (y : Value) :
    OwnI B (w.setCell (valAt u i) y) v xs := by
  rcases k.2 with ⟨rfl, hn⟩ | ⟨g, cap, cur, rfl, hb, hg, hn, hm, hs, ht⟩
  · omega
  · rw [valAt_row]
    exact h.kept (row := some g) ⟨rfl, rfl, rfl, by simp [World.setCell], fun j _ hj => Below.heap_setCell _ _ _ _ (by simp at hj; omega)⟩ (.inr (by simpa [Value.ownBlock] using hne))

/-- A literal of ints. -/
theorem OwnI.lit (B : Nat) (w : World) (hB : B ≤ w.heap.size) (xs : List Int) (hm : xs.length ≤ maxLen) (cs : Array Value) (hc : cs.toList = xs.map (Value.int .i64)) (n : Nat) (hn : n = xs.length) :
    OwnI B (w.alloc (.cells cs 3)) (.slice (some ⟨w.heap.size, 0, none⟩) n n) xs := by
  subst hn
  have hs : cs.size = xs.length * 1 := by rw [← Array.length_toList, hc]; simp
  have := World.ownsRow_lit (base := B) (e := 3) (size := 1) w cs xs.length hB hm hs
  unfold OwnI
  rw [← hc]; exact this

/-- make([]int, 0, c). -/
theorem wpl_make0 {w : World} {ops : Array Oper} {rest : List Oper} {o : Oper} {a : Act} {Q : Exit → Act → World → Prop}
    (hg : o.guard = none) (l c : Operand) (hop : o.op = Op.makeSlice 22 l c) (C : Int) (hl : a.eval l = .int .i64 0) (hc : a.eval c = .int .i64 C)
    (h0 : 0 ≤ C) (hC : C ≤ 17592186044416)
    (hK : ∀ v w', OwnI w.heap.size w' v [] → Below w.heap.size w w' → wpList Tryd.prog ops Q rest (a.put o.dst v) w') :
    wpList Tryd.prog ops Q (o :: rest) a w := by
  obtain ⟨i, hi, hz0, hz1, hz2⟩ := info_parts iInt
  obtain ⟨n, rfl⟩ := Int.eq_ofNat_of_zero_le h0
  refine wpList_make_own w hg l c 22 hop w.heap.size 3 i (.int .i64 0) 1 uInts hi hz0 hz1 .i64 .i64 n n hl hc rfl (by rw [hz2]; omega) (by unfold maxLen; omega) (Nat.le_refl _) ?_
  intro w' hown hgrow
  exact hK _ _ hown ((Below.refl _ _).grown hgrow (Nat.le_refl _) (by intro k hk; cases hk))

/-- make([]int, n). -/
theorem wpl_make {w : World} {ops : Array Oper} {rest : List Oper} {o : Oper} {a : Act} {Q : Exit → Act → World → Prop}
    (hg : o.guard = none) (l c : Operand) (hop : o.op = Op.makeSlice 22 l c) (C : Int) (hl : a.eval l = .int .i64 C) (hc : a.eval c = .int .i64 C)
    (h0 : 0 ≤ C) (hC : C ≤ 17592186044416)
    (hK : ∀ v w', OwnI w.heap.size w' v (List.replicate C.toNat 0) → Below w.heap.size w w' → wpList Tryd.prog ops Q rest (a.put o.dst v) w') :
    wpList Tryd.prog ops Q (o :: rest) a w := by
  obtain ⟨i, hi, hz0, hz1, hz2⟩ := info_parts iInt
  obtain ⟨n, rfl⟩ := Int.eq_ofNat_of_zero_le h0
  refine wpList_make_full w hg l c 22 hop w.heap.size 3 i (.int .i64 0) 1 uInts hi hz0 hz1 .i64 .i64 n n n hl hc rfl rfl (by rw [hz2]; omega) (by unfold maxLen; omega) (Nat.le_refl _) ?_
  intro w' hown hgrow
  refine hK _ _ ?_ ((Below.refl _ _).grown hgrow (Nat.le_refl _) (by intro k hk; cases hk))
  have e : (madeCells (Value.cells (.int .i64 0)) (n * 1)).toList = (List.replicate n (0 : Int)).map (Value.int .i64) := by
    rw [show Value.cells (.int .i64 0) = #[.int .i64 0] from rfl, toList_madeCells_one]; simp
  rw [e] at hown
  simpa [OwnI] using hown

/-- append(s, y): the one-element slice was just laid. -/
theorem wpl_append1 {w : World} {ops : Array Oper} {rest : List Oper} {o : Oper} {a : Act} {Q : Exit → Act → World → Prop} (hgd : o.guard = none) (s x : Operand)
    (ho : o.op = .call { callee := .builtin .append, args := #[s, x], argTypes := #[22, 22] })
    (B : Nat) (v : Value) (xs : List Int) (y : Int) (hown : OwnI B w v xs) (hs : a.eval s = v) (hx : a.eval x = .slice (some ⟨w.heap.size, 0, none⟩) 1 1)
    (hlen : xs.length < 17592186044415) (hB : B ≤ w.heap.size)
    (h : ∀ v' w', OwnI B w' v' (xs ++ [y]) → Below B w w' → w.grownBy w' v.ownBlock → (v'.ownBlock = v.ownBlock ∨ ∃ k, v'.ownBlock = some k ∧ w.heap.size ≤ k) → wpList Tryd.prog ops Q rest (a.put o.dst v') w') :
    wpList Tryd.prog ops Q (o :: rest) a (w.alloc (.cells #[.int .i64 y] 3)) := by
  obtain ⟨i, hi, hz0, hz1, hz2⟩ := info_parts iInt
  have hown' := hown.alloc (.cells #[.int .i64 y] 3)
  refine wpList_append_own_at _ hgd s x 22 ho B 3 i (.int .i64 0) 1 8 uInts hi hz0 hz1 hz2 rfl (by decide) v xs.length _ hs hown' _ 1 1 [.int .i64 y] hx rfl (cell_one_new _ _ _) (by simp [Value.oneCell']) (by unfold maxLen; omega) (by omega) (by simp; omega) ?_
  intro v' w' ho' hgr _ hat
  have hg2 : w.grownBy w' v.ownBlock := (World.grownBy_alloc w _ _).trans hgr
  refine h v' w' (by simpa [OwnI] using ho') ((Below.refl _ _).grown hg2 hB (fun k hk => (hown.lt k hk).1)) hg2 ?_
  rcases hat with hat | hat
  · exact .inl hat
  · exact .inr ⟨_, hat, by simp⟩

/-- append(s, t...), t read anywhere. -/
theorem wpl_append {w : World} {ops : Array Oper} {rest : List Oper} {o : Oper} {a : Act} {Q : Exit → Act → World → Prop} (hgd : o.guard = none) (s x : Operand)
    (ho : o.op = .call { callee := .builtin .append, args := #[s, x], argTypes := #[22, 22] })
    (B : Nat) (v u : Value) (xs ys : List Int) (hown : OwnI B w v xs) (hu : IntsAt w u ys) (hs : a.eval s = v) (hx : a.eval x = u)
    (hlen : xs.length + ys.length ≤ 17592186044416) (hB : B ≤ w.heap.size)
    (h : ∀ v' w', OwnI B w' v' (xs ++ ys) → Below B w w' → w.grownBy w' v.ownBlock → (v'.ownBlock = v.ownBlock ∨ ∃ k, v'.ownBlock = some k ∧ w.heap.size ≤ k) → wpList Tryd.prog ops Q rest (a.put o.dst v') w') :
    wpList Tryd.prog ops Q (o :: rest) a w := by
  obtain ⟨i, hi, hz0, hz1, hz2⟩ := info_parts iInt
  have hu' := hu
  obtain ⟨ao, cap, rfl, h1, h2, h3, h4⟩ := hu
  cases ao with
  | none =>
    obtain rfl := h3 rfl
    have hy : ys = [] := List.length_eq_zero_iff.1 (by omega)
    subst hy
    refine wpList_plain hgd fun K hK => ?_
    have hrun := run_append_owned_none (P := Tryd.prog) w B 22 o.type 3 i 1 uInts hi v xs.length _ hown
    unfold Oper.wp execOp
    simp only [ho, resolve, invoke, builtin, Sem.run_bind, Sem.run_pure, Result.andThen_ok, List.map_toArray, List.map_cons, List.map_nil, hs, hx]
    rw [show (Value.slice none ([] : List Int).length 0) = .slice none 0 0 from rfl, hrun]
    exact hK _ _ (h v w (by simpa using hown) (Below.refl _ _) (World.grownBy.refl _ _) (.inl rfl))
  | some p =>
    refine wpList_append_own_at _ hgd s x 22 ho B 3 i (.int .i64 0) 1 8 uInts hi hz0 hz1 hz2 rfl (by decide) v xs.length _ hs hown p ys.length cap (ys.map (.int .i64)) hx (by simp) ?_ (ints_oneCell _ _) (by unfold maxLen; omega) (by omega) hB ?_
    · intro j u hj
      have hjl : j < ys.length := by have := (List.getElem?_eq_some_iff.1 hj).1; simpa using this
      have := h4 j hjl
      simp only [valAt] at this
      rw [this, ← hj]; simp [hjl]
    · intro v' w' ho' hgr _ hat
      refine h v' w' (by simpa [OwnI] using ho') ((Below.refl _ _).grown hgr hB (fun k hk => (hown.lt k hk).1)) hgr ?_
      rcases hat with hat | hat
      · exact .inl hat
      · exact .inr ⟨_, hat, Nat.le_refl _⟩

theorem IntsAt.shape {w : World} {v : Value} {xs : List Int} (h : IntsAt w v xs) : ∃ a n c, v = .slice a n c := by
  obtain ⟨a, cap, e, _⟩ := h; exact ⟨_, _, _, e⟩

theorem OwnI.setBelowBase {B : Nat} {w : World} {v : Value} {xs : List Int} (h : OwnI B w v xs) {a : Addr} (ha : a.block < B) (u : Value) : OwnI B (w.setCell a u) v xs := ownsRow_setCell_below h ha u

/-- Three cells in a block of the call's own stay while others work. -/
theorem cells3 {w w' : World} {a b c : Value} {T : TypeId} (hb : Below (w.alloc (.cells #[a, b, c] T)).heap.size (w.alloc (.cells #[a, b, c] T)) w') :
    w'.cell? ⟨w.heap.size, 0, none⟩ = some a ∧ w'.cell? ⟨w.heap.size, 1, none⟩ = some b ∧ w'.cell? ⟨w.heap.size, 2, none⟩ = some c ∧
    w'.frozen? ⟨w.heap.size, 0, none⟩ = false ∧ w'.frozen? ⟨w.heap.size, 1, none⟩ = false ∧ w'.frozen? ⟨w.heap.size, 2, none⟩ = false := by
  refine ⟨?_, ?_, ?_, ?_, ?_, ?_⟩
  · rw [hb.cell (by simp)]; simp
  · rw [hb.cell (by simp)]; simp
  · rw [hb.cell (by simp)]; simp
  · rw [hb.frozen (by simp)]; simp
  · rw [hb.frozen (by simp)]; simp
  · rw [hb.frozen (by simp)]; simp

/-- A store of what is there already. -/
theorem setCell_self {w : World} {a : Addr} {u : Value} (h : w.cell? a = some u) : w.setCell a u = w := by
  have hh : (w.setCell a u).heap = w.heap := by
    simp only [World.setCell]
    apply Array.ext_getElem?
    intro i
    rw [Array.getElem?_modify]
    split
    · rename_i e
      subst e
      unfold World.cell? at h
      cases hx : w.heap[a.block]? with
      | none => rfl
      | some o =>
        rw [hx] at h
        cases o with
        | cells c el fz =>
          simp only at h
          split at h
          · cases h
          · rename_i hs
            simp only [Option.map_some, hs]
            congr 2
            apply Array.ext_getElem?
            intro j
            simp only [Bool.false_eq_true, if_false]
            rw [Array.getElem?_setIfInBounds]
            split
            · rename_i e; subst e
              obtain ⟨hl, he⟩ := Array.getElem?_eq_some_iff.1 h
              rw [if_pos hl, h]
            · rfl
        | _ => rfl
    · rfl
  have e : w.setCell a u = { w with heap := (w.setCell a u).heap } := rfl
  rw [e, hh]

theorem setCell_self3 {w : World} {b : Nat} {x y z : Value} (h0 : w.cell? ⟨b, 0, none⟩ = some x) (h1 : w.cell? ⟨b, 1, none⟩ = some y) (h2 : w.cell? ⟨b, 2, none⟩ = some z) :
    ((w.setCell ⟨b, 0, none⟩ x).setCell ⟨b, 1, none⟩ y).setCell ⟨b, 2, none⟩ z = w := by
  rw [setCell_self h0, setCell_self h1, setCell_self h2]

theorem keep3 {w w' : World} {n : Nat} {a b c : Value} (hb : Below w.heap.size w w') (h : w.cell? ⟨n, 0, none⟩ = some a ∧ w.cell? ⟨n, 1, none⟩ = some b ∧ w.cell? ⟨n, 2, none⟩ = some c) :
    w'.cell? ⟨n, 0, none⟩ = some a ∧ w'.cell? ⟨n, 1, none⟩ = some b ∧ w'.cell? ⟨n, 2, none⟩ = some c := by
  obtain ⟨h0, h1, h2⟩ := h
  have hn := World.block_lt_of_cell? _ _ h0
  exact ⟨(hb.cell (p := ⟨n, 0, none⟩) hn).trans h0, (hb.cell (p := ⟨n, 1, none⟩) hn).trans h1, (hb.cell (p := ⟨n, 2, none⟩) hn).trans h2⟩

/-- A field of a rule that is a value. -/
theorem field_K (k R : Int) (a : Option Addr) (n c : Nat) (w : World) : (Instr.field 24 (.agg #[.int .i64 k, .int .i64 R, .slice a n c]) 0).run Tryd.prog w = .ok (.int .i64 k) w := by kernel_rfl
theorem field_R (k R : Int) (a : Option Addr) (n c : Nat) (w : World) : (Instr.field 24 (.agg #[.int .i64 k, .int .i64 R, .slice a n c]) 1).run Tryd.prog w = .ok (.int .i64 R) w := by kernel_rfl
theorem field_T (k R : Int) (a : Option Addr) (n c : Nat) (w : World) : (Instr.field 24 (.agg #[.int .i64 k, .int .i64 R, .slice a n c]) 2).run Tryd.prog w = .ok (.slice a n c) w := by kernel_rfl

theorem wrap64_id {x : Int} (h1 : -9223372036854775808 ≤ x) (h2 : x < 9223372036854775808) : wrap64 x = x := by unfold wrap64; omega
theorem tmod_id {x k : Int} (h : 0 ≤ x) : x.tmod k = x % k := Int.tmod_eq_emod_of_nonneg h
theorem wrapK {x : Int} (h1 : -9223372036854775808 ≤ x) (h2 : x < 9223372036854775808) : IntKind.i64.wrap x = x := by simp [IntKind.wrap_i64]; omega

/-- A range over ints: plain bounds. -/
def I64 (x : Int) : Prop := -9223372036854775808 ≤ x ∧ x < 9223372036854775808
theorem ret_int {a b : Int} (h : a = b) : Ending.returned (.int .i64 a) = .returned (.int .i64 b) := by rw [h]
theorem ret_bool {a b : Bool} (h : a = b) : Ending.returned (.bool a) = .returned (.bool b) := by rw [h]
end Go.Proofs.YtmddapkhipmlgaaDoor
