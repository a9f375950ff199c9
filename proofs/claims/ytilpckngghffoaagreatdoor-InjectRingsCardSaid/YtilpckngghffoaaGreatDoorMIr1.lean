/-
  What a slice of ints is in memory, read and owned; laws for make, append, store over such slices. Values stay opaque: the walk gets run equations.
  Slices whose elements are one cell each, of whatever type: read (ValsAt), owned (OwnV); append with the whole truth about where the new slice lies.
  Plain mathematics of the first layers: no program in sight.
  Errors: what a Fault is in memory, and the contracts of fault.New, fault.Under and each package's 'wrong'.
  edenraw.Err in memory; walks: edenraw.Root, New, Under, (Err).Bad.
  Plain mathematics of layer 18: the table of a sum, the factors of a rule.
  Plain mathematics of layer 19: rules that permute at one end.
  Plain mathematics: one sum behind another is the sum of the product.
  Plain mathematics: the running number of rule.Step is the window's.
  Walks: slices.IndexFunc, package rule's first functions.
  Walks: Go's package slices at []int.
  Walks: package edenraw (what statements share).
  Walk: edenraw.Apart: lists that share no memory, their spare room neither.
  Several owned lists, each in blocks of its own: what Apart asks.
  Walks: edenref03.Bad, edenref04.Power, Digits, Check.
  Walk: rule.Check, at every rule.
  Walks: package additive.
  Walks: edenref18.Fault.
  Walk: edenraw.Under at an error.
  Walks: errors.Is and errors.As at a chain of Faults; the model's entries for internal/reflectlite at this program's types (after the kit's worked example Toyas).
  The model's entries for internal/reflectlite at a *api.Fault and at the address of a variable of that type (after the kit's worked example Toyas).
  Walk: errors.As at a Fault (after the kit's worked example Toyas).
-/
import Derived.Test.YtilpckngghffoaaGreatDoorProg
import Derived.KernelRfl
import Derived.WalkKit
import Derived.WalkSpells
import Derived.WalkLawsBesides
import Derived.Lib.Hide
import Derived.Maps.AppendAt
import Derived.Deep.RegionLawGrows
import Derived.Deep.RegionHeld3
import Derived.BigQuiet
import Derived.Deep.QuietTactic
import Derived.LaidEql
import Derived.Stop.Asserts
import Derived.RowKitTokens
import Derived.Deep.LoopGhost
namespace Go.Proofs.YtilpckngghffoaaGreatDoor
open Go.RowKit

/-- The address of element i of a slice value. -/
def valAt (v : Value) (i : Nat) : Addr := match v with | .slice (some p) _ _ => p.add i | _ => default

/-- v is a []int that reads xs. -/
def IntsAt (w : World) (v : Value) (xs : List Int) : Prop :=
  ∃ a cap, v = .slice a xs.length cap ∧ xs.length ≤ cap ∧ cap ≤ maxLen ∧ (a = none → cap = 0) ∧ ∀ i (h : i < xs.length), w.cell? (valAt v i) = some (.int .i64 xs[i])

theorem IntsAt.len_le {w : World} {v : Value} {xs : List Int} (h : IntsAt w v xs) : xs.length ≤ 9223372036854775807 := by
  obtain ⟨a, cap, rfl, h1, h2, _⟩ := h
  unfold maxLen at h2; omega

theorem uInts : Tryz.prog.underlying 22 = some (.slice 3) := by kernel_rfl
theorem iInt : (Tryz.prog.info? 3).map (fun i => (i.zero, i.size, i.bytes)) = some (some (.int .i64 0), 1, 8) := by kernel_rfl
theorem eInts : Tryz.prog.elem 22 = 3 := by kernel_rfl
theorem uIntsE : Tryz.prog.underlying 22 = some (.slice (Tryz.prog.elem 22)) := by rw [eInts]; exact uInts
theorem sInt (w : World) : (sizeOf 3).run Tryz.prog w = .ok 1 w := by kernel_rfl

theorem IntsAt.len {w : World} {v : Value} {xs : List Int} (h : IntsAt w v xs) (w' : World) :
    (Builtin.len_ #[22] 3 #[v]).run Tryz.prog w' = .ok (.int .i64 xs.length) w' := by
  obtain ⟨a, cap, rfl, h1, h2, h3, h4⟩ := h
  rw [run_len_slice _ _ _ _ _ _ uIntsE]
  rfl

theorem IntsAt.idx {w : World} {v : Value} {xs : List Int} (h : IntsAt w v xs) (i : Nat) (hi : i < xs.length) (w' : World) :
    (Instr.indexAt 22 v (.int .i64 i)).run Tryz.prog w' = .ok (.pointer (some (valAt v i))) w' := by
  obtain ⟨a, cap, rfl, h1, h2, h3, h4⟩ := h
  cases a with
  | none => have := h3 rfl; omega
  | some p =>
    rw [run_indexAt_slice _ _ _ _ _ _ _ uIntsE, if_pos (by omega), eInts, sInt]
    simp [valAt]

/-- The same at an index that is an integer expression. -/
theorem IntsAt.idxI {w : World} {v : Value} {xs : List Int} (h : IntsAt w v xs) (i : Int) (h0 : 0 ≤ i) (hi : i < xs.length) (w' : World) :
    (Instr.indexAt 22 v (.int .i64 i)).run Tryz.prog w' = .ok (.pointer (some (valAt v i.toNat))) w' := by
  have := h.idx i.toNat (by omega) w'
  rwa [Int.toNat_of_nonneg h0] at this

theorem IntsAt.cell {w : World} {v : Value} {xs : List Int} (h : IntsAt w v xs) (i : Nat) (hi : i < xs.length) :
    w.cell? (valAt v i) = some (.int .i64 xs[i]) := by
  obtain ⟨a, cap, rfl, h1, h2, h3, h4⟩ := h
  exact h4 i hi

theorem IntsAt.cellD {w : World} {v : Value} {xs : List Int} (h : IntsAt w v xs) (i : Nat) (hi : i < xs.length) :
    w.cell? (valAt v i) = some (.int .i64 (xs.getD i 0)) := by
  rw [h.cell i hi]; simp [List.getD, hi]

theorem IntsAt.blk {w : World} {v : Value} {xs : List Int} (h : IntsAt w v xs) (i : Nat) (hi : i < xs.length) : (valAt v i).block < w.heap.size :=
  World.block_lt_of_cell? _ _ (h.cell i hi)

theorem IntsAt.below {w w' : World} {v : Value} {xs : List Int} (h : IntsAt w v xs) (hb : Below w.heap.size w w') : IntsAt w' v xs := by
  have hk := h.blk
  obtain ⟨a, cap, e, h1, h2, h3, h4⟩ := h
  exact ⟨a, cap, e, h1, h2, h3, fun i hi => by rw [hb.cell (hk i hi)]; exact h4 i hi⟩

theorem IntsAt.cells_eq {w w' : World} {v : Value} {xs : List Int} (h : IntsAt w v xs) (hc : ∀ i, i < xs.length → w'.cell? (valAt v i) = w.cell? (valAt v i)) : IntsAt w' v xs := by
  obtain ⟨a, cap, e, h1, h2, h3, h4⟩ := h
  exact ⟨a, cap, e, h1, h2, h3, fun i hi => by rw [hc i hi]; exact h4 i hi⟩

/-- v is a []int that this call made, from block B on; its spare room is its own, too. -/
def OwnI (B : Nat) (w : World) (v : Value) (xs : List Int) : Prop := w.ownsRow B 3 1 v xs.length (xs.map (Value.int .i64))

theorem OwnI.nil (B : Nat) (w : World) : OwnI B w (.slice none 0 0) [] := World.ownsRow_nil w B _ 1

theorem OwnI.at {B : Nat} {w : World} {v : Value} {xs : List Int} (h : OwnI B w v xs) : IntsAt w v xs := by
  rcases h.2 with ⟨rfl, hn⟩ | ⟨g, cap, cur, rfl, hb, hg, hn, hm, hs, ht⟩
  · obtain rfl := List.length_eq_zero_iff.1 hn
    exact ⟨none, 0, rfl, by simp, by simp, fun _ => rfl, by simp⟩
  · refine ⟨some ⟨g, 0, none⟩, cap, rfl, hn, hm, (by intro e; cases e), fun i hi => ?_⟩
    exact World.ownsRow.cells h (g := g) rfl i _ (by simp [hi])

theorem OwnI.mono {B B' : Nat} {w : World} {v : Value} {xs : List Int} (h : OwnI B w v xs) (hB : B' ≤ B) : OwnI B' w v xs := by
  refine ⟨h.1, ?_⟩
  rcases h.2 with h2 | ⟨g, cap, cur, e, hb, r⟩
  · exact .inl h2
  · exact .inr ⟨g, cap, cur, e, Nat.le_trans hB hb, r⟩

theorem OwnI.lt {B : Nat} {w : World} {v : Value} {xs : List Int} (h : OwnI B w v xs) : ∀ k, v.ownBlock = some k → B ≤ k ∧ k < w.heap.size := World.ownsRow.lt h

theorem valAt_row (g i n cap : Nat) : valAt (.slice (some ⟨g, 0, none⟩) n cap) i = ⟨g, i, none⟩ := by
  show (⟨g, 0, none⟩ : Addr).add i = _
  unfold Addr.add; split <;> simp_all

theorem OwnI.frz {B : Nat} {w : World} {v : Value} {xs : List Int} (h : OwnI B w v xs) (i : Nat) (hi : i < xs.length) : w.frozen? (valAt v i) = false := by
  rcases h.2 with ⟨rfl, hn⟩ | ⟨g, cap, cur, rfl, hb, hg, hn, hm, hs, ht⟩
  · omega
  · rw [valAt_row]
    exact frozen_of_row w g i cur _ hg

theorem OwnI.blkB {B : Nat} {w : World} {v : Value} {xs : List Int} (h : OwnI B w v xs) (i : Nat) (hi : i < xs.length) : B ≤ (valAt v i).block := by
  rcases h.2 with ⟨rfl, hn⟩ | ⟨g, cap, cur, rfl, hb, hg, hn, hm, hs, ht⟩
  · omega
  · rw [valAt_row]; exact hb

/-- A store into an owned slice. -/
theorem OwnI.set {B : Nat} {w : World} {v : Value} {xs : List Int} (h : OwnI B w v xs) (i : Nat) (hi : i < xs.length) (y : Int) :
    OwnI B (w.setCell (valAt v i) (.int .i64 y)) v (xs.set i y) := by
  rcases h.2 with ⟨rfl, hn⟩ | ⟨g, cap, cur, rfl, hb, hg, hn, hm, hs, ht⟩
  · omega
  · rw [valAt_row]
    have := (World.ownsRow.stored h i (.int .i64 y)).1
    unfold OwnI
    rw [List.map_set, List.length_set]
    exact this

theorem OwnI.setBelow {B : Nat} {w0 w : World} {v : Value} {xs : List Int} (h : OwnI B w v xs) (hb : Below B w0 w) (i : Nat) (hi : i < xs.length) (y : Value) :
    Below B w0 (w.setCell (valAt v i) y) := hb.setCell (h.blkB i hi) y

theorem OwnI.below {B : Nat} {w w' : World} {v : Value} {xs : List Int} (h : OwnI B w v xs) (hb : Below w.heap.size w w') : OwnI B w' v xs := by
  refine ⟨h.1, ?_⟩
  rcases h.2 with h2 | ⟨g, cap, cur, e, hB, hg, r⟩
  · exact .inl h2
  · refine .inr ⟨g, cap, cur, e, hB, ?_, r⟩
    rw [hb.block g (Array.getElem?_eq_some_iff.1 hg).1]; exact hg

theorem OwnI.alloc {B : Nat} {w : World} {v : Value} {xs : List Int} (h : OwnI B w v xs) (o : Obj) : OwnI B (w.alloc o) v xs := World.ownsRow.alloc h o
theorem OwnI.drew {B : Nat} {w : World} {v : Value} {xs : List Int} (h : OwnI B w v xs) : OwnI B w.drew v xs := h
theorem OwnI.drewN {B : Nat} {w : World} {v : Value} {xs : List Int} (h : OwnI B w v xs) (n : Nat) : OwnI B (w.drewN n) v xs := h
theorem IntsAt.drew {w : World} {v : Value} {xs : List Int} (h : IntsAt w v xs) : IntsAt w.drew v xs := h
theorem IntsAt.drewN {w : World} {v : Value} {xs : List Int} (h : IntsAt w v xs) (n : Nat) : IntsAt (w.drewN n) v xs := h

/-- Another owned slice is not touched by a store, an append into one. -/
theorem OwnI.kept {B : Nat} {w w' : World} {row : Option Nat} {v : Value} {xs : List Int} (h : OwnI B w v xs) (hg : w.grownBy w' row) (hne : v.ownBlock = none ∨ v.ownBlock ≠ row) : OwnI B w' v xs := World.ownsRow.kept h hg hne
theorem OwnI.setOther {B B' : Nat} {w : World} {v u : Value} {xs ys : List Int} (h : OwnI B w v xs) (k : OwnI B' w u ys) (hne : v.ownBlock ≠ u.ownBlock) (i : Nat) (hi : i < ys.length) (y : Value) :
    OwnI B (w.setCell (valAt u i) y) v xs := by
  rcases k.2 with ⟨rfl, hn⟩ | ⟨g, cap, cur, rfl, hb, hg, hn, hm, hs, ht⟩
  · omega
  · rw [valAt_row]
    exact h.kept (row := some g) ⟨rfl, rfl, rfl, by simp [World.setCell], fun j _ hj => Below.heap_setCell _ _ _ _ (by simp at hj; omega)⟩ (.inr (by simpa [Value.ownBlock] using hne))

/-- A literal of ints. -/
theorem OwnI.lit (B : Nat) (w : World) (hB : B ≤ w.heap.size) (xs : List Int) (hm : xs.length ≤ maxLen) (cs : Array Value) (hc : cs.toList = xs.map (Value.int .i64)) (n : Nat) (hn : n = xs.length) :
    OwnI B (w.alloc (.cells cs 3)) (.slice (some ⟨w.heap.size, 0, none⟩) n n) xs := by
  subst hn
  have hs : cs.size = xs.length * 1 := by rw [← Array.length_toList, hc]; simp
  have := World.ownsRow_lit (base := B) (e := 3) (size := 1) w cs xs.length hB hm hs
  unfold OwnI
  rw [← hc]; exact this

/-- make([]int, n). -/
theorem wpl_make {w : World} {ops : Array Oper} {rest : List Oper} {o : Oper} {a : Act} {Q : Exit → Act → World → Prop}
    (hg : o.guard = none) (l c : Operand) (hop : o.op = Op.makeSlice 22 l c) (C : Int) (hl : a.eval l = .int .i64 C) (hc : a.eval c = .int .i64 C)
    (h0 : 0 ≤ C) (hC : C ≤ 17592186044416)
    (hK : ∀ v w', OwnI w.heap.size w' v (List.replicate C.toNat 0) → Below w.heap.size w w' → wpList Tryz.prog ops Q rest (a.put o.dst v) w') :
    wpList Tryz.prog ops Q (o :: rest) a w := by
  obtain ⟨i, hi, hz0, hz1, hz2⟩ := info_parts iInt
  obtain ⟨n, rfl⟩ := Int.eq_ofNat_of_zero_le h0
  refine wpList_make_full w hg l c 22 hop w.heap.size 3 i (.int .i64 0) 1 uInts hi hz0 hz1 .i64 .i64 n n n hl hc rfl rfl (by rw [hz2]; omega) (by unfold maxLen; omega) (Nat.le_refl _) ?_
  intro w' hown hgrow
  refine hK _ _ ?_ ((Below.refl _ _).grown hgrow (Nat.le_refl _) (by intro k hk; cases hk))
  have e : (madeCells (Value.cells (.int .i64 0)) (n * 1)).toList = (List.replicate n (0 : Int)).map (Value.int .i64) := by
    rw [show Value.cells (.int .i64 0) = #[.int .i64 0] from rfl, toList_madeCells_one]; simp
  rw [e] at hown
  simpa [OwnI] using hown

/-- append(s, t...), t read anywhere. -/
theorem wpl_append {w : World} {ops : Array Oper} {rest : List Oper} {o : Oper} {a : Act} {Q : Exit → Act → World → Prop} (hgd : o.guard = none) (s x : Operand)
    (ho : o.op = .call { callee := .builtin .append, args := #[s, x], argTypes := #[22, 22] })
    (B : Nat) (v u : Value) (xs ys : List Int) (hown : OwnI B w v xs) (hu : IntsAt w u ys) (hs : a.eval s = v) (hx : a.eval x = u)
    (hlen : xs.length + ys.length ≤ 17592186044416) (hB : B ≤ w.heap.size)
    (h : ∀ v' w', OwnI B w' v' (xs ++ ys) → Below B w w' → w.grownBy w' v.ownBlock → (v'.ownBlock = v.ownBlock ∨ ∃ k, v'.ownBlock = some k ∧ w.heap.size ≤ k) → wpList Tryz.prog ops Q rest (a.put o.dst v') w') :
    wpList Tryz.prog ops Q (o :: rest) a w := by
  obtain ⟨i, hi, hz0, hz1, hz2⟩ := info_parts iInt
  have hu' := hu
  obtain ⟨ao, cap, rfl, h1, h2, h3, h4⟩ := hu
  cases ao with
  | none =>
    obtain rfl := h3 rfl
    have hy : ys = [] := List.length_eq_zero_iff.1 (by omega)
    subst hy
    refine wpList_plain hgd fun K hK => ?_
    have hrun := run_append_owned_none (P := Tryz.prog) w B 22 o.type 3 i 1 uInts hi v xs.length _ hown
    unfold Oper.wp execOp
    simp only [ho, resolve, invoke, builtin, Sem.run_bind, Sem.run_pure, Result.andThen_ok, List.map_toArray, List.map_cons, List.map_nil, hs, hx]
    rw [show (Value.slice none ([] : List Int).length 0) = .slice none 0 0 from rfl, hrun]
    exact hK _ _ (h v w (by simpa using hown) (Below.refl _ _) (World.grownBy.refl _ _) (.inl rfl))
  | some p =>
    refine wpList_append_own_at _ hgd s x 22 ho B 3 i (.int .i64 0) 1 8 uInts hi hz0 hz1 hz2 rfl (by decide) v xs.length _ hs hown p ys.length cap (ys.map (.int .i64)) hx (by simp) ?_ (ints_oneCell _ _) (by unfold maxLen; omega) (by omega) hB ?_
    · intro j u hj
      have hjl : j < ys.length := by have := (List.getElem?_eq_some_iff.1 hj).1; simpa using this
      have := h4 j hjl
      simp only [valAt] at this
      rw [this, ← hj]; simp [hjl]
    · intro v' w' ho' hgr _ hat
      refine h v' w' (by simpa [OwnI] using ho') ((Below.refl _ _).grown hgr hB (fun k hk => (hown.lt k hk).1)) hgr ?_
      rcases hat with hat | hat
      · exact .inl hat
      · exact .inr ⟨_, hat, Nat.le_refl _⟩

theorem IntsAt.shape {w : World} {v : Value} {xs : List Int} (h : IntsAt w v xs) : ∃ a n c, v = .slice a n c := by
  obtain ⟨a, cap, e, _⟩ := h; exact ⟨_, _, _, e⟩

theorem OwnI.setBelowBase {B : Nat} {w : World} {v : Value} {xs : List Int} (h : OwnI B w v xs) {a : Addr} (ha : a.block < B) (u : Value) : OwnI B (w.setCell a u) v xs := ownsRow_setCell_below h ha u

/-- Three cells in a block of the call's own stay while others work. -/
theorem cells3 {w w' : World} {a b c : Value} {T : TypeId} (hb : Below (w.alloc (.cells #[a, b, c] T)).heap.size (w.alloc (.cells #[a, b, c] T)) w') :
    w'.cell? ⟨w.heap.size, 0, none⟩ = some a ∧ w'.cell? ⟨w.heap.size, 1, none⟩ = some b ∧ w'.cell? ⟨w.heap.size, 2, none⟩ = some c ∧
    w'.frozen? ⟨w.heap.size, 0, none⟩ = false ∧ w'.frozen? ⟨w.heap.size, 1, none⟩ = false ∧ w'.frozen? ⟨w.heap.size, 2, none⟩ = false := by
  refine ⟨?_, ?_, ?_, ?_, ?_, ?_⟩
  · rw [hb.cell (by simp)]; simp
  · rw [hb.cell (by simp)]; simp
  · rw [hb.cell (by simp)]; simp
  · rw [hb.frozen (by simp)]; simp
  · rw [hb.frozen (by simp)]; simp
  · rw [hb.frozen (by simp)]; simp

theorem keep3 {w w' : World} {n : Nat} {a b c : Value} (hb : Below w.heap.size w w') (h : w.cell? ⟨n, 0, none⟩ = some a ∧ w.cell? ⟨n, 1, none⟩ = some b ∧ w.cell? ⟨n, 2, none⟩ = some c) :
    w'.cell? ⟨n, 0, none⟩ = some a ∧ w'.cell? ⟨n, 1, none⟩ = some b ∧ w'.cell? ⟨n, 2, none⟩ = some c := by
  obtain ⟨h0, h1, h2⟩ := h
  have hn := World.block_lt_of_cell? _ _ h0
  exact ⟨(hb.cell (p := ⟨n, 0, none⟩) hn).trans h0, (hb.cell (p := ⟨n, 1, none⟩) hn).trans h1, (hb.cell (p := ⟨n, 2, none⟩) hn).trans h2⟩

theorem wrapK {x : Int} (h1 : -9223372036854775808 ≤ x) (h2 : x < 9223372036854775808) : IntKind.i64.wrap x = x := by simp [IntKind.wrap_i64]; omega

/-- A range over ints: plain bounds. -/
def I64 (x : Int) : Prop := -9223372036854775808 ≤ x ∧ x < 9223372036854775808
theorem ret_int {a b : Int} (h : a = b) : Ending.returned (.int .i64 a) = .returned (.int .i64 b) := by rw [h]
theorem ret_bool {a b : Bool} (h : a = b) : Ending.returned (.bool a) = .returned (.bool b) := by rw [h]
end Go.Proofs.YtilpckngghffoaaGreatDoor

namespace Go.Proofs.YtilpckngghffoaaGreatDoor
open Go.RowKit

/-- v is a slice that reads the values vs (one cell each). -/
def ValsAt (w : World) (v : Value) (vs : List Value) : Prop :=
  ∃ a cap, v = .slice a vs.length cap ∧ vs.length ≤ cap ∧ cap ≤ maxLen ∧ (a = none → cap = 0) ∧ ∀ i (h : i < vs.length), w.cell? (valAt v i) = some vs[i]

theorem IntsAt.vals {w : World} {v : Value} {xs : List Int} (h : IntsAt w v xs) : ValsAt w v (xs.map (Value.int .i64)) := by
  obtain ⟨a, cap, e, h1, h2, h3, h4⟩ := h
  exact ⟨a, cap, by simpa using e, by simpa using h1, h2, h3, fun i hi => by rw [h4 i (by simpa using hi)]; simp⟩

theorem ValsAt.cell {w : World} {v : Value} {vs : List Value} (h : ValsAt w v vs) (i : Nat) (hi : i < vs.length) : w.cell? (valAt v i) = some vs[i] := by
  obtain ⟨a, cap, e, h1, h2, h3, h4⟩ := h
  exact h4 i hi
theorem ValsAt.len_le {w : World} {v : Value} {vs : List Value} (h : ValsAt w v vs) : vs.length ≤ 9223372036854775807 := by
  obtain ⟨a, cap, rfl, h1, h2, _⟩ := h
  unfold maxLen at h2; omega
theorem ValsAt.blk {w : World} {v : Value} {vs : List Value} (h : ValsAt w v vs) (i : Nat) (hi : i < vs.length) : (valAt v i).block < w.heap.size :=
  World.block_lt_of_cell? _ _ (h.cell i hi)
theorem ValsAt.below {w w' : World} {v : Value} {vs : List Value} (h : ValsAt w v vs) (hb : Below w.heap.size w w') : ValsAt w' v vs := by
  have hk := h.blk
  obtain ⟨a, cap, e, h1, h2, h3, h4⟩ := h
  exact ⟨a, cap, e, h1, h2, h3, fun i hi => by rw [hb.cell (hk i hi)]; exact h4 i hi⟩
theorem ValsAt.cells_eq {w w' : World} {v : Value} {vs : List Value} (h : ValsAt w v vs) (hc : ∀ i, i < vs.length → w'.cell? (valAt v i) = w.cell? (valAt v i)) : ValsAt w' v vs := by
  obtain ⟨a, cap, e, h1, h2, h3, h4⟩ := h
  exact ⟨a, cap, e, h1, h2, h3, fun i hi => by rw [hc i hi]; exact h4 i hi⟩

/-- A slice type of one-cell elements. -/
structure OneCell (T E : TypeId) (z : Value) (bytes : Nat) : Prop where
  ht : Tryz.prog.underlying T = some (.slice E)
  hi : (Tryz.prog.info? E).map (fun i => (i.zero, i.size, i.bytes)) = some (some z, 1, bytes)
  hz : z.cells = #[z]
  hb : bytes ≤ 32
  hs : ∀ w, (sizeOf E).run Tryz.prog w = .ok 1 w

theorem oneInts : OneCell 22 3 (.int .i64 0) 8 := ⟨uInts, iInt, rfl, by decide, sInt⟩

theorem ValsAt.len {T E : TypeId} {z : Value} {b : Nat} (o : OneCell T E z b) {w : World} {v : Value} {vs : List Value} (h : ValsAt w v vs) (ty : TypeId) (w' : World) :
    (Builtin.len_ #[T] ty #[v]).run Tryz.prog w' = .ok (.int .i64 vs.length) w' := by
  obtain ⟨a, cap, rfl, h1, h2, h3, h4⟩ := h
  have e : Tryz.prog.elem T = E := by simp [Program.elem, o.ht]
  rw [run_len_slice _ _ _ _ _ _ (by rw [e]; exact o.ht)]
  rfl
theorem ValsAt.idx {T E : TypeId} {z : Value} {b : Nat} (o : OneCell T E z b) {w : World} {v : Value} {vs : List Value} (h : ValsAt w v vs) (i : Nat) (hi : i < vs.length) (w' : World) :
    (Instr.indexAt T v (.int .i64 i)).run Tryz.prog w' = .ok (.pointer (some (valAt v i))) w' := by
  obtain ⟨a, cap, rfl, h1, h2, h3, h4⟩ := h
  have e : Tryz.prog.elem T = E := by simp [Program.elem, o.ht]
  cases a with
  | none => have := h3 rfl; omega
  | some p =>
    rw [run_indexAt_slice _ _ _ _ _ _ _ (by rw [e]; exact o.ht), if_pos (by omega), e, o.hs]
    simp [valAt]

/-- v is a slice that this call made, from block B on; its spare room is its own, too. -/
def OwnV (E : TypeId) (B : Nat) (w : World) (v : Value) (vs : List Value) : Prop := w.ownsRow B E 1 v vs.length vs

theorem OwnI.toV {B : Nat} {w : World} {v : Value} {xs : List Int} (h : OwnI B w v xs) : OwnV 3 B w v (xs.map (Value.int .i64)) := by
  unfold OwnV; simpa [OwnI] using h
theorem OwnV.toI {B : Nat} {w : World} {v : Value} {xs : List Int} (h : OwnV 3 B w v (xs.map (Value.int .i64))) : OwnI B w v xs := by
  unfold OwnV at h; simpa [OwnI] using h

theorem OwnV.nil (E : TypeId) (B : Nat) (w : World) : OwnV E B w (.slice none 0 0) [] := World.ownsRow_nil w B _ 1
theorem OwnV.at {E : TypeId} {B : Nat} {w : World} {v : Value} {vs : List Value} (h : OwnV E B w v vs) : ValsAt w v vs := by
  rcases h.2 with ⟨rfl, hn⟩ | ⟨g, cap, cur, rfl, hb, hg, hn, hm, hs, ht⟩
  · obtain rfl := List.length_eq_zero_iff.1 hn
    exact ⟨none, 0, rfl, by simp, by simp, fun _ => rfl, by simp⟩
  · refine ⟨some ⟨g, 0, none⟩, cap, rfl, hn, hm, (by intro e; cases e), fun i hi => ?_⟩
    exact World.ownsRow.cells h (g := g) rfl i _ (by simp [hi])
theorem OwnV.mono {E : TypeId} {B B' : Nat} {w : World} {v : Value} {vs : List Value} (h : OwnV E B w v vs) (hB : B' ≤ B) : OwnV E B' w v vs := by
  refine ⟨h.1, ?_⟩
  rcases h.2 with h2 | ⟨g, cap, cur, e, hb, r⟩
  · exact .inl h2
  · exact .inr ⟨g, cap, cur, e, Nat.le_trans hB hb, r⟩
theorem OwnV.lt {E : TypeId} {B : Nat} {w : World} {v : Value} {vs : List Value} (h : OwnV E B w v vs) : ∀ k, v.ownBlock = some k → B ≤ k ∧ k < w.heap.size := World.ownsRow.lt h
theorem OwnV.frz {E : TypeId} {B : Nat} {w : World} {v : Value} {vs : List Value} (h : OwnV E B w v vs) (i : Nat) (hi : i < vs.length) : w.frozen? (valAt v i) = false := by
  rcases h.2 with ⟨rfl, hn⟩ | ⟨g, cap, cur, rfl, hb, hg, hn, hm, hs, ht⟩
  · omega
  · rw [valAt_row]; exact frozen_of_row w g i cur _ hg
theorem OwnV.blkB {E : TypeId} {B : Nat} {w : World} {v : Value} {vs : List Value} (h : OwnV E B w v vs) (i : Nat) (hi : i < vs.length) : v.ownBlock = some (valAt v i).block ∧ B ≤ (valAt v i).block := by
  rcases h.2 with ⟨rfl, hn⟩ | ⟨g, cap, cur, rfl, hb, hg, hn, hm, hs, ht⟩
  · omega
  · rw [valAt_row]; exact ⟨rfl, hb⟩
theorem OwnV.set {E : TypeId} {B : Nat} {w : World} {v : Value} {vs : List Value} (h : OwnV E B w v vs) (i : Nat) (hi : i < vs.length) (y : Value) :
    OwnV E B (w.setCell (valAt v i) y) v (vs.set i y) := by
  rcases h.2 with ⟨rfl, hn⟩ | ⟨g, cap, cur, rfl, hb, hg, hn, hm, hs, ht⟩
  · omega
  · rw [valAt_row]
    have := (World.ownsRow.stored h i y).1
    unfold OwnV
    rw [List.length_set]
    exact this
theorem OwnV.setGrown {E : TypeId} {B : Nat} {w : World} {v : Value} {vs : List Value} (h : OwnV E B w v vs) (i : Nat) (hi : i < vs.length) (y : Value) :
    w.grownBy (w.setCell (valAt v i) y) v.ownBlock := by
  have hb := (h.blkB i hi).1
  exact ⟨rfl, rfl, rfl, by simp [World.setCell], fun k _ hk => Below.heap_setCell _ _ _ _ (by rw [hb] at hk; simp at hk; omega)⟩
theorem OwnV.below {E : TypeId} {B : Nat} {w w' : World} {v : Value} {vs : List Value} (h : OwnV E B w v vs) (hb : Below w.heap.size w w') : OwnV E B w' v vs := by
  refine ⟨h.1, ?_⟩
  rcases h.2 with h2 | ⟨g, cap, cur, e, hB, hg, r⟩
  · exact .inl h2
  · refine .inr ⟨g, cap, cur, e, hB, ?_, r⟩
    rw [hb.block g (Array.getElem?_eq_some_iff.1 hg).1]; exact hg
theorem OwnV.kept {E : TypeId} {B : Nat} {w w' : World} {row : Option Nat} {v : Value} {vs : List Value} (h : OwnV E B w v vs) (hg : w.grownBy w' row) (hne : v.ownBlock = none ∨ v.ownBlock ≠ row) : OwnV E B w' v vs := World.ownsRow.kept h hg hne
theorem OwnV.alloc {E : TypeId} {B : Nat} {w : World} {v : Value} {vs : List Value} (h : OwnV E B w v vs) (o : Obj) : OwnV E B (w.alloc o) v vs := World.ownsRow.alloc h o
theorem OwnV.shape {E : TypeId} {B : Nat} {w : World} {v : Value} {vs : List Value} (h : OwnV E B w v vs) : ∃ a n c, v = .slice a n c := by
  obtain ⟨a, cap, e, _⟩ := h.at; exact ⟨_, _, _, e⟩

/-- A slice's array: where it begins, how much room it has. -/
def roomOf (v : Value) : Option Addr × Nat := match v with | .slice a _ c => (a, c) | _ => (none, 0)

/-- The front of an owned slice whose array another one shares. -/
theorem OwnV.front {E : TypeId} {B : Nat} {w w' : World} {v v' : Value} {xs ys : List Value} (h : OwnV E B w v xs) (h' : OwnV E B w' v' (xs ++ ys)) (hb : roomOf v' = roomOf v) : OwnV E B w' v xs := by
  rcases h.2 with ⟨rfl, hn⟩ | ⟨g, cap, cur, rfl, hB, hg, hn, hm, hs, ht⟩
  · obtain rfl := List.length_eq_zero_iff.1 hn
    exact OwnV.nil E B w'
  · rcases h'.2 with ⟨rfl, _⟩ | ⟨g', cap', cur', rfl, hB', hg', hn', hm', hs', ht'⟩
    · simp [roomOf] at hb
    · simp [roomOf] at hb
      obtain ⟨rfl, rfl⟩ := hb
      refine ⟨by simp, .inr ⟨g', cap', cur', rfl, hB', hg', hn, hm', hs', ?_⟩⟩
      have := congrArg (List.take xs.length) ht'
      rw [List.take_take, List.take_left'] at this
      · rw [Nat.mul_one] at this ⊢
        rwa [Nat.min_eq_left (by simp)] at this
      · rfl

theorem ownBlock_of_room {v v' : Value} {a n c a' n' c'} (hv : v = .slice a n c) (hv' : v' = .slice a' n' c') (h : roomOf v' = roomOf v) : v'.ownBlock = v.ownBlock := by
  subst hv hv'
  simp [roomOf] at h
  obtain ⟨rfl, rfl⟩ := h
  cases a' <;> rfl

/-- append, with the whole truth about where the new slice lies: in the old one's array, or in a new one, and then nothing that was there has changed. -/
theorem run_app {T E : TypeId} {z : Value} {b : Nat} (o : OneCell T E z b) (w : World) (B : Nat) (ty : TypeId) (v : Value) (xs : List Value) (hown : OwnV E B w v xs)
    (a : Addr) (c : Nat) (ys : List Value) (h0 : 0 < ys.length) (hys : ∀ j u, ys[j]? = some u → w.cell? (a.add j) = some u) (h1 : ∀ u ∈ ys, u.oneCell' = true)
    (hlen : xs.length + ys.length ≤ 4398046511104) (hB : B ≤ w.heap.size) :
    ∃ v' w', (Builtin.append_ #[T, T] ty #[v, .slice (some a) ys.length c]).run Tryz.prog w = .ok v' w' ∧ OwnV E B w' v' (xs ++ ys) ∧
      ((roomOf v' = roomOf v ∧ w.grownBy w' v.ownBlock) ∨ (v'.ownBlock = some w.heap.size ∧ w.grownBy w' none)) := by
  obtain ⟨i, hi, hz0, hz1, hz2⟩ := info_parts o.hi
  have hb := o.hb
  have hl1 : (xs ++ ys).length = (xs.length + ys.length) * 1 := by simp
  have big : ∀ (old : Nat), old < xs.length + ys.length →
      OwnV E B (w.drew.alloc (.cells (xs.toArray ++ ys.toArray ++ Builtin.zeroCells z.cells (grownCap w (xs.length + ys.length) old E - (xs.length + ys.length))) E)) (.slice (some ⟨w.heap.size, 0, none⟩) (xs.length + ys.length) (grownCap w (xs.length + ys.length) old E)) (xs ++ ys) := by
    intro old ho
    have hge := grownCap_ge w (xs.length + ys.length) old E
    have hcm : grownCap w (xs.length + ys.length) old E ≤ maxLen := grownCap_le_maxLen w _ old E (by unfold maxLen; omega)
    refine ⟨by simp, .inr ⟨w.heap.size, _, _, by simp, hB, heap_alloc_new w.drew _, by simpa using hge, hcm, ?_, ?_⟩⟩
    · simp only [Array.size_append, List.size_toArray, size_zeroCells, o.hz]
      simp
      omega
    · simp only [Array.toList_append, Nat.mul_one, List.length_append]
      exact List.take_left' (by simp)
  have grw : ∀ (oo : Obj), w.grownBy (w.drew.alloc oo) none := fun oo => ⟨rfl, rfl, rfl, by simp, fun k hk _ => Below.heap_alloc w.drew oo k hk⟩
  rcases hown.2 with ⟨rfl, hn⟩ | ⟨g, cap, cur, rfl, hbg, hg, hnc, hcm, hcs, htake⟩
  · obtain rfl := List.length_eq_zero_iff.1 hn
    have hr := run_append_nil (P := Tryz.prog) w T ty E i z o.ht hi hz0 a ys.length c ys (by rw [hz1]; simp) hys h0 (by simp at hlen; omega) (by
      rw [hz2]
      simp only [List.length_nil, Nat.zero_add] at hlen
      calc ys.length * b ≤ 4398046511104 * 32 := Nat.mul_le_mul hlen hb
        _ ≤ _ := by decide)
    have hbg := big 0 (by simpa using h0)
    simp only [List.length_nil, Nat.zero_add, List.nil_append, Array.empty_append] at hbg
    exact ⟨_, _, hr, by simpa using hbg, .inr ⟨rfl, grw _⟩⟩
  · by_cases hroom : xs.length + ys.length ≤ cap
    · have hr := run_append_room (P := Tryz.prog) w T ty E i o.ht hi g xs.length cap cur hg a ys.length c ys (by rw [hz1]; simp) hys h1 hroom (by rw [hz1, hcs]; omega)
      refine ⟨_, _, hr, ⟨by simp, .inr ⟨g, cap, _, by simp, hbg, setRow_heap w g cur _ E _ hg, by simpa using hroom, hcm, ?_, ?_⟩⟩, .inl ⟨rfl, ⟨rfl, rfl, rfl, by simp, fun k _ hk => setRow_other w g k _ (fun e => hk (by simp [Value.ownBlock, e]))⟩⟩⟩
      · simp only [List.size_toArray, List.length_append, List.length_take, List.length_drop, Array.length_toList, hz1]
        omega
      · rw [hz1, htake]
        simp only [Nat.mul_one, List.length_append]
        exact List.take_left' (by simp)
    · have holds : ∀ j u, xs[j]? = some u → w.cell? ((⟨g, 0, none⟩ : Addr).add j) = some u := World.ownsRow.cells hown (g := g) rfl
      have hr := run_append_grow (P := Tryz.prog) w T ty E i z o.ht hi hz0 ⟨g, 0, none⟩ xs.length cap xs (by rw [hz1]; simp) holds a ys.length c ys (by rw [hz1]; simp) hys (by omega) (by omega) (by
        rw [hz2]
        exact growslice_fits (by omega) (by
          calc (xs.length + ys.length) * b ≤ 4398046511104 * 32 := Nat.mul_le_mul hlen hb
            _ ≤ _ := by decide))
      exact ⟨_, _, hr, big cap (by omega), .inr ⟨rfl, grw _⟩⟩

/-- append(s, y) of one int, the whole truth. -/
theorem wpl_app1 {w : World} {ops : Array Oper} {rest : List Oper} {o : Oper} {a : Act} {Q : Exit → Act → World → Prop} (hgd : o.guard = none) (s x : Operand)
    (ho : o.op = .call { callee := .builtin .append, args := #[s, x], argTypes := #[22, 22] })
    (B : Nat) (v : Value) (xs : List Int) (y : Int) (hown : OwnI B w v xs) (hs : a.eval s = v) (hx : a.eval x = .slice (some ⟨w.heap.size, 0, none⟩) 1 1)
    (hlen : xs.length < 4398046511104) (hB : B ≤ w.heap.size)
    (h : ∀ v' w', OwnI B w' v' (xs ++ [y]) → Below B w w' → ((roomOf v' = roomOf v ∧ w.grownBy w' v.ownBlock) ∨ (∃ k, v'.ownBlock = some k ∧ w.heap.size ≤ k ∧ w.grownBy w' none)) → wpList Tryz.prog ops Q rest (a.put o.dst v') w') :
    wpList Tryz.prog ops Q (o :: rest) a (w.alloc (.cells #[.int .i64 y] 3)) := by
  refine wpList_plain hgd fun K hK => ?_
  obtain ⟨v', w', hr, h2, h3⟩ := run_app oneInts (w.alloc (.cells #[.int .i64 y] 3)) B o.type v _ (hown.alloc _).toV ⟨w.heap.size, 0, none⟩ 1 [.int .i64 y] (by simp) (cell_one_new _ _ _) (by simp [Value.oneCell']) (by simp; omega) (by simp; omega)
  unfold Oper.wp execOp
  simp only [ho, resolve, invoke, builtin, Sem.run_bind, Sem.run_pure, Result.andThen_ok, List.map_toArray, List.map_cons, List.map_nil, hs, hx]
  rw [show ([.int .i64 y] : List Value).length = 1 from rfl] at hr
  rw [hr]
  have hal : ∀ row, w.grownBy (w.alloc (.cells #[.int .i64 y] 3)) row := fun row => World.grownBy_alloc w _ row
  have ho' : OwnI B w' v' (xs ++ [y]) := OwnV.toI (by simpa using h2)
  rcases h3 with ⟨hroom, hg⟩ | ⟨hk, hg⟩
  · have hg2 := (hal v.ownBlock).trans hg
    exact hK _ _ (h v' w' ho' ((Below.refl _ _).grown hg2 hB (fun k hk => (hown.lt k hk).1)) (.inl ⟨hroom, hg2⟩))
  · have hg2 := (hal none).trans hg
    exact hK _ _ (h v' w' ho' ((Below.refl _ _).grown hg2 hB (by intro k hk; cases hk)) (.inr ⟨_, hk, by simp, hg2⟩))

theorem oneLists : OneCell 67 22 (.slice none 0 0) 24 := ⟨by kernel_rfl, by kernel_rfl, rfl, by decide, fun _ => by kernel_rfl⟩

end Go.Proofs.YtilpckngghffoaaGreatDoor

namespace Go.Proofs.YtilpckngghffoaaGreatDoor

/-- An error as plain data: its number, and packages and places from the outermost on; none: no error. -/
abbrev PErr := Option (Int × List (ByteArray × Int))
def under (op : ByteArray) (at_ : Int) (t : PErr) : PErr := t.map fun x => (x.1, (op, at_) :: x.2)
def fresh (op : ByteArray) (at_ : Int) (n : Int) : PErr := some (n, [(op, at_)])
def sRule : ByteArray := ⟨#[114, 117, 108, 101]⟩
def pw (K i : Nat) : Nat := K ^ i
theorem pw_zero (K : Nat) : pw K 0 = 1 := rfl
theorem pw_succ (K i : Nat) : pw K (i + 1) = pw K i * K := Nat.pow_succ ..
theorem pw_one (K : Nat) : pw K 1 = K := by simp [pw]
theorem pw_pos {K : Nat} (i : Nat) (h : 1 ≤ K) : 1 ≤ pw K i := Nat.one_le_pow _ _ h
theorem pw_mono {K i j : Nat} (h1 : 1 ≤ K) (h : i ≤ j) : pw K i ≤ pw K j := Nat.pow_le_pow_right h1 h
theorem pw_le {K i : Nat} (_h1 : 1 ≤ K) (h4 : K ≤ 4) (hi : i ≤ 7) : pw K i ≤ 16384 :=
  Nat.le_trans (Nat.pow_le_pow_left h4 i) (Nat.le_trans (Nat.pow_le_pow_right (by omega) hi) (by decide))

/-- The first place that p holds of; -1: none. -/
def idxOf (p : Int → Bool) (xs : List Int) : Int := match xs.findIdx? p with | some i => i | none => -1
theorem idxOf_neg {p : Int → Bool} {xs : List Int} (h : ∀ x ∈ xs, p x = false) : idxOf p xs = -1 := by
  have : xs.findIdx? p = none := List.findIdx?_eq_none_iff.2 h
  simp [idxOf, this]
theorem idxOf_at {p : Int → Bool} {xs : List Int} (k : Nat) (hk : k < xs.length) (hp : p xs[k] = true) (hj : ∀ j (h : j < xs.length), j < k → p xs[j] = false) : idxOf p xs = k := by
  have : xs.findIdx? p = some k := by
    rw [List.findIdx?_eq_some_iff_getElem]
    exact ⟨hk, hp, fun j hjk => by simp [hj j (by omega) hjk]⟩
  simp [idxOf, this]
theorem idxOf_cases (p : Int → Bool) (xs : List Int) : (idxOf p xs = -1 ∧ ∀ x ∈ xs, p x = false) ∨ (∃ k : Nat, idxOf p xs = k ∧ ∃ h : k < xs.length, p xs[k] = true ∧ ∀ j (h : j < xs.length), j < k → p xs[j] = false) := by
  cases h : xs.findIdx? p with
  | none => exact .inl ⟨by simp [idxOf, h], List.findIdx?_eq_none_iff.1 h⟩
  | some k =>
    obtain ⟨hk, hp, hj⟩ := List.findIdx?_eq_some_iff_getElem.1 h
    exact .inr ⟨k, by simp [idxOf, h], hk, hp, fun j hj' hjk => by simpa using hj j hjk⟩

/-- No symbol below k. -/
def odd1 (k : Int) (x : Int) : Bool := decide (x < 0) || decide (k ≤ x)
theorem odd1_false {k x : Int} : odd1 k x = false ↔ 0 ≤ x ∧ x < k := by simp [odd1]
/-- Are all symbols below k? -/
def Syms (k : Int) (xs : List Int) : Prop := ∀ x ∈ xs, 0 ≤ x ∧ x < k
theorem Syms.odd {k : Int} {xs : List Int} (h : Syms k xs) : idxOf (odd1 k) xs = -1 := idxOf_neg fun x hx => odd1_false.2 (h x hx)
theorem syms_or (k : Int) (xs : List Int) : Syms k xs ∨ ∃ i : Nat, idxOf (odd1 k) xs = i ∧ i < xs.length := by
  rcases idxOf_cases (odd1 k) xs with ⟨_, h⟩ | ⟨i, h, hi, _⟩
  · exact .inl fun x hx => odd1_false.1 (h x hx)
  · exact .inr ⟨i, h, hi⟩

/-- Is it a rule, with K symbols and radius R? -/
structure RuleOk (K R : Nat) (xs : List Int) : Prop where
  k1 : 1 ≤ K
  k4 : K ≤ 4
  r3 : R ≤ 3
  len : xs.length = pw K (2 * R + 1)
  syms : Syms K xs

theorem RuleOk.len_le {K R : Nat} {xs : List Int} (h : RuleOk K R xs) : xs.length ≤ 16384 := by
  rw [h.len]; exact pw_le h.k1 h.k4 (by have := h.r3; omega)
/-- rule.Check's answer. -/
def checkP (k r : Int) (xs : List Int) : PErr :=
  if k < 1 ∨ 4 < k then fresh sRule 0 1
  else if r < 0 ∨ 3 < r then fresh sRule 1 1
  else if xs.length ≠ pw k.toNat (2 * r.toNat + 1) then fresh sRule 2 1
  else if idxOf (odd1 k) xs = -1 then none
  else fresh sRule (3 + idxOf (odd1 k) xs) 1

theorem checkP_none {k r : Int} {xs : List Int} (h : checkP k r xs = none) : ∃ K R : Nat, k = K ∧ r = R ∧ RuleOk K R xs := by
  unfold checkP at h
  by_cases h1 : k < 1 ∨ 4 < k
  · rw [if_pos h1] at h; cases h
  rw [if_neg h1] at h
  by_cases h2 : r < 0 ∨ 3 < r
  · rw [if_pos h2] at h; cases h
  rw [if_neg h2] at h
  by_cases h3 : xs.length ≠ pw k.toNat (2 * r.toNat + 1)
  · rw [if_pos h3] at h; cases h
  rw [if_neg h3] at h
  by_cases h4 : idxOf (odd1 k) xs = -1
  · refine ⟨k.toNat, r.toNat, by omega, by omega, by omega, by omega, by omega, by omega, ?_⟩
    rw [show ((k.toNat : Nat) : Int) = k by omega]
    rcases syms_or k xs with h5 | ⟨i, h5, _⟩
    · exact h5
    · omega
  · rw [if_neg h4] at h; cases h

theorem RuleOk.check {K R : Nat} {xs : List Int} (h : RuleOk K R xs) : checkP K R xs = none := by
  have := h.k1; have := h.k4; have := h.r3
  unfold checkP
  rw [if_neg (by omega), if_neg (by omega), if_neg (by simp [h.len]), if_pos h.syms.odd]
end Go.Proofs.YtilpckngghffoaaGreatDoor

namespace Go.Proofs.YtilpckngghffoaaGreatDoor
open Go.RowKit

/-- A call returns one value; nothing that was there has changed. -/
def Ret1 (Φ : Value → World → Prop) (w : World) (e : Ending) (w' : World) : Prop := ∃ x, e = .returned x ∧ Below w.heap.size w w' ∧ Φ x w'
def Ret2 (Φ : Value → Value → World → Prop) (w : World) (e : Ending) (w' : World) : Prop := ∃ x y, e = .returned (.tuple #[x, y]) ∧ Below w.heap.size w w' ∧ Φ x y w'
def Ret3 (Φ : Value → Value → Value → World → Prop) (w : World) (e : Ending) (w' : World) : Prop := ∃ x y z, e = .returned (.tuple #[x, y, z]) ∧ Below w.heap.size w w' ∧ Φ x y z w'

/-- The error that a number stands for: what its package-level variable holds. -/
abbrev rootV (r : Nat → Addr) (n : Int) : Value := .iface 238 (.pointer (some (r n.toNat)))

/-- The package-level errors lie where they were laid. -/
structure Glob (r : Nat → Addr) (w : World) : Prop where
  c1 : w.cell? ⟨0, 0, none⟩ = some (rootV r 1)
  c2 : w.cell? ⟨1, 0, none⟩ = some (rootV r 2)
  c3 : w.cell? ⟨2, 0, none⟩ = some (rootV r 3)
  c4 : w.cell? ⟨3, 0, none⟩ = some (rootV r 4)
  c5 : w.cell? ⟨4, 0, none⟩ = some (rootV r 5)
  c6 : w.cell? ⟨5, 0, none⟩ = some (rootV r 6)
  c7 : w.cell? ⟨6, 0, none⟩ = some (rootV r 7)
  c8 : w.cell? ⟨7, 0, none⟩ = some (rootV r 8)
  c9 : w.cell? ⟨8, 0, none⟩ = some (rootV r 9)
  c10 : w.cell? ⟨9, 0, none⟩ = some (rootV r 10)
  c11 : w.cell? ⟨10, 0, none⟩ = some (rootV r 11)
  c12 : w.cell? ⟨11, 0, none⟩ = some (rootV r 99)
  str : ∀ n : Nat, (1 ≤ n ∧ n ≤ 11) ∨ n = 99 → ∃ s, w.cell? (r n) = some (.string s)
  apart : ∀ m n : Int, 1 ≤ m → m ≤ 11 → 1 ≤ n → n ≤ 11 → r m.toNat = r n.toNat → m = n

theorem Glob.below {r : Nat → Addr} {w w' : World} (h : Glob r w) (hb : Below w.heap.size w w') : Glob r w' := by
  have k : ∀ {i v}, w.cell? ⟨i, 0, none⟩ = some v → w'.cell? ⟨i, 0, none⟩ = some v := fun {i v} hc => by
    rw [hb.cell (World.block_lt_of_cell? _ _ hc)]; exact hc
  exact ⟨k h.c1, k h.c2, k h.c3, k h.c4, k h.c5, k h.c6, k h.c7, k h.c8, k h.c9, k h.c10, k h.c11, k h.c12, (fun n hn => by
    obtain ⟨s, hs⟩ := h.str n hn
    exact ⟨s, by rw [hb.cell (World.block_lt_of_cell? _ _ hs)]; exact hs⟩), h.apart⟩

/-- What a Fault chain is in memory. -/
def ErrAt (r : Nat → Addr) (w : World) (n : Int) : List (ByteArray × Int) → Value → Prop
  | [], v => v = rootV r n
  | (op, at_) :: rest, v => ∃ p u, v = .iface 80 (.pointer (some ⟨p, 0, none⟩)) ∧ w.cell? ⟨p, 0, none⟩ = some (.string op) ∧ w.cell? ⟨p, 1, none⟩ = some (.int .i64 at_) ∧
      w.cell? ⟨p, 2, none⟩ = some u ∧ ErrAt r w n rest u

def ErrIs (r : Nat → Addr) (w : World) (t : PErr) (v : Value) : Prop :=
  match t with
  | none => v = .nilIface
  | some (n, l) => ErrAt r w n l v

theorem ErrAt.below {r : Nat → Addr} {w w' : World} {n : Int} (hb : Below w.heap.size w w') : ∀ {l : List (ByteArray × Int)} {v : Value}, ErrAt r w n l v → ErrAt r w' n l v
  | [], _, h => h
  | (op, at_) :: rest, v, ⟨p, u, e, c0, c1, c2, h⟩ => by
    have k : ∀ {i x}, w.cell? ⟨p, i, none⟩ = some x → w'.cell? ⟨p, i, none⟩ = some x := fun {i x} hc => by
      rw [hb.cell (World.block_lt_of_cell? _ _ hc)]; exact hc
    exact ⟨p, u, e, k c0, k c1, k c2, ErrAt.below hb h⟩

theorem ErrIs.below {r : Nat → Addr} {w w' : World} {t : PErr} {v : Value} (h : ErrIs r w t v) (hb : Below w.heap.size w w') : ErrIs r w' t v := by
  match t, h with
  | none, h => exact h
  | some (n, l), h => exact ErrAt.below hb h

theorem ErrAt.shape {r : Nat → Addr} {w : World} {n : Int} {l : List (ByteArray × Int)} {v : Value} (h : ErrAt r w n l v) : ∃ T a, v = .iface T (.pointer (some a)) := by
  match l, h with
  | [], h => exact ⟨_, _, h⟩
  | _ :: _, ⟨p, u, e, _⟩ => exact ⟨_, _, e⟩

/-- What the walk wants of an error: nil, or an interface value that holds a pointer. -/
theorem ErrIs.none_eq {r : Nat → Addr} {w : World} {v : Value} (h : ErrIs r w none v) : v = .nilIface := h
theorem ErrIs.some_shape {r : Nat → Addr} {w : World} {t : Int × List (ByteArray × Int)} {v : Value} (h : ErrIs r w (some t) v) : ∃ T a, v = .iface T (.pointer (some a)) := ErrAt.shape h

set_option maxHeartbeats 1000000 in
theorem root_any (r : Nat → Addr) (n : Int) (w : World) (hg : Glob r w) (h1 : 1 ≤ n) (h2 : n ≤ 11) :
    Calls Tryz.prog 94 #[.int .i64 n] w fun e w' => e = .returned (rootV r n) ∧ w = w' := by
  obtain ⟨c1, c2, c3, c4, c5, c6, c7, c8, c9, c10, c11, _, _, _⟩ := hg
  have hn : n = 1 ∨ n = 2 ∨ n = 3 ∨ n = 4 ∨ n = 5 ∨ n = 6 ∨ n = 7 ∨ n = 8 ∨ n = 9 ∨ n = 10 ∨ n = 11 := by omega
  rcases hn with rfl | rfl | rfl | rfl | rfl | rfl | rfl | rfl | rfl | rfl | rfl <;>
  (clear h1 h2
   go_enter Tryz.func94, Tryz.ntmps94
   go_wp2
   go_ret
   exact ⟨rfl, rfl⟩)

set_option maxHeartbeats 400000 in
theorem new_any (r : Nat → Addr) (op : ByteArray) (at_ n : Int) (w : World) (hg : Glob r w) (h1 : 1 ≤ n) (h2 : n ≤ 11) :
    Calls Tryz.prog 50 #[.string op, .int .i64 at_, .int .i64 n] w (Ret1 (fun v w' => ErrIs r w' (fresh op at_ n) v) w) := by
  have hn : (n == 0) = false := by simp; omega
  go_enter Tryz.func50, Tryz.ntmps50
  go_wp2_with fail
  refine (root_any r n w hg h1 h2).mono ?_
  rintro e w' ⟨rfl, rfl⟩
  go_wp2
  go_ret
  refine ⟨_, rfl, (Below.refl _ _).alloc (Nat.le_refl _) _, w.heap.size, rootV r n, rfl, ?_, ?_, ?_, rfl⟩ <;> simp

set_option maxHeartbeats 400000 in
theorem under_nil (op : ByteArray) (at_ : Int) (w : World) :
    Calls Tryz.prog 36 #[.string op, .int .i64 at_, .nilIface] w fun e w' => e = .returned .nilIface ∧ w = w' := by
  go_enter Tryz.func36, Tryz.ntmps36
  go_wp2
  go_ret
  exact ⟨rfl, rfl⟩

set_option maxHeartbeats 400000 in
theorem under_any (r : Nat → Addr) (op : ByteArray) (at_ : Int) (t : PErr) (v : Value) (w : World) (h : ErrIs r w t v) :
    Calls Tryz.prog 36 #[.string op, .int .i64 at_, v] w (Ret1 (fun u w' => ErrIs r w' (under op at_ t) u) w) := by
  match t, h with
  | none, h =>
    obtain rfl := h.none_eq
    exact (under_nil op at_ w).mono fun e w' ⟨he, hw⟩ => by subst hw; exact ⟨_, he, Below.refl _ _, rfl⟩
  | some t, h =>
    obtain ⟨T, a, rfl⟩ := h.some_shape
    have h' := Lib.hid h
    clear h
    go_enter Tryz.func36, Tryz.ntmps36
    go_wp2
    go_ret
    refine ⟨_, rfl, (Below.refl _ _).alloc (Nat.le_refl _) _, w.heap.size, .iface T (.pointer (some a)), rfl, ?_, ?_, ?_, ErrAt.below ((Below.refl _ _).alloc (Nat.le_refl _) _) h'.out⟩ <;> simp
end Go.Proofs.YtilpckngghffoaaGreatDoor

namespace Go.Proofs.YtilpckngghffoaaGreatDoor
open Go.RowKit
set_option maxRecDepth 100000

theorem oneStrs : OneCell 31 9 (.string ⟨#[]⟩) 16 := ⟨by kernel_rfl, by kernel_rfl, rfl, by decide, fun _ => by kernel_rfl⟩

/-- What an edenraw.Err is in memory. -/
def EAt (w : World) (t : PErr) (v : Value) : Prop :=
  match t with
  | none => v = .agg #[.int .i64 0, .slice none 0 0, .slice none 0 0]
  | some (n, l) => ∃ a1 n1 c1 a2 n2 c2, v = .agg #[.int .i64 n, .slice a1 n1 c1, .slice a2 n2 c2] ∧ ValsAt w (.slice a1 n1 c1) (l.map fun x => Value.string x.1) ∧ IntsAt w (.slice a2 n2 c2) (l.map (·.2))

theorem EAt.below {w w' : World} {t : PErr} {v : Value} (h : EAt w t v) (hb : Below w.heap.size w w') : EAt w' t v := by
  match t, h with
  | none, h => exact h
  | some (n, l), ⟨a1, n1, c1, a2, n2, c2, e, h1, h2⟩ => exact ⟨a1, n1, c1, a2, n2, c2, e, h1.below hb, h2.below hb⟩

/-- An edenraw.Err whose lists this call made, from block B on. -/
def EOwn (B : Nat) (w : World) (t : PErr) (v : Value) : Prop :=
  match t with
  | none => v = .agg #[.int .i64 0, .slice none 0 0, .slice none 0 0]
  | some (n, l) => ∃ a1 n1 c1 a2 n2 c2, v = .agg #[.int .i64 n, .slice a1 n1 c1, .slice a2 n2 c2] ∧ OwnV 9 B w (.slice a1 n1 c1) (l.map fun x => Value.string x.1) ∧ OwnV 3 B w (.slice a2 n2 c2) ((l.map (·.2)).map (Value.int .i64))

theorem OwnV.setBelowBase {E : TypeId} {B : Nat} {w : World} {v : Value} {vs : List Value} (h : OwnV E B w v vs) {a : Addr} (ha : a.block < B) (u : Value) : OwnV E B (w.setCell a u) v vs := ownsRow_setCell_below h ha u
theorem EOwn.at {B : Nat} {w : World} {t : PErr} {v : Value} (h : EOwn B w t v) : EAt w t v := by
  match t, h with
  | none, h => exact h
  | some (n, l), ⟨a1, n1, c1, a2, n2, c2, e, h1, h2⟩ => exact ⟨a1, n1, c1, a2, n2, c2, e, h1.at, OwnI.at (OwnV.toI h2)⟩
theorem EOwn.mono {B B' : Nat} {w : World} {t : PErr} {v : Value} (h : EOwn B w t v) (hB : B' ≤ B) : EOwn B' w t v := by
  match t, h with
  | none, h => exact h
  | some (n, l), ⟨a1, n1, c1, a2, n2, c2, e, h1, h2⟩ => exact ⟨a1, n1, c1, a2, n2, c2, e, h1.mono hB, h2.mono hB⟩
theorem EOwn.below {B : Nat} {w w' : World} {t : PErr} {v : Value} (h : EOwn B w t v) (hb : Below w.heap.size w w') : EOwn B w' t v := by
  match t, h with
  | none, h => exact h
  | some (n, l), ⟨a1, n1, c1, a2, n2, c2, e, h1, h2⟩ => exact ⟨a1, n1, c1, a2, n2, c2, e, h1.below hb, h2.below hb⟩
theorem EOwn.set {B : Nat} {w : World} {t : PErr} {v : Value} (h : EOwn B w t v) {a : Addr} (ha : a.block < B) (u : Value) : EOwn B (w.setCell a u) t v := by
  match t, h with
  | none, h => exact h
  | some (n, l), ⟨a1, n1, c1, a2, n2, c2, e, h1, h2⟩ => exact ⟨a1, n1, c1, a2, n2, c2, e, h1.setBelowBase ha u, h2.setBelowBase ha u⟩
theorem EOwn.set3 {B b : Nat} {w : World} {t : PErr} {v : Value} (h : EOwn B w t v) (hb : b < B) (x y z : Value) : EOwn B (((w.setCell ⟨b, 0, none⟩ x).setCell ⟨b, 1, none⟩ y).setCell ⟨b, 2, none⟩ z) t v :=
  ((h.set (a := ⟨b, 0, none⟩) hb x).set (a := ⟨b, 1, none⟩) hb y).set (a := ⟨b, 2, none⟩) hb z
theorem Below.set3 {B b : Nat} {w0 w : World} (h : Below B w0 w) (hb : B ≤ b) (x y z : Value) : Below B w0 (((w.setCell ⟨b, 0, none⟩ x).setCell ⟨b, 1, none⟩ y).setCell ⟨b, 2, none⟩ z) :=
  ((h.setCell (p := ⟨b, 0, none⟩) hb x).setCell (p := ⟨b, 1, none⟩) hb y).setCell (p := ⟨b, 2, none⟩) hb z
theorem OwnV.lit {E : TypeId} (B : Nat) (w : World) (hB : B ≤ w.heap.size) (x : Value) : OwnV E B (w.alloc (.cells #[x] E)) (.slice (some ⟨w.heap.size, 0, none⟩) 1 1) [x] :=
  World.ownsRow_lit (base := B) (e := E) (size := 1) w #[x] 1 hB (by unfold maxLen; omega) rfl

theorem EAt.shape {w : World} {t : PErr} {v : Value} (h : EAt w t v) : ∃ n a1 n1 c1 a2 n2 c2, v = .agg #[.int .i64 n, .slice a1 n1 c1, .slice a2 n2 c2] := by
  match t, h with
  | none, h => exact ⟨0, none, 0, 0, none, 0, 0, h⟩
  | some (n, l), ⟨a1, n1, c1, a2, n2, c2, e, _⟩ => exact ⟨n, a1, n1, c1, a2, n2, c2, e⟩

abbrev zErr : Value := .agg #[.int .i64 0, .slice none 0 0, .slice none 0 0]
theorem EAt.none (w : World) : EAt w none zErr := rfl

set_option maxHeartbeats 1000000 in
theorem raw_root (r : Nat → Addr) (n : Int) (w : World) (hg : Glob r w) (h1 : 1 ≤ n) (h2 : n ≤ 11) :
    Calls Tryz.prog 43 #[.int .i64 n] w fun e w' => e = .returned (rootV r n) ∧ w = w' := by
  obtain ⟨c1, c2, c3, c4, c5, c6, c7, c8, c9, c10, c11, _, _, _⟩ := hg
  have hn : n = 1 ∨ n = 2 ∨ n = 3 ∨ n = 4 ∨ n = 5 ∨ n = 6 ∨ n = 7 ∨ n = 8 ∨ n = 9 ∨ n = 10 ∨ n = 11 := by omega
  rcases hn with rfl | rfl | rfl | rfl | rfl | rfl | rfl | rfl | rfl | rfl | rfl <;>
  (clear h1 h2
   go_enter Tryz.func43, Tryz.ntmps43
   go_wp2
   go_ret
   exact ⟨rfl, rfl⟩)

theorem err_bad (n : Int) (a1 : Option Addr) (n1 c1 : Nat) (a2 : Option Addr) (n2 c2 : Nat) (w : World) :
    Calls Tryz.prog 15 #[.agg #[.int .i64 n, .slice a1 n1 c1, .slice a2 n2 c2]] w (Ret1 (fun x _ => x = .bool (n != 0)) w) := by
  go_enter Tryz.func15, Tryz.ntmps15
  go_wp2
  go_ret
  exact ⟨_, rfl, (Below.refl _ _).alloc (Nat.le_refl _) _, rfl⟩

set_option maxHeartbeats 800000 in
theorem raw_new (op : ByteArray) (at_ n : Int) (w : World) :
    Calls Tryz.prog 46 #[.string op, .int .i64 at_, .int .i64 n] w (Ret1 (fun x w' => EOwn w.heap.size w' (fresh op at_ n) x) w) := by
  go_enter Tryz.func46, Tryz.ntmps46
  go_wp2
  refine bodyPost_ret (v := .agg #[.int .i64 n, .slice (some ⟨w.heap.size + 1, 0, none⟩) 1 1, .slice (some ⟨w.heap.size + 1 + 1, 0, none⟩) 1 1]) (by simp [results, Tryz.results46, go_sem]) rfl ⟨_, rfl, ?_, ?_⟩
  · exact (((Below.refl _ _).alloc (Nat.le_refl _) _).alloc (by simp) _).alloc (by simp; omega) _
  · have h1 := (OwnV.lit (E := 9) w.heap.size (w.alloc (.cells #[.int .i64 n, .slice (some ⟨w.heap.size + 1, 0, none⟩) 1 1, .slice (some ⟨w.heap.size + 1 + 1, 0, none⟩) 1 1] 33)) (by simp) (.string op)).alloc (.cells #[.int .i64 at_] 3)
    have h2 := OwnV.lit (E := 3) w.heap.size ((w.alloc (.cells #[.int .i64 n, .slice (some ⟨w.heap.size + 1, 0, none⟩) 1 1, .slice (some ⟨w.heap.size + 1 + 1, 0, none⟩) 1 1] 33)).alloc (.cells #[.string op] 9)) (by simp; omega) (.int .i64 at_)
    simp only [World.size_alloc] at h1 h2
    exact ⟨_, _, _, _, _, _, rfl, h1, h2⟩

theorem ValsAt.alloc {w : World} {v : Value} {vs : List Value} (h : ValsAt w v vs) (o : Obj) : ValsAt (w.alloc o) v vs := h.below ((Below.refl _ _).alloc (Nat.le_refl _) _)
theorem ValsAt.drew {w : World} {v : Value} {vs : List Value} (h : ValsAt w v vs) : ValsAt w.drew v vs := h
theorem ValsAt.split {w : World} {v : Value} {vs : List Value} (h : ValsAt w v vs) : (v = .slice none 0 0 ∧ vs = []) ∨ ∃ p cap, v = .slice (some p) vs.length cap ∧ ∀ j u, vs[j]? = some u → w.cell? (p.add j) = some u := by
  obtain ⟨a, cap, rfl, h1, h2, h3, h4⟩ := h
  cases a with
  | none =>
    obtain rfl := h3 rfl
    obtain rfl := List.length_eq_zero_iff.1 (show vs.length = 0 by omega)
    exact .inl ⟨rfl, rfl⟩
  | some p =>
    refine .inr ⟨p, cap, rfl, fun j u hj => ?_⟩
    have hjl : j < vs.length := (List.getElem?_eq_some_iff.1 hj).1
    have := h4 j hjl
    simp only [valAt] at this
    rw [this, ← hj]; simp [hjl]
theorem IntsAt.alloc {w : World} {v : Value} {xs : List Int} (h : IntsAt w v xs) (o : Obj) : IntsAt (w.alloc o) v xs := h.below ((Below.refl _ _).alloc (Nat.le_refl _) _)

/-- append([]T{x}, ys...) in a region that draws. -/
theorem step_under {T E : TypeId} {z : Value} {bytes : Nat} (oc : OneCell T E z bytes) {ops : Array Oper} {o : Oper} {a : Act} {w : World} {K : Act → World → Prop} {Q : Exit → Act → World → Prop} {Ep : Prop}
    (hg : o.guard = none) (s x : Operand) (hop : o.op = Op.call { callee := Callee.builtin Builtin.append, args := #[s, x], argTypes := #[T, T] })
    (b : Nat) (x0 : Value) (hs : a.eval s = .slice (some ⟨b, 0, none⟩) 1 1) (hb : w.cell? ⟨b, 0, none⟩ = some x0)
    (u : Value) (ys : List Value) (hx : a.eval x = u) (hu : ValsAt w u ys) (h0 : 0 < ys.length) (hl : ys.length ≤ 1000) (h1 : ∀ u ∈ ys, u.oneCell' = true)
    (hK : ∀ v' w', OwnV E w.heap.size w' v' (x0 :: ys) → Below w.heap.size w w' → K (a.put o.dst v') w') :
    if Region.wanted o (yielded ops a.tmps) = true then Oper.wp Tryz.prog o a w K Q else Ep := by
  obtain ⟨i, hi, hz0, hz1, hz2⟩ := info_parts oc.hi
  rcases hu.split with ⟨_, rfl⟩ | ⟨p, cap, rfl, hc⟩
  · simp at h0
  · have hb' := oc.hb
    refine step_append_grows hg s x T hop E i z 1 bytes oc.ht hi hz0 hz1 hz2 (by rw [oc.hz]; rfl) (by decide) (some ⟨b, 0, none⟩) 1 1 [x0] hs (fun h => by cases h) rfl
      (fun b' hb2 j u hj => by
        obtain rfl := Option.some.inj hb2
        obtain ⟨hj1, hj2⟩ := List.getElem?_eq_some_iff.1 hj
        obtain rfl : j = 0 := by simpa using hj1
        simp at hj2; subst hj2
        exact hb) p ys.length cap ys hx (by simp) hc h1 (by omega) (by unfold maxLen; omega) (by
          calc (1 + ys.length) * bytes ≤ 1001 * 32 := Nat.mul_le_mul (by omega) hb'
            _ ≤ _ := by decide) ?_
    intro v' w' hown hgr
    have hv : OwnV E w.heap.size w' v' (x0 :: ys) := by
      unfold OwnV
      rw [show (x0 :: ys).length = 1 + ys.length by simp; omega]
      exact hown
    exact hK v' w' hv ((Below.refl _ _).grown hgr (Nat.le_refl _) (by intro k hk; cases hk))

theorem raw_under_nil (op : ByteArray) (at_ : Int) (w : World) :
    Calls Tryz.prog 40 #[.string op, .int .i64 at_, zErr] w (Ret1 (fun x w' => EOwn w.heap.size w' none x) w) := by
  go_enter Tryz.func40, Tryz.ntmps40
  go_wp2
  refine bodyPost_ret (v := zErr) (by simp [results, Tryz.results40, go_sem]) rfl ⟨_, rfl, ?_, rfl⟩
  exact ((Below.refl _ _).alloc (Nat.le_refl _) _).alloc (by simp) _

end Go.Proofs.YtilpckngghffoaaGreatDoor

namespace Go.Proofs.YtilpckngghffoaaGreatDoor

theorem take_snoc (l : List Int) (k : Nat) (h : k < l.length) : l.take (k + 1) = l.take k ++ [l[k]] := by rw [List.take_succ_eq_append_getElem h]

def wI (K i : Nat) : Nat := if 1 < K then pw K i else 1
/-- How many factors p does not divide. -/
def cnt (p : Int) (f : List Int) : Nat := f.countP fun x => x % p != 0
/-! Products. -/
theorem Syms.getD {K : Int} {xs : List Int} (hK : 0 < K) (h : Syms K xs) (i : Nat) : 0 ≤ xs.getD i 0 ∧ xs.getD i 0 < K := by
  by_cases c : i < xs.length
  · simp only [List.getD, List.getElem?_eq_getElem c, Option.getD_some]
    exact h _ (by simp)
  · simp only [List.getD, List.getElem?_eq_none (Nat.le_of_not_lt c), Option.getD_none]
    omega
end Go.Proofs.YtilpckngghffoaaGreatDoor

namespace Go.Proofs.YtilpckngghffoaaGreatDoor

/-- permut.fits' answer. -/
def fitP (T : List Int) (rest W : Nat) (image : Int) : Nat → Nat → Nat
  | 0, _ => 0
  | n + 1, s => if T.getD (rest + s * W) 0 = image then s else fitP T rest W image n (s + 1)
def fit (K : Nat) (T : List Int) (rest W : Nat) (image : Int) : Nat := fitP T rest W image K 0
/-- The number of a word. -/
def numW (K : Nat) (xs : List Int) : Nat := xs.foldl (fun n x => n * K + x.toNat) 0
theorem numW_snoc (K : Nat) (xs : List Int) (x : Int) : numW K (xs ++ [x]) = numW K xs * K + x.toNat := by simp [numW]
theorem numW_lt {K : Nat} (xs : List Int) (h : Syms K xs) : numW K xs < pw K xs.length := by
  suffices H : ∀ ys zs, xs = ys ++ zs → numW K ys < pw K ys.length from H xs [] (by simp)
  intro ys
  induction hn : ys.length generalizing ys with
  | zero => intro zs _; have := List.eq_nil_of_length_eq_zero hn; subst this; simp [numW, pw]
  | succ n ih =>
    intro zs e
    have hne : ys ≠ [] := by intro e; subst e; simp at hn
    obtain ⟨b, x, rfl⟩ : ∃ b x, ys = b ++ [x] := ⟨ys.dropLast, ys.getLast hne, (List.dropLast_concat_getLast hne).symm⟩
    have hb : b.length = n := by simpa using hn
    have h1 := ih b hb ([x] ++ zs) (by rw [e]; simp)
    have hx := h x (by rw [e]; simp)
    rw [numW_snoc, pw_succ]
    have : (numW K b + 1) * K ≤ pw K n * K := Nat.mul_le_mul_right _ (by omega)
    rw [Nat.succ_mul] at this
    omega

theorem RuleOk.half {K R : Nat} {xs : List Int} (h : RuleOk K R xs) : xs.length / K = pw K (2 * R) ∧ xs.length = pw K (2 * R) * K := by
  have e := h.len
  rw [pw_succ] at e
  have := h.k1
  exact ⟨by rw [e, Nat.mul_div_cancel _ (by omega)], e⟩
end Go.Proofs.YtilpckngghffoaaGreatDoor

namespace Go.Proofs.YtilpckngghffoaaGreatDoor

/-- The window of a number. -/
def digs (K : Nat) : Nat → Nat → List Int
  | 0, _ => []
  | n + 1, x => digs K n (x / K) ++ [((x % K : Nat) : Int)]
theorem digs_length (K n x : Nat) : (digs K n x).length = n := by
  induction n generalizing x with
  | zero => rfl
  | succ n ih => simp [digs, ih]
theorem digs_syms {K : Nat} (hK : 1 ≤ K) (n x : Nat) : Syms K (digs K n x) := by
  induction n generalizing x with
  | zero => intro y hy; simp [digs] at hy
  | succ n ih =>
    intro y hy
    rw [digs, List.mem_append, List.mem_singleton] at hy
    rcases hy with hy | rfl
    · exact ih _ y hy
    · have := Nat.mod_lt x (show 0 < K by omega); omega
theorem numW_digs {K : Nat} (hK : 1 ≤ K) (n x : Nat) (hx : x < pw K n) : numW K (digs K n x) = x := by
  induction n generalizing x with
  | zero => simp [pw] at hx; subst hx; rfl
  | succ n ih =>
    rw [digs, numW_snoc, ih _ (by rw [Nat.div_lt_iff_lt_mul (by omega), ← pw_succ]; exact hx), Int.toNat_natCast]
    exact Nat.div_add_mod' x K

/-- The image of a word, window by window. -/
def imgP (K R : Nat) (T : List Int) (w : List Int) : List Int := (List.range (w.length - 2 * R)).map fun i => T.getD (numW K ((w.drop i).take (2 * R + 1))) 0
theorem imgP_length (K R : Nat) (T w : List Int) : (imgP K R T w).length = w.length - 2 * R := by simp [imgP]
theorem imgP_getD (K R : Nat) (T w : List Int) (i : Nat) (hi : i < w.length - 2 * R) : (imgP K R T w).getD i 0 = T.getD (numW K ((w.drop i).take (2 * R + 1))) 0 := by
  simp [imgP, List.getD, hi]
end Go.Proofs.YtilpckngghffoaaGreatDoor

namespace Go.Proofs.YtilpckngghffoaaGreatDoor

theorem numW_append (K : Nat) (u v : List Int) : numW K (u ++ v) = numW K u * pw K v.length + numW K v := by
  induction hn : v.length generalizing v with
  | zero =>
    obtain rfl := List.eq_nil_of_length_eq_zero hn
    simp [numW, pw]
  | succ n ih =>
    have hne : v ≠ [] := by intro e; subst e; simp at hn
    obtain ⟨b, x, rfl⟩ : ∃ b x, v = b ++ [x] := ⟨v.dropLast, v.getLast hne, (List.dropLast_concat_getLast hne).symm⟩
    have hb : b.length = n := by simpa using hn
    rw [← List.append_assoc, numW_snoc, numW_snoc, ih b hb, pw_succ, Nat.add_mul, Nat.mul_assoc]
    omega
theorem numW_mod {K : Nat} {u v : List Int} (h : Syms K v) : numW K (u ++ v) % pw K v.length = numW K v := by
  rw [numW_append, Nat.mul_comm, Nat.mul_add_mod, Nat.mod_eq_of_lt (numW_lt v h)]

theorem numW_step (K : Nat) (w : List Int) (x : Int) (L : Nat) : numW K (w ++ [x]) % L = (numW K w % L * K + x.toNat) % L := by
  rw [numW_snoc, Nat.add_mod, Nat.mul_mod, ← Nat.mod_mod (numW K w) L, ← Nat.mul_mod, ← Nat.add_mod, Nat.mod_mod]

/-- A window's digits, from the last on. -/
theorem digs_getD (K n x j : Nat) (hj : j < n) : (digs K n x).getD (n - 1 - j) 0 = ((x / pw K j % K : Nat) : Int) := by
  induction n generalizing x j with
  | zero => omega
  | succ n ih =>
    rw [digs]
    cases j with
    | zero =>
      rw [pw_zero, Nat.div_one, show n + 1 - 1 - 0 = (digs K n (x / K)).length by rw [digs_length]; omega]
      simp [List.getD]
    | succ j =>
      have h := ih (x / K) j (by omega)
      have hl : n + 1 - 1 - (j + 1) < (digs K n (x / K)).length := by rw [digs_length]; omega
      simp only [List.getD, List.getElem?_append_left hl] at h ⊢
      rw [show n + 1 - 1 - (j + 1) = n - 1 - j by omega, h, pw_succ, Nat.div_div_eq_div_mul, Nat.mul_comm]

/-- The window's list while it is filled from its end. -/
theorem digs_fill (K n x j : Nat) (hj : j < n) (p : List Int) (hp : p.length = n) :
    (p.take (n - j) ++ (digs K n x).drop (n - j)).set (n - 1 - j) ((x / pw K j % K : Nat) : Int) = p.take (n - (j + 1)) ++ (digs K n x).drop (n - (j + 1)) := by
  have hd := digs_getD K n x j hj
  have hdl := digs_length K n x
  rw [show n - (j + 1) = n - 1 - j by omega, show n - j = n - 1 - j + 1 by omega]
  have hm : n - 1 - j < n := by omega
  generalize n - 1 - j = m at hd hm
  rw [← hd, take_snoc p m (by omega), List.drop_eq_getElem_cons (show m < (digs K n x).length by omega), List.append_assoc, List.set_append_right _ _ (by simp; omega)]
  have e : m - (p.take m).length = 0 := by simp; omega
  rw [e]
  simp [List.getD, show m < (digs K n x).length by omega]
end Go.Proofs.YtilpckngghffoaaGreatDoor

namespace Go.Proofs.YtilpckngghffoaaGreatDoor
open Go.RowKit

/-- slices.IndexFunc at a function value that only looks. -/
theorem indexFunc_any (v b : Value) (F : Nat) (xs : List Int) (p : Int → Bool) (w : World) (h : IntsAt w v xs)
    (eg : ∀ args w, (callFunc F args).run Tryz.prog w = .ok (.enter F args) w)
    (hF : ∀ x : Int, x ∈ xs → Calls Tryz.prog F #[.int .i64 x, b] w fun e w' => e = .returned (.bool (p x)) ∧ w = w') :
    Calls Tryz.prog 97 #[v, .func (.func F) #[] #[b]] w fun e w' => e = .returned (.int .i64 (idxOf p xs)) ∧ w = w' := by
  have hlen := h.len
  have hm := h.len_le
  go_enter Tryz.func97, Tryz.ntmps97
  go_wp2
  go_loop [8] (fun i => ∃ k : Nat, k ≤ xs.length ∧ i = .int .i64 k ∧ ∀ j (hj : j < xs.length), j < k → p xs[j] = false) (fun i => xs.length - (intOf i).toNat)
  case atStart => exact ⟨0, by omega, rfl, by omega⟩
  case round =>
    obtain ⟨k, hk, rfl, hp⟩ := hrel
    replace hp := Lib.hid hp
    by_cases hlt : k < xs.length
    · have hi := h.idx k hlt
      have hc := h.cell k hlt
      have hf := Lib.hid (hF xs[k] (by simp))
      clear hF
      go_wp2_with fail
      refine hf.out.mono ?_
      rintro e w' ⟨rfl, rfl⟩
      cases hpk : p xs[k]
      · have HP := Lib.hid hpk
        go_wp2
        go_round
        case rel =>
          refine ⟨k+1, by omega, by go_num, ?_⟩
          intro j hj hjk
          by_cases e : j = k
          · subst e; exact HP.out
          · exact hp.out j hj (by omega)
        case measure => simp [intOf]; omega
      · have HP := Lib.hid hpk
        go_wp2
        go_ret
        exact ⟨ret_int (idxOf_at k hlt HP.out fun j hj h => hp.out j hj h).symm, rfl⟩
    · go_wp2
      go_ret
      refine ⟨ret_int (idxOf_neg fun x hx => ?_).symm, rfl⟩
      obtain ⟨j, hj, rfl⟩ := List.mem_iff_getElem.1 hx
      exact hp.out j hj (by omega)

theorem rule_wrong (r : Nat → Addr) (at_ n : Int) (w : World) (hg : Glob r w) (h1 : 1 ≤ n) (h2 : n ≤ 11) :
    Calls Tryz.prog 96 #[.int .i64 at_, .int .i64 n] w (Ret1 (fun v w' => ErrIs r w' (fresh sRule at_ n) v) w) := by
  go_enter Tryz.func96, Tryz.ntmps96
  go_wp2_with fail
  refine (new_any r _ at_ n w hg h1 h2).mono ?_
  rintro e w' ⟨v, rfl, hb, he⟩
  go_wp2
  go_ret
  exact ⟨_, rfl, hb, he⟩

theorem rule_odd1 (x k : Int) (b : Addr) (w : World) (hb : w.cell? b = some (.int .i64 k)) :
    Calls Tryz.prog 164 #[.int .i64 x, .pointer (some b)] w fun e w' => e = .returned (.bool (odd1 k x)) ∧ w = w' := by
  by_cases h : x < 0
  · have e : odd1 k x = true := by simp [odd1, h]
    rw [e]
    go_enter Tryz.func164, Tryz.ntmps164
    go_wp2
    go_ret
    exact ⟨rfl, rfl⟩
  · have e : odd1 k x = decide (k ≤ x) := by simp [odd1, h]
    rw [e]
    go_enter Tryz.func164, Tryz.ntmps164
    go_wp2
    go_ret
    exact ⟨ret_bool (by simp), rfl⟩

theorem eg_rule_odd1 (args : Array Value) (w : World) : (callFunc 164 args).run Tryz.prog w = .ok (.enter 164 args) w := by kernel_rfl

theorem rule_odd (k : Int) (v : Value) (xs : List Int) (w : World) (h : IntsAt w v xs) :
    Calls Tryz.prog 133 #[.int .i64 k, v] w (Ret1 (fun x _ => x = .int .i64 (idxOf (odd1 k) xs)) w) := by
  have h' := Lib.hid h
  clear h
  go_enter Tryz.func133, Tryz.ntmps133
  go_wp2_with fail
  refine (indexFunc_any v _ 164 xs (odd1 k) _ (h'.out.below ((Below.refl _ _).alloc (Nat.le_refl _) _)) eg_rule_odd1 (fun x _ => rule_odd1 x k _ _ (by simp))).mono ?_
  rintro e w' ⟨rfl, rfl⟩
  go_wp2
  go_ret
  exact ⟨_, rfl, (Below.refl _ _).alloc (Nat.le_refl _) _, rfl⟩

theorem size_ok (K R : Nat) (w : World) (h1 : 1 ≤ K) (h4 : K ≤ 4) (h3 : R ≤ 3) :
    Calls Tryz.prog 132 #[.int .i64 K, .int .i64 R] w fun e w' => e = .returned (.tuple #[.int .i64 (pw K (2 * R + 1)), .nilIface]) ∧ w = w' := by
  go_enter Tryz.func132, Tryz.ntmps132
  go_wp2
  go_loop [6, 25] (fun n i => ∃ k : Nat, k ≤ 2 * R ∧ i = .int .i64 k ∧ n = .int .i64 (pw K (k + 1))) (fun _ i => 2 * R - (intOf i).toNat)
  case atStart => exact ⟨0, by omega, rfl, by rw [pw_one]⟩
  case round =>
    obtain ⟨k, hk, rfl, rfl⟩ := hrel
    by_cases hlt : k < 2 * R
    · have hb := pw_le (i := k + 1 + 1) h1 h4 (by omega)
      have hs : ((pw K (k + 1 + 1) : Nat) : Int) = (pw K (k + 1) : Int) * (K : Int) := by rw [pw_succ]; simp
      have hb1 : 0 ≤ (pw K (k + 1) : Int) * (K : Int) := by rw [← hs]; omega
      have hb2 : (pw K (k + 1) : Int) * (K : Int) ≤ 16384 := by rw [← hs]; omega
      replace hs := Lib.hid hs
      go_wp2
      go_round
      case rel => exact ⟨k + 1, by omega, by go_num, by rw [hs.out]⟩
      case measure => simp [intOf]; omega
    · obtain rfl : k = 2 * R := by omega
      go_wp2
      go_ret2
      exact ⟨rfl, rfl⟩

theorem size_bad (r : Nat → Addr) (k R : Int) (w : World) (hg : Glob r w) (h : k < 1 ∨ 4 < k ∨ R < 0 ∨ 3 < R) :
    Calls Tryz.prog 132 #[.int .i64 k, .int .i64 R] w (Ret2 (fun x y w' => x = .int .i64 0 ∧ ErrIs r w' (fresh sRule 0 3) y) w) := by
  have hg' := Lib.hid hg
  clear hg
  by_cases h1 : k < 1
  · clear h
    go_enter Tryz.func132, Tryz.ntmps132
    go_wp2_with fail
    refine (rule_wrong r _ _ w hg'.out (by decide) (by decide)).mono ?_
    rintro e w' ⟨v, rfl, hb, he⟩
    go_wp2
    go_ret2
    exact ⟨_, _, rfl, hb, rfl, he⟩
  by_cases h2 : 4 < k
  · clear h
    go_enter Tryz.func132, Tryz.ntmps132
    go_wp2_with fail
    refine (rule_wrong r _ _ w hg'.out (by decide) (by decide)).mono ?_
    rintro e w' ⟨v, rfl, hb, he⟩
    go_wp2
    go_ret2
    exact ⟨_, _, rfl, hb, rfl, he⟩
  by_cases h3 : R < 0
  · clear h
    go_enter Tryz.func132, Tryz.ntmps132
    go_wp2_with fail
    refine (rule_wrong r _ _ w hg'.out (by decide) (by decide)).mono ?_
    rintro e w' ⟨v, rfl, hb, he⟩
    go_wp2
    go_ret2
    exact ⟨_, _, rfl, hb, rfl, he⟩
  have h4 : 3 < R := by omega
  clear h
  go_enter Tryz.func132, Tryz.ntmps132
  go_wp2_with fail
  refine (rule_wrong r _ _ w hg'.out (by decide) (by decide)).mono ?_
  rintro e w' ⟨v, rfl, hb, he⟩
  go_wp2
  go_ret2
  exact ⟨_, _, rfl, hb, rfl, he⟩
end Go.Proofs.YtilpckngghffoaaGreatDoor

namespace Go.Proofs.YtilpckngghffoaaGreatDoor
open Go.RowKit
set_option maxRecDepth 100000

/-- A call returns a bool; only draws were made. -/
def RetB (b : Bool) (w : World) (e : Ending) (w' : World) : Prop := ∃ n : Nat, e = .returned (.bool b) ∧ w' = w.drewN n
theorem RetB.below {b : Bool} {w w' : World} {e : Ending} (h : RetB b w e w') : e = .returned (.bool b) ∧ Below w.heap.size w w' := by
  obtain ⟨n, he, rfl⟩ := h
  exact ⟨he, below_drewN (Below.refl _ _) n⟩

/-- A []int is nil and empty, or it has an address. -/
theorem IntsAt.split {w : World} {v : Value} {xs : List Int} (h : IntsAt w v xs) : (v = .slice none 0 0 ∧ xs = []) ∨ ∃ p cap, v = .slice (some p) xs.length cap := by
  obtain ⟨a, cap, rfl, h1, h2, h3, h4⟩ := h
  cases a with
  | none =>
    obtain rfl := h3 rfl
    obtain rfl := List.length_eq_zero_iff.1 (show xs.length = 0 by omega)
    exact .inl ⟨rfl, rfl⟩
  | some p => exact .inr ⟨p, cap, rfl⟩

theorem clone_any (v : Value) (xs : List Int) (w : World) (h : IntsAt w v xs) (hl : xs.length ≤ 17592186044416) :
    Calls Tryz.prog 110 #[v] w (Ret1 (fun x w' => OwnI w.heap.size w' x xs) w) := by
  rcases h.split with ⟨rfl, rfl⟩ | ⟨p, cap, rfl⟩
  · have hn := fun w' => Lib.run_eql_slice_nil (P := Tryz.prog) w' _ _ none 0 0 0 0 uInts
    clear h
    go_enter Tryz.func110, Tryz.ntmps110
    go_wp2
    go_ret
    exact ⟨_, rfl, Below.refl _ _, OwnI.nil _ _⟩
  · have hn := fun w' => Lib.run_eql_slice_nil (P := Tryz.prog) w' _ _ (some p) xs.length cap 0 0 uInts
    have h' := Lib.hid h
    clear h
    go_enter Tryz.func110, Tryz.ntmps110
    go_wp2_with (at_builtin; refine wpl_append rfl _ _ rfl w.heap.size _ _ [] xs (OwnI.lit _ _ (Nat.le_refl _) [] (by decide) #[] rfl 0 rfl) (h'.out.below ((Below.refl _ _).alloc (Nat.le_refl _) _)) rfl rfl (by simpa using hl) (by simp) ?_)
    intro v' w' ho hb _ _
    go_wp2
    go_ret
    exact ⟨_, rfl, ((Below.refl _ _).alloc (Nat.le_refl _) _).trans hb, by simpa using ho⟩
end Go.Proofs.YtilpckngghffoaaGreatDoor

namespace Go.Proofs.YtilpckngghffoaaGreatDoor
open Go.RowKit
set_option maxRecDepth 100000

theorem ints_len (v u : Value) (xs ys : List Int) (w : World) (h : IntsAt w v xs) (k : IntsAt w u ys) (hne : xs.length ≠ ys.length) :
    Calls Tryz.prog 21 #[v, u] w (RetB false w) := by
  have h1 := h.len
  have h2 := k.len
  have hd : ((xs.length : Int) != (ys.length : Int)) = true := by simp; omega
  clear h k hne
  go_enter Tryz.func21, Tryz.ntmps21
  go_wp2
  go_ret
  exact ⟨0, rfl, rfl⟩

theorem ints_any (v u : Value) (xs ys : List Int) (w : World) (h : IntsAt w v xs) (k : IntsAt w u ys) :
    Calls Tryz.prog 21 #[v, u] w (RetB (decide (xs = ys)) w) := by
  by_cases hl : xs.length = ys.length
  case neg =>
    rw [show decide (xs = ys) = false by simp; intro e; exact hl (by rw [e])]
    exact ints_len v u xs ys w h k hl
  have h1 := h.len
  have h2 := k.len
  have hm := h.len_le
  have hd : ((xs.length : Int) != (ys.length : Int)) = false := by simp; omega
  have hl' := Lib.hid hl
  have hlt' : xs.length ≤ ys.length := by omega
  clear hl
  go_enter Tryz.func21, Tryz.ntmps21
  go_wp2
  go_loopw [5] (fun i wr => (∃ j : Nat, j ≤ xs.length ∧ i = .int .i64 j ∧ ∀ t (h1 : t < xs.length) (h2 : t < ys.length), t < j → xs[t] = ys[t]) ∧ ∃ n, wr = w.drewN n) (fun i _ => xs.length - (intOf i).toNat)
  case atStart => exact ⟨⟨0, by omega, rfl, by intro t _ _ h; omega⟩, 0, rfl⟩
  case round =>
    obtain ⟨⟨j, hj, rfl, hp⟩, n, rfl⟩ := hrel
    replace hp := Lib.hid hp
    by_cases hlt : j < xs.length
    · have i1 := h.idx j hlt
      have i2 := k.idx j (by omega)
      have c1 : w.cell? (valAt v j) = some (.int .i64 xs[j]) := h.cell j hlt
      have c2 : w.cell? (valAt u j) = some (.int .i64 ys[j]) := k.cell j (by omega)
      clear h k
      by_cases he : xs[j] = ys[j]
      · have hq : (xs[j] != ys[j]) = false := by simp [he]
        have hE := Lib.hid he
        clear he
        generalize hx : xs[j] = x at c1 hq
        generalize hy : ys[j] = y at c2 hq
        clear hx hy
        go_wp2
        go_quiet (fail)
        go_wp2
        go_roundw
        case rel =>
          refine ⟨⟨j + 1, by omega, by go_num, ?_⟩, _, rfl⟩
          intro t h1 h2 ht
          by_cases e : t = j
          · subst e; exact hE.out
          · exact hp.out t h1 h2 (by omega)
        case measure => simp [intOf]; omega
      · have hq : (xs[j] != ys[j]) = true := by simp [he]
        have hE := Lib.hid he
        clear he
        generalize hx : xs[j] = x at c1 hq
        generalize hy : ys[j] = y at c2 hq
        clear hx hy
        go_wp2
        go_quiet (fail)
        go_wp2
        go_ret
        refine ⟨_, ret_bool ?_, World.drewN_drewN ..⟩
        symm
        rw [decide_eq_false_iff_not]
        intro e
        exact hE.out (by subst e; rfl)
    · go_wp2
      go_ret
      refine ⟨_, ret_bool ?_, rfl⟩
      symm
      rw [decide_eq_true_iff]
      exact List.ext_getElem hl'.out fun t h1 h2 => hp.out t h1 h2 (by omega)
end Go.Proofs.YtilpckngghffoaaGreatDoor

namespace Go.Proofs.YtilpckngghffoaaGreatDoor
open Go.RowKit
set_option maxRecDepth 100000

/-- The marks. -/
def mkA (t : Nat) : Int := -2 * (t : Int) - 1
def mkB (t : Nat) : Int := -2 * (t : Int) - 2

/-- The lists of a list. -/
def vAt (vs : List Value) (t : Nat) : Value := vs.getD t undef
theorem ValsAt.cellV {w : World} {v : Value} {vs : List Value} (h : ValsAt w v vs) (i : Nat) (hi : i < vs.length) : w.cell? (valAt v i) = some (vAt vs i) := by
  rw [h.cell i hi]; simp [vAt, List.getD, hi]

/-- No two share memory, and none with the list that holds them. -/
structure Parted (lv : Value) (vs : List Value) : Prop where
  two : ∀ s t, s < vs.length → t < vs.length → s ≠ t → (vAt vs s).ownBlock = none ∨ (vAt vs s).ownBlock ≠ (vAt vs t).ownBlock
  top : ∀ i t, i < vs.length → t < vs.length → (vAt vs t).ownBlock ≠ some (valAt lv i).block

theorem ValsAt.grown {w w' : World} {row : Option Nat} {v : Value} {vs : List Value} (h : ValsAt w v vs) (hg : w.grownBy w' row) (hne : ∀ i, i < vs.length → row ≠ some (valAt v i).block) : ValsAt w' v vs :=
  h.cells_eq fun i hi => World.cell?_of_block (hg.block _ (h.blk i hi) (fun e => hne i hi e.symm))

/-- What list t reads once all are written over; and once it is grown. -/
def rA (X : Nat → List Int) (t : Nat) : List Int := List.replicate (X t).length (mkA t)
def rB (X : Nat → List Int) (t : Nat) (j : Nat) : List Int := rA X t ++ List.replicate j (mkB t)
theorem rB_zero (X : Nat → List Int) (t : Nat) : rB X t 0 = rA X t := by simp [rB]
theorem rB_succ (X : Nat → List Int) (t j : Nat) : rB X t (j + 1) = rB X t j ++ [mkB t] := by simp [rB, List.replicate_succ']
theorem grownBy_trans' {a b c : World} {row row' : Option Nat} (h : a.grownBy b row) (k : b.grownBy c row') (hr : ∀ i, row' = some i → a.heap.size ≤ i) : a.grownBy c row :=
  ⟨k.os.trans h.os, k.tape.trans h.tape, k.output.trans h.output, Nat.le_trans h.size k.size, fun i hi hne => (k.block i (Nat.lt_of_lt_of_le hi h.size) (fun e => by have := hr i e.symm; omega)).trans (h.block i hi hne)⟩

theorem OwnI.front {B : Nat} {w w' : World} {v v' : Value} {xs ys : List Int} (h : OwnI B w v xs) (h' : OwnI B w' v' (xs ++ ys)) (hb : roomOf v' = roomOf v) : OwnI B w' v xs :=
  OwnV.toI (OwnV.front h.toV (by simpa using h'.toV) hb)

theorem ownBlock_eq {B B' : Nat} {w w' : World} {v v' : Value} {xs ys : List Int} (h : OwnI B w v xs) (h' : OwnI B' w' v' ys) (hr : roomOf v' = roomOf v) : v'.ownBlock = v.ownBlock := by
  obtain ⟨a, n, c, e⟩ := h.at.shape
  obtain ⟨a', n', c', e'⟩ := h'.at.shape
  exact ownBlock_of_room e e' hr

/-- While list k grows. -/
structure Grows (B : Nat) (X : Nat → List Int) (k : Nat) (v : Value) (wi : World) (q : Nat) (g : Value) (wr : World) : Prop where
  own : OwnI B wr g (rB X k q)
  old : OwnI B wr v (rA X k)
  step : wi.grownBy wr v.ownBlock
  lt : ∀ b, v.ownBlock = some b → b < wi.heap.size
  at_ : (roomOf g = roomOf v) ∨ ∃ b, g.ownBlock = some b ∧ wi.heap.size ≤ b

theorem Grows.start {B : Nat} {X : Nat → List Int} {k : Nat} {v : Value} {wi : World} (h : OwnI B wi v (rA X k)) : Grows B X k v wi 0 v wi :=
  ⟨by rw [rB_zero]; exact h, h, World.grownBy.refl _ _, fun b hb => (h.lt b hb).2, .inl rfl⟩

theorem Grows.next {B : Nat} {X : Nat → List Int} {k : Nat} {v : Value} {wi : World} {q : Nat} {g : Value} {wr : World} (h : Grows B X k v wi q g wr) {g' : Value} {w' : World}
    (ho : OwnI B w' g' (rB X k q ++ [mkB k])) (ha : (roomOf g' = roomOf g ∧ wr.grownBy w' g.ownBlock) ∨ (∃ b, g'.ownBlock = some b ∧ wr.heap.size ≤ b ∧ wr.grownBy w' none)) : Grows B X k v wi (q + 1) g' w' := by
  rw [← rB_succ] at ho
  have hsz := h.step.size
  rcases ha with ⟨hr, hg⟩ | ⟨b, hb, hlt, hg⟩
  · rcases h.at_ with hat | ⟨b0, hb0, hlt0⟩
    · have e := ownBlock_eq h.old h.own hat
      rw [e] at hg
      exact ⟨ho, OwnI.front h.old (ys := List.replicate (q + 1) (mkB k)) ho (hr.trans hat), h.step.trans hg, h.lt, .inl (hr.trans hat)⟩
    · have e := ownBlock_eq h.own ho hr
      have hne : v.ownBlock = none ∨ v.ownBlock ≠ g.ownBlock := by
        cases hv : v.ownBlock with
        | none => exact .inl rfl
        | some kv =>
          right
          rw [hb0]
          intro e2
          simp at e2
          have := h.lt kv hv
          omega
      exact ⟨ho, h.old.kept hg hne, grownBy_trans' h.step hg (fun i hi => by rw [hb0] at hi; simp at hi; omega), h.lt, .inr ⟨b0, by rw [e]; exact hb0, hlt0⟩⟩
  · exact ⟨ho, h.old.kept hg (by cases hv : v.ownBlock <;> simp), grownBy_trans' h.step hg (by intro i hi; cases hi), h.lt, .inr ⟨b, hb, by omega⟩⟩

/-- What holds of the grown lists up to k. -/
structure Grown (B : Nat) (X : Nat → List Int) (vs : List Value) (gv : Value) (k : Nat) (gl : List Value) (wr : World) : Prop where
  own : ∀ t, t < k → OwnI B wr (vAt gl t) (rB X t 40)
  far : ∀ t s, t < k → s < vs.length → s ≠ t → (vAt vs s).ownBlock = none ∨ (vAt gl t).ownBlock ≠ (vAt vs s).ownBlock
  top : ∀ t, t < k → (vAt gl t).ownBlock ≠ gv.ownBlock

theorem ne_or {x row : Option Nat} (h : row = none ∨ x ≠ row) : x = none ∨ x ≠ row := by
  rcases h with rfl | h
  · cases x <;> simp
  · exact .inr h

theorem Grows.gv {B kg : Nat} {X : Nat → List Int} {k : Nat} {v g gv : Value} {wi wr : World} {gl : List Value} {q : Nat} (h : Grows B X k v wi q g wr) (hgo : OwnV 22 kg wi gv gl) (hne : gv.ownBlock ≠ v.ownBlock ∨ v.ownBlock = none) : OwnV 22 kg wr gv gl :=
  hgo.kept h.step (ne_or hne.symm)

end Go.Proofs.YtilpckngghffoaaGreatDoor

namespace Go.Proofs.YtilpckngghffoaaGreatDoor
open Go.RowKit

theorem Below.step {w1 w2 w3 : World} (h : Below w1.heap.size w1 w2) (k : Below w2.heap.size w2 w3) : Below w1.heap.size w1 w3 := h.trans (k.mono h.size)
theorem belowAlloc (w : World) (o : Obj) : Below w.heap.size w (w.alloc o) := (Below.refl _ _).alloc (Nat.le_refl _) _

/-- Lists of their own, from block lo on, one behind the other. -/
def Owns (w : World) : Nat → List Value → List (List Int) → Prop
  | lo, [], [] => lo ≤ w.heap.size
  | lo, v :: vs, x :: xs => ∃ hi, lo ≤ hi ∧ OwnI lo w v x ∧ (∀ k, v.ownBlock = some k → k < hi) ∧ Owns w hi vs xs
  | _, _, _ => False

theorem Owns.get {w : World} : ∀ {vs : List Value} {xs : List (List Int)} {lo : Nat}, Owns w lo vs xs → vs.length = xs.length ∧ ∀ t, t < vs.length → OwnI lo w (vAt vs t) (xs.getD t [])
  | [], [], _, _ => ⟨rfl, by intro t h; simp at h⟩
  | v :: vs, x :: xs, lo, ⟨hi, hle, ho, _, hr⟩ => by
    obtain ⟨hl, hg⟩ := Owns.get hr
    refine ⟨by simp [hl], fun t ht => ?_⟩
    cases t with
    | zero => exact ho
    | succ t => exact (hg t (by simpa using ht)).mono hle
  | [], _ :: _, _, h => h.elim
  | _ :: _, [], _, h => h.elim

theorem Owns.two {w : World} : ∀ {vs : List Value} {xs : List (List Int)} {lo : Nat}, Owns w lo vs xs → ∀ s t, s < vs.length → t < vs.length → s ≠ t → (vAt vs s).ownBlock = none ∨ (vAt vs s).ownBlock ≠ (vAt vs t).ownBlock
  | [], [], _, _, s, t, hs, _, _ => by simp at hs
  | v :: vs, x :: xs, lo, ⟨hi, hle, ho, hlt, hr⟩, s, t, hs, ht, hne => by
    have hg := (Owns.get hr).2
    have key : ∀ t, t < vs.length → ∀ k, v.ownBlock = some k → (vAt vs t).ownBlock ≠ some k := fun t ht k hk e => by
      have h1 := hlt k hk
      have h2 := ((hg t ht).lt k e).1
      omega
    match s, t, hs, ht, hne with
    | 0, 0, _, _, hne => exact absurd rfl hne
    | 0, t + 1, _, ht, _ =>
      show v.ownBlock = none ∨ v.ownBlock ≠ (vAt vs t).ownBlock
      cases hk : v.ownBlock with
      | none => exact .inl rfl
      | some k => exact .inr fun e => key t (by simpa using ht) k hk e.symm
    | s + 1, 0, hs, _, _ =>
      show (vAt vs s).ownBlock = none ∨ (vAt vs s).ownBlock ≠ v.ownBlock
      cases hk : v.ownBlock with
      | none => cases (vAt vs s).ownBlock <;> simp
      | some k => exact .inr (key s (by simpa using hs) k hk)
    | s + 1, t + 1, hs, ht, hne => exact Owns.two hr s t (by simpa using hs) (by simpa using ht) (by omega)
  | [], _ :: _, _, h, _, _, _, _, _ => h.elim
  | _ :: _, [], _, h, _, _, _, _, _ => h.elim

theorem Owns.alloc {w : World} (o : Obj) : ∀ {vs : List Value} {xs : List (List Int)} {lo : Nat}, Owns w lo vs xs → Owns (w.alloc o) lo vs xs
  | [], [], lo, h => by show lo ≤ (w.alloc o).heap.size; have : lo ≤ w.heap.size := h; simp; omega
  | v :: vs, x :: xs, lo, ⟨hi, hle, ho, hlt, hr⟩ => ⟨hi, hle, ho.alloc o, hlt, Owns.alloc o hr⟩
  | [], _ :: _, _, h => h.elim
  | _ :: _, [], _, h => h.elim

end Go.Proofs.YtilpckngghffoaaGreatDoor

namespace Go.Proofs.YtilpckngghffoaaGreatDoor
open Go.RowKit
set_option maxRecDepth 100000

theorem ref_bad (k : Int) (v : Value) (xs : List Int) (w : World) (h : IntsAt w v xs) :
    Calls Tryz.prog 47 #[.int .i64 k, v] w fun e w' => e = .returned (.int .i64 (idxOf (odd1 k) xs)) ∧ w = w' := by
  have hlen := h.len
  have hm := h.len_le
  go_enter Tryz.func47, Tryz.ntmps47
  go_wp2
  go_loop [5] (fun i => ∃ j : Nat, j ≤ xs.length ∧ i = .int .i64 j ∧ ∀ t (ht : t < xs.length), t < j → odd1 k xs[t] = false) (fun i => xs.length - (intOf i).toNat)
  case atStart => exact ⟨0, by omega, rfl, by omega⟩
  case round =>
    obtain ⟨j, hj, rfl, hp⟩ := hrel
    replace hp := Lib.hid hp
    by_cases hlt : j < xs.length
    · have hi := h.idx j hlt
      have hc := h.cell j hlt
      by_cases ho : odd1 k xs[j] = true
      · have ho' := ho
        simp only [odd1, Bool.or_eq_true, decide_eq_true_eq] at ho'
        have hres := Lib.hid (idxOf_at (p := odd1 k) j hlt ho fun t ht h => hp.out t ht h)
        clear ho
        generalize xs[j] = x at hc ho'
        by_cases h0 : x < 0
        · clear ho'
          go_wp2
          go_ret
          exact ⟨ret_int hres.out.symm, rfl⟩
        · have h1 : k ≤ x := by omega
          clear ho'
          go_wp2
          go_ret
          exact ⟨ret_int hres.out.symm, rfl⟩
      · have ho' : odd1 k xs[j] = false := by simpa using ho
        have hH := Lib.hid ho'
        have ho2 := odd1_false.1 ho'
        clear ho ho'
        have hh : ∀ x, xs[j] = x → x = xs[j] := fun x e => e.symm
        generalize hx : xs[j] = x at hc ho2
        replace hx := Lib.hid hx
        obtain ⟨g0, g1⟩ := ho2
        clear hh
        go_wp2
        go_round
        case rel =>
          refine ⟨j + 1, by omega, by go_num, ?_⟩
          intro t ht htj
          by_cases e : t = j
          · subst e; exact hH.out
          · exact hp.out t ht (by omega)
        case measure => simp [intOf]; omega
    · go_wp2
      go_ret
      refine ⟨ret_int (idxOf_neg fun x hx => ?_).symm, rfl⟩
      obtain ⟨t, ht, rfl⟩ := List.mem_iff_getElem.1 hx
      exact hp.out t ht (by omega)

theorem ref_power0 (K n : Nat) (w : World) (h1 : 1 ≤ K) (h4 : K ≤ 4) (hn : n ≤ 7) :
    Calls Tryz.prog 75 #[.int .i64 K, .int .i64 n] w fun e w' => e = .returned (.int .i64 (pw K n)) ∧ w = w' := by
  go_enter Tryz.func75, Tryz.ntmps75
  go_wp2
  go_loop [5, 6] (fun x i => ∃ j : Nat, j ≤ n ∧ i = .int .i64 j ∧ x = .int .i64 (pw K j)) (fun _ i => n - (intOf i).toNat)
  case atStart => exact ⟨0, by omega, rfl, rfl⟩
  case round =>
    obtain ⟨j, hj, rfl, rfl⟩ := hrel
    by_cases hlt : j < n
    · have hb := pw_le (i := j + 1) h1 h4 (by omega)
      have hs : ((pw K (j + 1) : Nat) : Int) = (pw K j : Int) * (K : Int) := by rw [pw_succ]; simp
      have hb1 : 0 ≤ (pw K j : Int) * (K : Int) := by rw [← hs]; omega
      have hb2 : (pw K j : Int) * (K : Int) ≤ 16384 := by rw [← hs]; omega
      replace hs := Lib.hid hs
      go_wp2
      go_round
      case rel => exact ⟨j + 1, by omega, by go_num, by rw [hs.out]⟩
      case measure => simp [intOf]; omega
    · obtain rfl : j = n := by omega
      go_wp2
      go_ret
      exact ⟨rfl, rfl⟩

theorem ref_power (k m : Int) (K n : Nat) (w : World) (hk : k = K) (hm : m = n) (h1 : 1 ≤ K) (h4 : K ≤ 4) (hn : n ≤ 7) :
    Calls Tryz.prog 75 #[.int .i64 k, .int .i64 m] w fun e w' => e = .returned (.int .i64 (pw K n)) ∧ w = w' := by
  subst hk hm
  exact ref_power0 K n w h1 h4 hn

theorem EOwn.shape {B : Nat} {w : World} {t : PErr} {v : Value} (h : EOwn B w t v) : ∃ n a1 n1 c1 a2 n2 c2, v = .agg #[.int .i64 n, .slice a1 n1 c1, .slice a2 n2 c2] := h.at.shape

/-- Two boxes of three cells: they stay. -/
theorem cells6 {w w1 : World} {x0 x1 x2 x3 x4 x5 : Value} {T1 T2 : TypeId} (hb : Below ((w.alloc (.cells #[x0, x1, x2] T1)).alloc (.cells #[x3, x4, x5] T2)).heap.size ((w.alloc (.cells #[x0, x1, x2] T1)).alloc (.cells #[x3, x4, x5] T2)) w1) :
    (w1.cell? ⟨w.heap.size, 0, none⟩ = some x0 ∧ w1.cell? ⟨w.heap.size, 1, none⟩ = some x1 ∧ w1.cell? ⟨w.heap.size, 2, none⟩ = some x2) ∧
    (w1.cell? ⟨w.heap.size + 1, 0, none⟩ = some x3 ∧ w1.cell? ⟨w.heap.size + 1, 1, none⟩ = some x4 ∧ w1.cell? ⟨w.heap.size + 1, 2, none⟩ = some x5) ∧
    (w1.frozen? ⟨w.heap.size + 1, 0, none⟩ = false ∧ w1.frozen? ⟨w.heap.size + 1, 1, none⟩ = false ∧ w1.frozen? ⟨w.heap.size + 1, 2, none⟩ = false) := by
  refine ⟨keep3 (n := w.heap.size) hb ⟨by simp [go_sem], by simp [go_sem], by simp [go_sem]⟩, ?_⟩
  have := cells3 hb
  rw [show (w.alloc (.cells #[x0, x1, x2] T1)).heap.size = w.heap.size + 1 by simp] at this
  exact ⟨⟨this.1, this.2.1, this.2.2.1⟩, this.2.2.2⟩

theorem undraw {w w1 : World} {n : Nat} (h : Below (w.drewN n).heap.size (w.drewN n) w1) : Below w.heap.size w w1 := (below_drewN (Below.refl w.heap.size w) n).trans h

theorem below_set3 {B b : Nat} {w0 w : World} (h : Below B w0 w) (hb : B ≤ b) (x y z : Value) : Below B w0 (((w.setCell ⟨b, 0, none⟩ x).setCell ⟨b, 1, none⟩ y).setCell ⟨b, 2, none⟩ z) :=
  ((h.setCell (p := ⟨b, 0, none⟩) hb x).setCell (p := ⟨b, 1, none⟩) hb y).setCell (p := ⟨b, 2, none⟩) hb z

theorem ref_check_k (k R : Int) (va : Option Addr) (vn vc : Nat) (w : World) (h : k < 1 ∨ 4 < k) :
    Calls Tryz.prog 131 #[.agg #[.int .i64 k, .int .i64 R, .slice va vn vc]] w (Ret1 (fun x w' => EOwn w.heap.size w' (fresh sRule 0 1) x) w) := by
  have b0 := Below.step (belowAlloc w (.cells #[.int .i64 k, .int .i64 R, .slice va vn vc] 24)) (belowAlloc _ (.cells #[.int .i64 0, .slice none 0 0, .slice none 0 0] 33))
  have d : (decide (k < 1) || decide (4 < k)) = true := by simpa using h
  by_cases h1 : k < 1
  · clear h d
    go_enter Tryz.func131, Tryz.ntmps131
    go_wp2_with fail
    refine (raw_new _ _ _ _).mono ?_
    rintro e w1 ⟨x, rfl, b1, he⟩
    obtain ⟨q, a1, n1, c1, a2, n2, c2, rfl⟩ := he.shape
    obtain ⟨-, ⟨y0, y1, y2⟩, f0, f1, f2⟩ := cells6 b1
    replace he := Lib.hid he
    go_wp2
    exact bodyPost_ret (v := .agg #[.int .i64 q, .slice a1 n1 c1, .slice a2 n2 c2]) (by simp [results, Tryz.results131, go_sem, y0, y1, y2]) rfl ⟨_, rfl, below_set3 (Below.step b0 b1) (by simp) _ _ _, (he.out.set3 (by simp) _ _ _).mono (by simp; omega)⟩
  · have h2 : 4 < k := by omega
    clear h d
    go_enter Tryz.func131, Tryz.ntmps131
    go_wp2_with fail
    refine (raw_new _ _ _ _).mono ?_
    rintro e w1 ⟨x, rfl, b1, he⟩
    obtain ⟨q, a1, n1, c1, a2, n2, c2, rfl⟩ := he.shape
    obtain ⟨-, ⟨y0, y1, y2⟩, f0, f1, f2⟩ := cells6 b1
    replace he := Lib.hid he
    go_wp2
    exact bodyPost_ret (v := .agg #[.int .i64 q, .slice a1 n1 c1, .slice a2 n2 c2]) (by simp [results, Tryz.results131, go_sem, y0, y1, y2]) rfl ⟨_, rfl, below_set3 (Below.step b0 b1) (by simp) _ _ _, (he.out.set3 (by simp) _ _ _).mono (by simp; omega)⟩

set_option maxHeartbeats 400000 in
theorem ref_check_r (K : Nat) (R : Int) (va : Option Addr) (vn vc : Nat) (w : World) (h1 : 1 ≤ K) (h4 : K ≤ 4) (h : R < 0 ∨ 3 < R) :
    Calls Tryz.prog 131 #[.agg #[.int .i64 K, .int .i64 R, .slice va vn vc]] w (Ret1 (fun x w' => EOwn w.heap.size w' (fresh sRule 1 1) x) w) := by
  have b0 := Below.step (belowAlloc w (.cells #[.int .i64 K, .int .i64 R, .slice va vn vc] 24)) (belowAlloc _ (.cells #[.int .i64 0, .slice none 0 0, .slice none 0 0] 33))
  rcases h with h | h
  · go_enter Tryz.func131, Tryz.ntmps131
    go_wp2_with fail
    refine (raw_new _ _ _ _).mono ?_
    rintro e w1 ⟨x, rfl, b1, he⟩
    obtain ⟨q, a1, n1, c1, a2, n2, c2, rfl⟩ := he.shape
    obtain ⟨-, ⟨y0, y1, y2⟩, f0, f1, f2⟩ := cells6 b1
    replace he := Lib.hid he
    go_wp2
    exact bodyPost_ret (v := .agg #[.int .i64 q, .slice a1 n1 c1, .slice a2 n2 c2]) (by simp [results, Tryz.results131, go_sem, y0, y1, y2]) rfl ⟨_, rfl, below_set3 (Below.step b0 b1) (by simp) _ _ _, (he.out.set3 (by simp) _ _ _).mono (by simp; omega)⟩
  · have h0 : 0 ≤ R := by omega
    go_enter Tryz.func131, Tryz.ntmps131
    go_wp2_with fail
    refine (raw_new _ _ _ _).mono ?_
    rintro e w1 ⟨x, rfl, b1, he⟩
    obtain ⟨q, a1, n1, c1, a2, n2, c2, rfl⟩ := he.shape
    obtain ⟨-, ⟨y0, y1, y2⟩, f0, f1, f2⟩ := cells6 b1
    replace he := Lib.hid he
    go_wp2
    exact bodyPost_ret (v := .agg #[.int .i64 q, .slice a1 n1 c1, .slice a2 n2 c2]) (by simp [results, Tryz.results131, go_sem, y0, y1, y2]) rfl ⟨_, rfl, below_set3 (Below.step b0 b1) (by simp) _ _ _, (he.out.set3 (by simp) _ _ _).mono (by simp; omega)⟩

set_option maxHeartbeats 400000 in
theorem ref_check_len (K R : Nat) (va : Option Addr) (vn vc : Nat) (xs : List Int) (w : World) (h : IntsAt w (.slice va vn vc) xs) (h1 : 1 ≤ K) (h4 : K ≤ 4) (h3 : R ≤ 3) (hl : xs.length ≠ pw K (2 * R + 1)) :
    Calls Tryz.prog 131 #[.agg #[.int .i64 K, .int .i64 R, .slice va vn vc]] w (Ret1 (fun x w' => EOwn w.heap.size w' (fresh sRule 2 1) x) w) := by
  have b0 := Below.step (belowAlloc w (.cells #[.int .i64 K, .int .i64 R, .slice va vn vc] 24)) (belowAlloc _ (.cells #[.int .i64 0, .slice none 0 0, .slice none 0 0] 33))
  have hlen := h.len
  have hne : ((xs.length : Int) != (pw K (2 * R + 1) : Int)) = true := by rw [bne_iff_ne]; omega
  clear h hl
  go_enter Tryz.func131, Tryz.ntmps131
  go_wp2
  go_quiet ((go_at_call 75; exact Calls.quiet_of_same ((ref_power _ _ K (2 * R + 1) _ rfl (by omega) h1 h4 (by omega)).mono fun _ _ ⟨a, b⟩ => ⟨a, b.symm⟩)))
  go_wp2_with fail
  refine (raw_new _ _ _ _).mono ?_
  rintro e w1 ⟨x, rfl, b1, he⟩
  replace b1 := undraw b1
  obtain ⟨q, a1, n1, c1, a2, n2, c2, rfl⟩ := he.shape
  obtain ⟨-, ⟨y0, y1, y2⟩, f0, f1, f2⟩ := cells6 b1
  replace he : Hid (EOwn ((w.alloc (.cells #[.int .i64 K, .int .i64 R, .slice va vn vc] 24)).alloc (.cells #[.int .i64 0, .slice none 0 0, .slice none 0 0] 33)).heap.size w1 _ _) := Lib.hid he
  go_wp2
  exact bodyPost_ret (v := .agg #[.int .i64 q, .slice a1 n1 c1, .slice a2 n2 c2]) (by simp [results, Tryz.results131, go_sem, y0, y1, y2]) rfl ⟨_, rfl, below_set3 (Below.step b0 b1) (by simp) _ _ _, (he.out.set3 (by simp) _ _ _).mono (by simp; omega)⟩

set_option maxHeartbeats 400000 in
theorem ref_check_odd (K R : Nat) (va : Option Addr) (vn vc : Nat) (xs : List Int) (i : Nat) (w : World) (h : IntsAt w (.slice va vn vc) xs) (h1 : 1 ≤ K) (h4 : K ≤ 4) (h3 : R ≤ 3) (hl : xs.length = pw K (2 * R + 1)) (hi : idxOf (odd1 K) xs = i) (hi' : i < xs.length) :
    Calls Tryz.prog 131 #[.agg #[.int .i64 K, .int .i64 R, .slice va vn vc]] w (Ret1 (fun x w' => EOwn w.heap.size w' (fresh sRule (3 + i) 1) x) w) := by
  have b0 := Below.step (belowAlloc w (.cells #[.int .i64 K, .int .i64 R, .slice va vn vc] 24)) (belowAlloc _ (.cells #[.int .i64 0, .slice none 0 0, .slice none 0 0] 33))
  have hlen := h.len
  have hb3 : i ≤ 20000 := by have := pw_le (i := 2 * R + 1) h1 h4 (by omega); omega
  have hne : ((xs.length : Int) != (pw K (2 * R + 1) : Int)) = false := by rw [bne_eq_false_iff_eq]; omega
  replace h := Lib.hid (h.below b0)
  clear hl hi'
  replace hi := Lib.hid hi
  go_enter Tryz.func131, Tryz.ntmps131
  go_wp2
  go_quiet ((go_at_call 75; exact Calls.quiet_of_same ((ref_power _ _ K (2 * R + 1) _ rfl (by omega) h1 h4 (by omega)).mono fun _ _ ⟨a, b⟩ => ⟨a, b.symm⟩)))
  go_wp2_with fail
  refine (ref_bad K _ xs _ (by exact h.out.drewN _)).mono ?_
  rintro e w1 ⟨rfl, rfl⟩
  rw [hi.out]
  go_wp2_with fail
  refine (raw_new _ _ _ _).mono ?_
  rintro e w1 ⟨x, rfl, b1, he⟩
  replace b1 := undraw b1
  obtain ⟨q, a1, n1, c1, a2, n2, c2, rfl⟩ := he.shape
  obtain ⟨-, ⟨y0, y1, y2⟩, f0, f1, f2⟩ := cells6 b1
  replace he : Hid (EOwn ((w.alloc (.cells #[.int .i64 K, .int .i64 R, .slice va vn vc] 24)).alloc (.cells #[.int .i64 0, .slice none 0 0, .slice none 0 0] 33)).heap.size w1 _ _) := Lib.hid he
  go_wp2
  exact bodyPost_ret (v := .agg #[.int .i64 q, .slice a1 n1 c1, .slice a2 n2 c2]) (by simp [results, Tryz.results131, go_sem, y0, y1, y2]) rfl ⟨_, rfl, below_set3 (Below.step b0 b1) (by simp) _ _ _, (he.out.set3 (by simp) _ _ _).mono (by simp; omega)⟩

set_option maxHeartbeats 400000 in
theorem ref_check_ok (K R : Nat) (va : Option Addr) (vn vc : Nat) (xs : List Int) (w : World) (h : IntsAt w (.slice va vn vc) xs) (hr : RuleOk K R xs) :
    Calls Tryz.prog 131 #[.agg #[.int .i64 K, .int .i64 R, .slice va vn vc]] w (Ret1 (fun x _ => x = zErr) w) := by
  have b0 := Below.step (belowAlloc w (.cells #[.int .i64 K, .int .i64 R, .slice va vn vc] 24)) (belowAlloc _ (.cells #[.int .i64 0, .slice none 0 0, .slice none 0 0] 33))
  obtain ⟨h1, h4, h3, hl, hs⟩ := hr
  have hlen := h.len
  have hne : ((xs.length : Int) != (pw K (2 * R + 1) : Int)) = false := by rw [bne_eq_false_iff_eq]; omega
  replace h := Lib.hid (h.below b0)
  clear hl
  have hi := Lib.hid hs.odd
  clear hs
  go_enter Tryz.func131, Tryz.ntmps131
  go_wp2
  go_quiet ((go_at_call 75; exact Calls.quiet_of_same ((ref_power _ _ K (2 * R + 1) _ rfl (by omega) h1 h4 (by omega)).mono fun _ _ ⟨a, b⟩ => ⟨a, b.symm⟩)))
  go_wp2_with fail
  refine (ref_bad K _ xs _ (by exact h.out.drewN _)).mono ?_
  rintro e w1 ⟨rfl, rfl⟩
  rw [hi.out]
  go_wp2
  exact bodyPost_ret (v := zErr) (by simp [results, Tryz.results131, go_sem]) rfl ⟨_, rfl, below_set3 (below_drewN b0 _) (by simp) _ _ _, rfl⟩

/-- edenref04.Check at every rule. -/
theorem ref_check (k R : Int) (va : Option Addr) (vn vc : Nat) (xs : List Int) (w : World) (h : IntsAt w (.slice va vn vc) xs) :
    Calls Tryz.prog 131 #[.agg #[.int .i64 k, .int .i64 R, .slice va vn vc]] w (Ret1 (fun x w' => EOwn w.heap.size w' (checkP k R xs) x) w) := by
  by_cases hk : k < 1 ∨ 4 < k
  · rw [checkP, if_pos hk]; exact ref_check_k k R va vn vc w hk
  obtain ⟨K, rfl⟩ := Int.eq_ofNat_of_zero_le (show 0 ≤ k by omega)
  by_cases hr : R < 0 ∨ 3 < R
  · rw [checkP, if_neg hk, if_pos hr]; exact ref_check_r K R va vn vc w (by omega) (by omega) hr
  obtain ⟨R, rfl⟩ := Int.eq_ofNat_of_zero_le (show 0 ≤ R by omega)
  by_cases hl : xs.length = pw K (2 * R + 1)
  · rcases syms_or K xs with hs | ⟨i, hi, hlt⟩
    · have hok : RuleOk K R xs := ⟨by omega, by omega, by omega, hl, hs⟩
      rw [hok.check]; exact (ref_check_ok K R va vn vc xs w h hok).mono fun _ _ ⟨x, a, b, c⟩ => ⟨x, a, b, c⟩
    · have : checkP K R xs = fresh sRule (3 + i) 1 := by
        rw [checkP, if_neg hk, if_neg hr, if_neg (by simp [hl]), if_neg (by omega), hi]
      rw [this]
      exact ref_check_odd K R va vn vc xs i w h (by omega) (by omega) (by omega) hl hi hlt
  · have : checkP K R xs = fresh sRule 2 1 := by
      rw [checkP, if_neg hk, if_neg hr, if_pos (by simpa using hl)]
    rw [this]
    exact ref_check_len K R va vn vc xs w h (by omega) (by omega) (by omega) hl
end Go.Proofs.YtilpckngghffoaaGreatDoor

namespace Go.Proofs.YtilpckngghffoaaGreatDoor
open Go.RowKit

theorem check_k (r : Nat → Addr) (k R : Int) (v : Value) (w : World) (hg : Glob r w) (h : k < 1 ∨ 4 < k) :
    Calls Tryz.prog 95 #[.agg #[.int .i64 k, .int .i64 R, v]] w (Ret1 (fun x w' => ErrIs r w' (fresh sRule 0 1) x) w) := by
  have hg' := Lib.hid (hg.below ((Below.refl _ _).alloc (Nat.le_refl _) (.cells #[.int .i64 k, .int .i64 R, v] 24)))
  clear hg
  rcases h with h | h <;>
  (go_enter Tryz.func95, Tryz.ntmps95
   go_wp2_with fail
   refine (rule_wrong r _ _ _ hg'.out (by decide) (by decide)).mono ?_
   rintro e w' ⟨x, rfl, hb, he⟩
   go_wp2
   go_ret
   exact ⟨_, rfl, ((Below.refl _ _).alloc (Nat.le_refl _) _).trans (hb.mono (by simp)), he⟩)

theorem check_r (r : Nat → Addr) (k R : Int) (v : Value) (w : World) (hg : Glob r w) (h1 : 1 ≤ k) (h4 : k ≤ 4) (h : R < 0 ∨ 3 < R) :
    Calls Tryz.prog 95 #[.agg #[.int .i64 k, .int .i64 R, v]] w (Ret1 (fun x w' => ErrIs r w' (fresh sRule 1 1) x) w) := by
  have hg' := Lib.hid (hg.below ((Below.refl _ _).alloc (Nat.le_refl _) (.cells #[.int .i64 k, .int .i64 R, v] 24)))
  clear hg
  go_enter Tryz.func95, Tryz.ntmps95
  go_wp2_with fail
  refine (size_bad r _ _ _ hg'.out (by omega)).mono ?_
  rintro e w1 ⟨x, y, rfl, hb, rfl, he⟩
  obtain ⟨T, a, rfl⟩ := he.some_shape
  clear he
  go_wp2_with fail
  refine (rule_wrong r _ _ _ (hg'.out.below hb) (by decide) (by decide)).mono ?_
  rintro e w' ⟨x, rfl, hb', he⟩
  go_wp2
  go_ret
  exact ⟨_, rfl, (((Below.refl _ _).alloc (Nat.le_refl _) _).trans (hb.mono (by simp))).trans (hb'.mono (by have := hb.size; simp at this; omega)), he⟩

theorem check_len (r : Nat → Addr) (K R : Nat) (v : Value) (xs : List Int) (w : World) (hg : Glob r w) (h : IntsAt w v xs) (h1 : 1 ≤ K) (h4 : K ≤ 4) (h3 : R ≤ 3) (hl : xs.length ≠ pw K (2 * R + 1)) :
    Calls Tryz.prog 95 #[.agg #[.int .i64 K, .int .i64 R, v]] w (Ret1 (fun x w' => ErrIs r w' (fresh sRule 2 1) x) w) := by
  have hg' := Lib.hid (hg.below ((Below.refl _ _).alloc (Nat.le_refl _) (.cells #[.int .i64 K, .int .i64 R, v] 24)))
  clear hg
  have hlen := h.len
  clear h
  have hne : ((xs.length : Int) != (pw K (2 * R + 1) : Int)) = true := by simp; omega
  clear hl
  go_enter Tryz.func95, Tryz.ntmps95
  go_wp2_with fail
  refine (size_ok K R _ h1 h4 h3).mono ?_
  rintro e w1 ⟨rfl, rfl⟩
  go_wp2_with fail
  refine (rule_wrong r _ _ _ hg'.out (by decide) (by decide)).mono ?_
  rintro e w' ⟨x, rfl, hb', he⟩
  go_wp2
  go_ret
  exact ⟨_, rfl, ((Below.refl _ _).alloc (Nat.le_refl _) _).trans (hb'.mono (by simp)), he⟩

theorem check_odd (r : Nat → Addr) (K R : Nat) (v : Value) (xs : List Int) (i : Nat) (w : World) (hg : Glob r w) (h : IntsAt w v xs) (h1 : 1 ≤ K) (h4 : K ≤ 4) (h3 : R ≤ 3) (hl : xs.length = pw K (2 * R + 1)) (hi : idxOf (odd1 K) xs = i) (hi' : i < xs.length) :
    Calls Tryz.prog 95 #[.agg #[.int .i64 K, .int .i64 R, v]] w (Ret1 (fun x w' => ErrIs r w' (fresh sRule (3 + i) 1) x) w) := by
  have hg' := Lib.hid (hg.below ((Below.refl _ _).alloc (Nat.le_refl _) (.cells #[.int .i64 K, .int .i64 R, v] 24)))
  clear hg
  have hm := h.len_le
  have h' := Lib.hid (h.below ((Below.refl _ _).alloc (Nat.le_refl _) (.cells #[.int .i64 K, .int .i64 R, v] 24)))
  have hlen := h.len
  clear h
  have hne : ((xs.length : Int) != (pw K (2 * R + 1) : Int)) = false := by simp; omega
  clear hl
  replace hi := Lib.hid hi
  go_enter Tryz.func95, Tryz.ntmps95
  go_wp2_with fail
  refine (size_ok K R _ h1 h4 h3).mono ?_
  rintro e w1 ⟨rfl, rfl⟩
  go_wp2_with fail
  refine (rule_odd K v xs _ h'.out).mono ?_
  rintro e w1 ⟨x, rfl, hb, rfl⟩
  rw [hi.out]
  have hlt : i < 9223372036854775807 := by omega
  have hb3 : (3 + (i : Int)) ≤ 9223372036854775807 := by
    have := pw_le (i := 2 * R + 1) h1 h4 (by omega)
    have : ¬ ((xs.length : Int) != (pw K (2 * R + 1) : Int)) = true := by rw [hne]; simp
    simp at this
    omega
  go_wp2_with fail
  refine (rule_wrong r _ _ _ (hg'.out.below hb) (by decide) (by decide)).mono ?_
  rintro e w' ⟨x, rfl, hb', he⟩
  go_wp2
  go_ret
  exact ⟨_, rfl, (((Below.refl _ _).alloc (Nat.le_refl _) _).trans (hb.mono (by simp))).trans (hb'.mono (by have := hb.size; simp at this; omega)), he⟩

theorem check_ok (K R : Nat) (v : Value) (xs : List Int) (w : World) (h : IntsAt w v xs) (hr : RuleOk K R xs) :
    Calls Tryz.prog 95 #[.agg #[.int .i64 K, .int .i64 R, v]] w (Ret1 (fun x _ => x = .nilIface) w) := by
  obtain ⟨h1, h4, h3, hl, hs⟩ := hr
  have h' := Lib.hid (h.below ((Below.refl _ _).alloc (Nat.le_refl _) (.cells #[.int .i64 K, .int .i64 R, v] 24)))
  have hlen := h.len
  clear h
  have hne : ((xs.length : Int) != (pw K (2 * R + 1) : Int)) = false := by simp; omega
  clear hl
  replace hs := Lib.hid hs
  go_enter Tryz.func95, Tryz.ntmps95
  go_wp2_with fail
  refine (size_ok K R _ h1 h4 h3).mono ?_
  rintro e w1 ⟨rfl, rfl⟩
  go_wp2_with fail
  refine (rule_odd K v xs _ h'.out).mono ?_
  rintro e w1 ⟨x, rfl, hb, rfl⟩
  rw [hs.out.odd]
  go_wp2
  go_ret
  exact ⟨_, rfl, (((Below.refl _ _).alloc (Nat.le_refl _) _).trans (hb.mono (by simp))), rfl⟩

/-- rule.Check at every rule. -/
theorem check_any (r : Nat → Addr) (k R : Int) (v : Value) (xs : List Int) (w : World) (hg : Glob r w) (h : IntsAt w v xs) :
    Calls Tryz.prog 95 #[.agg #[.int .i64 k, .int .i64 R, v]] w (Ret1 (fun x w' => ErrIs r w' (checkP k R xs) x) w) := by
  by_cases hk : k < 1 ∨ 4 < k
  · rw [checkP, if_pos hk]; exact check_k r k R v w hg hk
  by_cases hr : R < 0 ∨ 3 < R
  · rw [checkP, if_neg hk, if_pos hr]; exact check_r r k R v w hg (by omega) (by omega) hr
  obtain ⟨K, rfl⟩ := Int.eq_ofNat_of_zero_le (show 0 ≤ k by omega)
  obtain ⟨R, rfl⟩ := Int.eq_ofNat_of_zero_le (show 0 ≤ R by omega)
  by_cases hl : xs.length = pw K (2 * R + 1)
  · rcases syms_or K xs with hs | ⟨i, hi, hlt⟩
    · have hok : RuleOk K R xs := ⟨by omega, by omega, by omega, hl, hs⟩
      rw [hok.check]; exact check_ok K R v xs w h hok
    · have : checkP K R xs = fresh sRule (3 + i) 1 := by
        rw [checkP, if_neg hk, if_neg hr, if_neg (by simp [hl]), if_neg (by omega), hi]
      rw [this]
      exact check_odd r K R v xs i w hg h (by omega) (by omega) (by omega) hl hi hlt
  · have : checkP K R xs = fresh sRule 2 1 := by
      rw [checkP, if_neg hk, if_neg hr, if_pos (by simpa using hl)]
    rw [this]
    exact check_len r K R v xs w hg h (by omega) (by omega) (by omega) hl
end Go.Proofs.YtilpckngghffoaaGreatDoor

namespace Go.Proofs.YtilpckngghffoaaGreatDoor
open Go.RowKit
set_option maxRecDepth 100000

end Go.Proofs.YtilpckngghffoaaGreatDoor

namespace Go.Proofs.YtilpckngghffoaaGreatDoor
open Go.RowKit
set_option maxRecDepth 100000

end Go.Proofs.YtilpckngghffoaaGreatDoor

namespace Go.Proofs.YtilpckngghffoaaGreatDoor
open Go.RowKit
set_option maxRecDepth 100000

theorem ValsAt.shape {w : World} {v : Value} {vs : List Value} (h : ValsAt w v vs) : ∃ a n c, v = .slice a n c := by
  obtain ⟨a, cap, e, _⟩ := h; exact ⟨_, _, _, e⟩
theorem cell_keep {w w' : World} {b i : Nat} {x : Value} (hb : Below w.heap.size w w') (h : w.cell? ⟨b, i, none⟩ = some x) : w'.cell? ⟨b, i, none⟩ = some x :=
  (hb.cell (p := ⟨b, i, none⟩) (World.block_lt_of_cell? _ _ h)).trans h
theorem cell_alloc {w : World} {b i : Nat} {x : Value} (h : w.cell? ⟨b, i, none⟩ = some x) (o : Obj) : (w.alloc o).cell? ⟨b, i, none⟩ = some x := cell_keep ((Below.refl _ _).alloc (Nat.le_refl _) _) h
theorem cell_new {w : World} {b : Nat} {x : Value} {T : TypeId} (hb : b = w.heap.size) : (w.alloc (.cells #[x] T)).cell? ⟨b, 0, none⟩ = some x := by subst hb; simp
theorem cell_drew {w : World} {b i : Nat} {x : Value} (h : w.cell? ⟨b, i, none⟩ = some x) : w.drew.cell? ⟨b, i, none⟩ = some x := h

/-- Three cells of a variable of the call's own. -/
def Box3 (w : World) (b : Nat) (x0 x1 x2 : Value) : Prop := (w.cell? ⟨b, 0, none⟩ = some x0 ∧ w.cell? ⟨b, 1, none⟩ = some x1 ∧ w.cell? ⟨b, 2, none⟩ = some x2) ∧ w.frozen? ⟨b, 0, none⟩ = false ∧ w.frozen? ⟨b, 1, none⟩ = false ∧ w.frozen? ⟨b, 2, none⟩ = false
theorem Box3.below {w w' : World} {b : Nat} {x0 x1 x2 : Value} (h : Box3 w b x0 x1 x2) (hb : Below w.heap.size w w') : Box3 w' b x0 x1 x2 := by
  obtain ⟨⟨h0, h1, h2⟩, f0, f1, f2⟩ := h
  have hlt := World.block_lt_of_cell? _ _ h0
  exact ⟨⟨cell_keep hb h0, cell_keep hb h1, cell_keep hb h2⟩, (hb.frozen (p := ⟨b, 0, none⟩) hlt).trans f0, (hb.frozen (p := ⟨b, 1, none⟩) hlt).trans f1, (hb.frozen (p := ⟨b, 2, none⟩) hlt).trans f2⟩
theorem Box3.alloc {w : World} {b : Nat} {x0 x1 x2 : Value} (h : Box3 w b x0 x1 x2) (o : Obj) : Box3 (w.alloc o) b x0 x1 x2 := h.below ((Below.refl _ _).alloc (Nat.le_refl _) _)
theorem Box3.drew {w : World} {b : Nat} {x0 x1 x2 : Value} (h : Box3 w b x0 x1 x2) : Box3 w.drew b x0 x1 x2 := h
theorem OwnV.drew {E : TypeId} {B : Nat} {w : World} {v : Value} {vs : List Value} (h : OwnV E B w v vs) : OwnV E B w.drew v vs := h
theorem Below.allocL {w w' : World} (h : Below w.heap.size w w') (o : Obj) : Below w.heap.size w (w'.alloc o) := h.alloc h.size o
theorem Below.stepL {w1 w2 w3 : World} (h : Below w1.heap.size w1 w2) (k : Below w2.heap.size w2 w3) : Below w1.heap.size w1 w3 := h.trans (k.mono h.size)
theorem belowAlloc' (w : World) (o : Obj) : Below w.heap.size w (w.alloc o) := (Below.refl _ _).alloc (Nat.le_refl _) _
theorem Below.drewL {w w' : World} {n : Nat} (h : Below n w w') : Below n w w'.drew := h.drew

set_option maxHeartbeats 1000000 in
theorem raw_under_some (op : ByteArray) (at_ : Int) (n : Int) (l : List (ByteArray × Int)) (v : Value) (w : World) (h : EAt w (some (n, l)) v) (hn : 1 ≤ n) (hl : 1 ≤ l.length) (hl2 : l.length ≤ 1000) :
    Calls Tryz.prog 40 #[.string op, .int .i64 at_, v] w (Ret1 (fun x w' => EOwn w.heap.size w' (under op at_ (some (n, l))) x) w) := by
  obtain ⟨a1, n1, c1, a2, n2, c2, rfl, hv, hi⟩ := h
  have b2 := (Below.refl w.heap.size w).alloc (Nat.le_refl _) (.cells #[.int .i64 n, .slice a1 n1 c1, .slice a2 n2 c2] 33) |>.alloc (by simp) (.cells #[.int .i64 0, .slice none 0 0, .slice none 0 0] 33)
  have hn0 : (n == 0) = false := by rw [beq_eq_false_iff_ne]; omega
  have hvl : 0 < (l.map fun x => Value.string x.1).length := by simp; omega
  have hvl2 : (l.map fun x => Value.string x.1).length ≤ 1000 := by simpa using hl2
  have hil : 0 < ((l.map (·.2)).map (Value.int .i64)).length := by simp; omega
  have hil2 : ((l.map (·.2)).map (Value.int .i64)).length ≤ 1000 := by simpa using hl2
  have hv1 : Hid (∀ u ∈ (l.map fun x => Value.string x.1), u.oneCell' = true) := by intro u hu; obtain ⟨y, _, rfl⟩ := List.mem_map.1 hu; rfl
  have hi1 : Hid (∀ u ∈ ((l.map (·.2)).map (Value.int .i64)), u.oneCell' = true) := by intro u hu; obtain ⟨y, _, rfl⟩ := List.mem_map.1 hu; rfl
  replace hv := Lib.hid (hv.below b2)
  replace hi := Lib.hid (hi.below b2).vals
  have hpost : ∀ (a1 : Option Addr) (n1 c1 : Nat) (a2 : Option Addr) (n2 c2 : Nat) (w' : World), OwnV 9 (w.heap.size + 2) w' (.slice a1 n1 c1) (.string op :: l.map fun x => Value.string x.1) → OwnV 3 (w.heap.size + 2) w' (.slice a2 n2 c2) (.int .i64 at_ :: (l.map (·.2)).map (Value.int .i64)) → EOwn w.heap.size w' (under op at_ (some (n, l))) (.agg #[.int .i64 n, .slice a1 n1 c1, .slice a2 n2 c2]) :=
    fun a1 n1 c1 a2 n2 c2 w' h1 h2 => ⟨_, _, _, _, _, _, rfl, h1.mono (by omega), h2.mono (by omega)⟩
  replace hpost := Lib.hid hpost
  generalize (l.map fun x => Value.string x.1) = LS at *
  generalize ((l.map (·.2)).map (Value.int .i64)) = LI at *
  go_enter Tryz.func40, Tryz.ntmps40
  go_wp2
  have yy : Box3 ((w.alloc (.cells #[.int .i64 n, .slice a1 n1 c1, .slice a2 n2 c2] 33)).alloc (.cells #[.int .i64 0, .slice none 0 0, .slice none 0 0] 33)) (w.heap.size + 1) (.int .i64 0) (.slice none 0 0) (.slice none 0 0) := by simp [Box3, go_sem]
  have z0 : ((w.alloc (.cells #[.int .i64 n, .slice a1 n1 c1, .slice a2 n2 c2] 33)).alloc (.cells #[.int .i64 0, .slice none 0 0, .slice none 0 0] 33)).cell? ⟨w.heap.size, 0, none⟩ = some (.int .i64 n) := by simp
  have z1 : ((w.alloc (.cells #[.int .i64 n, .slice a1 n1 c1, .slice a2 n2 c2] 33)).alloc (.cells #[.int .i64 0, .slice none 0 0, .slice none 0 0] 33)).cell? ⟨w.heap.size, 1, none⟩ = some (.slice a1 n1 c1) := by simp
  have z2 : ((w.alloc (.cells #[.int .i64 n, .slice a1 n1 c1, .slice a2 n2 c2] 33)).alloc (.cells #[.int .i64 0, .slice none 0 0, .slice none 0 0] 33)).cell? ⟨w.heap.size, 2, none⟩ = some (.slice a2 n2 c2) := by simp
  obtain ⟨W, hW⟩ : ∃ W : World, W = ((w.alloc (.cells #[.int .i64 n, .slice a1 n1 c1, .slice a2 n2 c2] 33)).alloc (.cells #[.int .i64 0, .slice none 0 0, .slice none 0 0] 33)) := ⟨_, rfl⟩
  have hWs : w.heap.size + 2 ≤ W.heap.size := by rw [hW]; simp
  rw [← hW] at b2 hv hi yy z0 z1 z2 ⊢
  clear hW
  go_region_held3 (fun w' => w'.cell? ⟨w.heap.size, 0, none⟩ = some (.int .i64 n) ∧ w'.cell? ⟨w.heap.size, 1, none⟩ = some (.slice a1 n1 c1) ∧ w'.cell? ⟨w.heap.size, 2, none⟩ = some (.slice a2 n2 c2))
    (first | exact ⟨z0, z1, z2⟩ | exact ⟨kS0, kS1, kS2⟩ | exact ⟨kI0, kI1, kI2⟩ | (simp [kI0, kI1, kI2, World.cell?_setCell_far]; done) | (simp [kS0, kS1, kS2, World.cell?_setCell_far]; done) | ((refine ⟨?_, ?_, ?_⟩) <;> (repeat (first | with_reducible exact z0 | with_reducible exact z1 | with_reducible exact z2 | with_reducible exact kS0 | with_reducible exact kS1 | with_reducible exact kS2 | with_reducible exact kI0 | with_reducible exact kI1 | with_reducible exact kI2 | with_reducible refine cell_drew ?_ | with_reducible refine cell_alloc ?_ _))))
    (first
    | (refine step_under oneStrs rfl _ _ rfl _ (.string op) rfl ?_ (.slice a1 n1 c1) LS rfl ?_ hvl hvl2 hv1.out ?_
       · repeat (first | with_reducible refine cell_drew ?_ | with_reducible refine cell_new (by simp; done) | with_reducible refine cell_alloc ?_ _ | with_reducible refine cell_keep hbI ?_)
       · repeat (first | with_reducible exact hv.out | with_reducible refine ValsAt.drew ?_ | with_reducible refine ValsAt.alloc ?_ _ | with_reducible refine ValsAt.below ?_ hbI)
       intro vS wS hS hbS
       obtain ⟨sa, sn, sc, rfl⟩ := hS.shape
       have eS : Below W.heap.size W wS := Below.stepL (by repeat (first | with_reducible exact Below.refl _ _ | with_reducible refine Below.drewL ?_ | with_reducible refine Below.allocL ?_ _)) hbS
       have mS : OwnV 9 (w.heap.size + 2) wS (.slice sa sn sc) (.string op :: LS) := hS.mono (by simp; omega)
       have kS0 : wS.cell? ⟨w.heap.size, 0, none⟩ = some (.int .i64 n) := cell_keep hbS (by repeat (first | with_reducible exact z0 | with_reducible exact kI0 | with_reducible refine cell_drew ?_ | with_reducible refine cell_alloc ?_ _))
       have kS1 : wS.cell? ⟨w.heap.size, 1, none⟩ = some (.slice a1 n1 c1) := cell_keep hbS (by repeat (first | with_reducible exact z1 | with_reducible exact kI1 | with_reducible refine cell_drew ?_ | with_reducible refine cell_alloc ?_ _))
       have kS2 : wS.cell? ⟨w.heap.size, 2, none⟩ = some (.slice a2 n2 c2) := cell_keep hbS (by repeat (first | with_reducible exact z2 | with_reducible exact kI2 | with_reducible refine cell_drew ?_ | with_reducible refine cell_alloc ?_ _))
       have yS : Box3 wS (w.heap.size + 1) (.int .i64 0) (.slice none 0 0) (.slice none 0 0) := Box3.below (by repeat (first | with_reducible exact yy | with_reducible exact yI | with_reducible refine Box3.drew ?_ | with_reducible refine Box3.alloc ?_ _)) hbS
       have yS' := yS
       obtain ⟨⟨qS0, qS1, qS2⟩, gS0, gS1, gS2⟩ := yS')
    | (refine step_under oneInts rfl _ _ rfl _ (.int .i64 at_) rfl ?_ (.slice a2 n2 c2) LI rfl ?_ hil hil2 hi1.out ?_
       · repeat (first | with_reducible refine cell_drew ?_ | with_reducible refine cell_new (by simp; done) | with_reducible refine cell_alloc ?_ _ | with_reducible refine cell_keep hbS ?_)
       · repeat (first | with_reducible exact hi.out | with_reducible refine ValsAt.drew ?_ | with_reducible refine ValsAt.alloc ?_ _ | with_reducible refine ValsAt.below ?_ hbS)
       intro vI wI hI hbI
       obtain ⟨ia, im, ic, rfl⟩ := hI.shape
       have eI : Below W.heap.size W wI := Below.stepL (by repeat (first | with_reducible exact eS | with_reducible refine Below.drewL ?_ | with_reducible refine Below.allocL ?_ _)) hbI
       have mI : OwnV 3 (w.heap.size + 2) wI (.slice ia im ic) (.int .i64 at_ :: LI) := hI.mono (by have := eS.size; simp; omega)
       have mS' : OwnV 9 (w.heap.size + 2) wI (.slice sa sn sc) (.string op :: LS) := OwnV.below (by repeat (first | with_reducible exact mS | with_reducible refine OwnV.drew ?_ | with_reducible refine OwnV.alloc ?_ _)) hbI
       have kI0 : wI.cell? ⟨w.heap.size, 0, none⟩ = some (.int .i64 n) := cell_keep hbI (by repeat (first | with_reducible exact z0 | with_reducible exact kS0 | with_reducible refine cell_drew ?_ | with_reducible refine cell_alloc ?_ _))
       have kI1 : wI.cell? ⟨w.heap.size, 1, none⟩ = some (.slice a1 n1 c1) := cell_keep hbI (by repeat (first | with_reducible exact z1 | with_reducible exact kS1 | with_reducible refine cell_drew ?_ | with_reducible refine cell_alloc ?_ _))
       have kI2 : wI.cell? ⟨w.heap.size, 2, none⟩ = some (.slice a2 n2 c2) := cell_keep hbI (by repeat (first | with_reducible exact z2 | with_reducible exact kS2 | with_reducible refine cell_drew ?_ | with_reducible refine cell_alloc ?_ _))
       have yI : Box3 wI (w.heap.size + 1) (.int .i64 0) (.slice none 0 0) (.slice none 0 0) := Box3.below (by repeat (first | with_reducible exact yy | with_reducible exact yS | with_reducible refine Box3.drew ?_ | with_reducible refine Box3.alloc ?_ _)) hbI
       have yI' := yI
       obtain ⟨⟨qI0, qI1, qI2⟩, gI0, gI1, gI2⟩ := yI'))
  all_goals
    have hE := Lib.hid (hpost.out sa sn sc ia im ic _ (((mS'.setBelowBase (a := ⟨w.heap.size + 1, 0, none⟩) (by simp) (.int .i64 n)).setBelowBase (a := ⟨w.heap.size + 1, 1, none⟩) (by simp) (.slice sa sn sc)).setBelowBase (a := ⟨w.heap.size + 1, 2, none⟩) (by simp) (.slice ia im ic)) (((mI.setBelowBase (a := ⟨w.heap.size + 1, 0, none⟩) (by simp) (.int .i64 n)).setBelowBase (a := ⟨w.heap.size + 1, 1, none⟩) (by simp) (.slice sa sn sc)).setBelowBase (a := ⟨w.heap.size + 1, 2, none⟩) (by simp) (.slice ia im ic)))
    have hB := Lib.hid ((((b2.trans (eI.mono b2.size)).setCell (p := ⟨w.heap.size + 1, 0, none⟩) (by simp) (.int .i64 n)).setCell (p := ⟨w.heap.size + 1, 1, none⟩) (by simp) (.slice sa sn sc)).setCell (p := ⟨w.heap.size + 1, 2, none⟩) (by simp) (.slice ia im ic))
    clear mS mS' mI eS eI kS0 kS1 kS2 kI0 kI1 kI2 yS qS0 qS1 qS2 gS0 gS1 gS2 hS hI hbS hbI
    go_wp2
    exact bodyPost_ret (v := .agg #[.int .i64 n, .slice sa sn sc, .slice ia im ic]) (by simp [results, Tryz.results40, go_sem, qI0, qI1, qI2]) rfl ⟨_, rfl, hB.out, hE.out⟩
end Go.Proofs.YtilpckngghffoaaGreatDoor

namespace Go.Proofs.YtilpckngghffoaaGreatDoor
open Go.RowKit Go.Extern.Stop Go.Stop Go.Extern
set_option maxRecDepth 100000
namespace Errs

theorem typeOfE (v : Value) (w : World) : (ReflectliteType.typeOf #[.iface 238 v]).run Tryz.prog w = .ok (.iface 169 (.agg #[.pointer (some ⟨13, 238, none⟩)])) w := by kernel_rfl
theorem comparableE (w : World) : ((ReflectliteType.method fun t => do Rtype.noPackHeld "Comparable" t; (fun a => Value.bool a.comparable) <$> typeInfo t) #[.agg #[.pointer (some ⟨13, 238, none⟩)]]).run Tryz.prog w = .ok (.bool true) w := by kernel_rfl
theorem methodComparable (v : Value) (w : World) : (Go.method 371 169 v "Comparable").run Tryz.prog w = .ok (212, v) w := by kernel_rfl
theorem compE : (Tryz.prog.info? 238).map (·.comparable) = some true := by kernel_rfl
theorem sizeE : (Tryz.prog.info? 259).map (·.size) = some 1 := by kernel_rfl
theorem uErr : Tryz.prog.underlying 28 = some (.interface #[("Error", 239)]) := by kernel_rfl
theorem uES : Tryz.prog.underlying 238 = some (.pointer 259) := by kernel_rfl
theorem uIs : Tryz.prog.underlying 171 = some (.interface #[("Is", 173)]) := by kernel_rfl
theorem uUnw : Tryz.prog.underlying 174 = some (.interface #[("Unwrap", 175)]) := by kernel_rfl
theorem noIsF (v : Value) (xT : TypeId) (w : World) : (Instr.typeAssert (.iface 80 v) xT 171 true).run Tryz.prog w = .ok (.tuple #[.nilIface, .bool false]) w := run_typeAssert_lacksB uIs (by kernel_rfl) (by kernel_rfl) v xT w
theorem hasUnwrapF (v : Value) (xT : TypeId) (w : World) : (Instr.typeAssert (.iface 80 v) xT 174 true).run Tryz.prog w = .ok (.tuple #[.iface 80 v, .bool true]) w := run_typeAssert_hasB uUnw (by kernel_rfl) v xT w
theorem methodUnwrap (v : Value) (w : World) : (Go.method 371 80 v "Unwrap").run Tryz.prog w = .ok (206, v) w := by kernel_rfl

theorem unwrap_any (p : Nat) (u : Value) (w : World) (h : w.cell? ⟨p, 2, none⟩ = some u) :
    Calls Tryz.prog 206 #[.pointer (some ⟨p, 0, none⟩)] w fun e w' => e = .returned u ∧ w = w' := by
  go_enter Tryz.func206, Tryz.ntmps206
  go_wp2
  go_ret
  exact ⟨rfl, rfl⟩

set_option maxHeartbeats 800000 in
theorem is_loop (r : Nat → Addr) (n : Int) (l : List (ByteArray × Int)) (v : Value) (w : World) (h : ErrAt r w n l v) :
    Calls Tryz.prog 88 #[v, rootV r n, .bool true] w fun e w' => e = .returned (.bool true) ∧ w = w' := by
  obtain ⟨i, hi, hcmp⟩ := Option.map_eq_some_iff.1 compE
  obtain ⟨j, hj, hjs⟩ := Option.map_eq_some_iff.1 sizeE
  have heq := run_eql_iface_ptr_same (P := Tryz.prog) w (r n.toNat) uErr uES hi hcmp hj
  have nF := noIsF
  have uF := hasUnwrapF
  have mU := methodUnwrap
  clear hi hcmp hj hjs
  replace h := Lib.hid h
  go_enter Tryz.func88, Tryz.ntmps88
  go_wp2
  go_loopg [0] l.length (fun k u wr => wr = w ∧ ∃ l', l'.length = k ∧ ErrAt r w n l' u)
  case atStart => exact ⟨rfl, l, rfl, h.out⟩
  case round =>
    obtain ⟨rfl, l', hl', hu⟩ := hrel
    match l', hl', hu with
    | [], hl', hu =>
      obtain rfl : _ = rootV r n := hu
      clear hl'
      go_wp2
      go_ret
      exact ⟨rfl, rfl⟩
    | (op, at_) :: rest, hl', hu =>
      obtain ⟨p, u', rfl, c0, c1, c2, hrest⟩ := hu
      obtain ⟨T, a, rfl⟩ := hrest.shape
      have hty := run_eql_iface_types (P := Tryz.prog) 80 238 (.pointer (some ⟨p, 0, none⟩)) (.pointer (some (r n.toNat))) uErr (by decide) wr
      replace hrest := Lib.hid hrest
      replace hl' := Lib.hid hl'
      go_wp2_with (go_at_call 206; refine (unwrap_any p _ _ c2).mono ?_; rintro e w' ⟨rfl, rfl⟩)
      go_roundg rest.length
      case measure => have := hl'.out; simp at this; omega
      case rel => exact ⟨rfl, rest, rfl, hrest.out⟩

/-- errors.Is at a chain of Faults and the error that it ends in. -/
theorem is_any (r : Nat → Addr) (n : Int) (l : List (ByteArray × Int)) (v : Value) (w : World) (h : ErrAt r w n l v) :
    Calls Tryz.prog 42 #[v, rootV r n] w fun e w' => e = .returned (.bool true) ∧ w = w' := by
  have h8 := @run_callFunc_extern Tryz.prog 87 _ Extern.ReflectliteType.typeOf Tryz.func87 (by kernel_rfl) (by kernel_rfl) (by kernel_rfl) (by kernel_rfl)
  have h32 := @run_callFunc_extern Tryz.prog 212 _ (Extern.ReflectliteType.method fun t => do Extern.Rtype.noPackHeld "Comparable" t; pure (.bool (← typeInfo t).comparable)) Tryz.func212 (by kernel_rfl) (by kernel_rfl) (by kernel_rfl) (by kernel_rfl)
  have tT := typeOfE
  have cT := comparableE
  have mR := methodComparable
  obtain ⟨T, a, rfl⟩ := h.shape
  replace h := Lib.hid h
  go_enter Tryz.func42, Tryz.ntmps42
  go_wp2_with fail
  refine (is_loop r n l _ _ h.out).mono ?_
  rintro e w' ⟨rfl, rfl⟩
  go_wp2
  go_ret
  exact ⟨rfl, rfl⟩
end Errs
end Go.Proofs.YtilpckngghffoaaGreatDoor

namespace Go.Proofs.YtilpckngghffoaaGreatDoor
open Go.RowKit Go.Extern.Stop Go.Stop Go.Extern
set_option maxRecDepth 100000
namespace Errs

/-! errors.As at a Fault: the target a *api.Fault variable. -/
theorem uF : Tryz.prog.underlying 80 = some (.pointer 84) := by kernel_rfl
theorem valueOfFF (t : Addr) (w : World) : (ReflectliteValue.unpack (.iface 82 (.pointer (some t)))).run Tryz.prog w
    = .ok (.agg #[.pointer (some ⟨13, 82, none⟩), .pointer (some ⟨w.heap.size, 0, none⟩), .int .u64 150]) (w.alloc (.cells #[.pointer (some t)] 82)) := by kernel_rfl
theorem typeFF (a : Addr) (w : World) : (ReflectliteValue.methodAny (ReflectliteValue.valueError "reflectlite.Value.Type" 0) (fun t _ _ _ => ReflectliteType.toType t) #[.agg #[.pointer (some ⟨13, 82, none⟩), .pointer (some a), .int .u64 150]]).run Tryz.prog w
    = .ok (.iface 169 (.agg #[.pointer (some ⟨13, 82, none⟩)])) w := by kernel_rfl
theorem methodKind (h : Value) (w : World) : (Go.method 371 169 (.agg #[h]) "Kind").run Tryz.prog w = .ok (202, h) w := by kernel_rfl
theorem kindFF (w : World) : ((ReflectliteType.abiMethod fun t => (fun a : Nat => Value.int IntKind.u8 (a : Int)) <$> Rtype.kind t) #[.pointer (some ⟨13, 82, none⟩)]).run Tryz.prog w = .ok (.int .u8 22) w := by kernel_rfl
theorem kindF (w : World) : ((ReflectliteType.abiMethod fun t => (fun a : Nat => Value.int IntKind.u8 (a : Int)) <$> Rtype.kind t) #[.pointer (some ⟨13, 80, none⟩)]).run Tryz.prog w = .ok (.int .u8 22) w := by kernel_rfl
theorem rlm (z : Sem Value) (f : TypeId → Addr → Nat → Nat → Sem Value) (v : Value) :
    ReflectliteValue.method z f #[v] = (do match ← ReflectliteValue.parts v with | none => z | some (t, a, fl) => f t a fl (fl % 32)) := rfl
theorem partsFF (a : Addr) (w : World) : (ReflectliteValue.parts (.agg #[.pointer (some ⟨13, 82, none⟩), .pointer (some a), .int .u64 150])).run Tryz.prog w = .ok (some (82, a, 150)) w := by kernel_rfl
theorem isNilFF (a p : Addr) (W : World) (ha : W.cell? a = some (.pointer (some p))) :
    (ReflectliteValue.method (ReflectliteValue.valueError "reflectlite.Value.IsNil" 0) ReflectliteValue.isNil #[.agg #[.pointer (some ⟨13, 82, none⟩), .pointer (some a), .int .u64 150]]).run Tryz.prog W = .ok (.bool false) W := by
  rw [rlm]
  simp only [Sem.run_bind, partsFF, Result.andThen]
  simp [ReflectliteValue.isNil, loadVar, isAgg, underlying, ha, Result.andThen]
theorem methodElem (h : Value) (w : World) : (Go.method 371 169 (.agg #[h]) "Elem").run Tryz.prog w = .ok (213, .agg #[h]) w := by kernel_rfl
theorem methodImplements (h : Value) (w : World) : (Go.method 371 169 (.agg #[h]) "Implements").run Tryz.prog w = .ok (214, .agg #[h]) w := by kernel_rfl
theorem methodAssignableTo (h : Value) (w : World) : (Go.method 371 169 (.agg #[h]) "AssignableTo").run Tryz.prog w = .ok (211, .agg #[h]) w := by kernel_rfl
theorem elemFF (w : World) : (ReflectliteType.method ReflectliteType.elem #[.agg #[.pointer (some ⟨13, 82, none⟩)]]).run Tryz.prog w = .ok (.iface 169 (.agg #[.pointer (some ⟨13, 80, none⟩)])) w := by kernel_rfl
theorem implementsF (w : World) : (ReflectliteType.relation "Implements" ReflectliteType.implements_ #[.agg #[.pointer (some ⟨13, 80, none⟩)], .iface 169 (.agg #[.pointer (some ⟨13, 28, none⟩)])]).run Tryz.prog w = .ok (.bool true) w := by kernel_rfl
theorem typeOfF (v : Value) (w : World) : (ReflectliteType.typeOf #[.iface 80 v]).run Tryz.prog w = .ok (.iface 169 (.agg #[.pointer (some ⟨13, 80, none⟩)])) w := by kernel_rfl
theorem assignableF (w : World) : (ReflectliteType.relation "AssignableTo" ReflectliteType.assignableTo #[.agg #[.pointer (some ⟨13, 80, none⟩)], .iface 169 (.agg #[.pointer (some ⟨13, 80, none⟩)])]).run Tryz.prog w = .ok (.bool true) w := by kernel_rfl
theorem valueOfF (e : Addr) (w : World) : (ReflectliteValue.unpack (.iface 80 (.pointer (some e)))).run Tryz.prog w
    = .ok (.agg #[.pointer (some ⟨13, 80, none⟩), .pointer (some ⟨w.heap.size, 0, none⟩), .int .u64 150]) (w.alloc (.cells #[.pointer (some e)] 80)) := by kernel_rfl
theorem elemOfFF (w : World) : (Rtype.elem? 82).run Tryz.prog w = .ok (some 80) w := by kernel_rfl
theorem mkF (p : Addr) (w : World) : (ReflectliteValue.mk 80 p ReflectliteValue.flagAddr).run Tryz.prog w = .ok (.agg #[.pointer (some ⟨13, 80, none⟩), .pointer (some p), .int .u64 406]) w := by kernel_rfl
theorem elemVFF (a p : Addr) (W : World) (ha : W.cell? a = some (.pointer (some p))) :
    (ReflectliteValue.method (ReflectliteValue.valueError "reflectlite.Value.Elem" 0) ReflectliteValue.elem #[.agg #[.pointer (some ⟨13, 82, none⟩), .pointer (some a), .int .u64 150]]).run Tryz.prog W
      = .ok (.agg #[.pointer (some ⟨13, 80, none⟩), .pointer (some p), .int .u64 406]) W := by
  rw [rlm]
  simp only [Sem.run_bind, partsFF, Result.andThen]
  simp [ReflectliteValue.elem, loadVar, isAgg, underlying, ha, Result.andThen, elemOfFF, mkF]
theorem rls (v x : Value) : ReflectliteValue.set #[v, x] = (do
    let (some (dst, a, fl), some (src, b, _)) := (← ReflectliteValue.parts v, ← ReflectliteValue.parts x)
      | unsupported (.noEntry "extern/(internal/reflectlite.Value).Set.zeroValue")
    if fl / ReflectliteValue.flagAddr % 2 == 0 then unsupported (.noEntry "extern/(internal/reflectlite.Value).Set.unaddressable")
    let val ← loadVar src b
    if ← Rtype.directlyAssignable dst src then storeVar dst a val
    else if ← Rtype.implements dst src then
      if (← Rtype.kind src) == 20 then
        match val with
        | .nilIface => unsupported (.noEntry "extern/reflectlite: a nil value of one interface type handed on as a value of another")
        | _ => storeVar dst a val
      else storeVar dst a (.iface src val)
    else panicString ("reflectlite.Set: value of type " ++ (← Rtype.spelt src) ++ " is not assignable to type " ++ (← Rtype.spelt dst))
    pure (.tuple #[])) := rfl
theorem partsFa (a : Addr) (w : World) : (ReflectliteValue.parts (.agg #[.pointer (some ⟨13, 80, none⟩), .pointer (some a), .int .u64 406])).run Tryz.prog w = .ok (some (80, a, 406)) w := by kernel_rfl
theorem partsF (a : Addr) (w : World) : (ReflectliteValue.parts (.agg #[.pointer (some ⟨13, 80, none⟩), .pointer (some a), .int .u64 150])).run Tryz.prog w = .ok (some (80, a, 150)) w := by kernel_rfl
theorem directF (w : World) : (Rtype.directlyAssignable 80 80).run Tryz.prog w = .ok true w := by kernel_rfl
theorem setF (ta b e : Addr) (old : Value) (W : World) (hb : W.cell? b = some (.pointer (some e))) (ht : W.cell? ta = some old) (hf : W.frozen? ta = false) :
    (ReflectliteValue.set #[.agg #[.pointer (some ⟨13, 80, none⟩), .pointer (some ta), .int .u64 406], .agg #[.pointer (some ⟨13, 80, none⟩), .pointer (some b), .int .u64 150]]).run Tryz.prog W
      = .ok (.tuple #[]) (W.setCell ta (.pointer (some e))) := by
  rw [rls]
  simp only [Sem.run_bind, partsFa, partsF, Result.andThen]
  simp [ReflectliteValue.flagAddr, loadVar, isAgg, underlying, hb, Result.andThen, directF, storeVar, Value.cells, storeCells, Addr.add]
  rw [run_store Tryz.prog W ta _ _ (by rfl)]
  simp [ht, hf]

end Errs
end Go.Proofs.YtilpckngghffoaaGreatDoor

namespace Go.Proofs.YtilpckngghffoaaGreatDoor
open Go.RowKit Go.Extern.Stop Go.Stop Go.Extern
set_option maxRecDepth 100000
namespace Errs
set_option maxHeartbeats 4000000 in
theorem as_hit (e t : Addr) (old : Value) (w : World) (hg : w.cell? ⟨12, 0, none⟩ = some (.iface 169 (.agg #[.pointer (some ⟨13, 28, none⟩)]))) (ht0 : w.cell? t = some old) (hf0 : w.frozen? t = false) :
    Calls Tryz.prog 44 #[.iface 80 (.pointer (some e)), .iface 82 (.pointer (some t))] w fun ev w' => ev = .returned (.bool true) ∧ w' = ((((w.alloc (.cells #[.pointer (some t)] 82)).alloc (.cells #[.pointer (some ⟨13, 82, none⟩), .pointer (some ⟨w.heap.size, 0, none⟩), .int .u64 150] 134)).alloc (.cells #[.pointer (some ⟨13, 82, none⟩), .pointer (some ⟨w.heap.size, 0, none⟩), .int .u64 150] 134)).alloc (.cells #[.pointer (some e)] 80)).setCell t (.pointer (some e)) := by
  have h6 := @run_callFunc_extern Tryz.prog 89 _ (fun args => ReflectliteValue.unpack (args.getD 0 (.tuple #[]))) Tryz.func89 (by kernel_rfl) (by kernel_rfl) (by kernel_rfl) (by kernel_rfl)
  have h7 := @run_callFunc_extern Tryz.prog 90 _ (ReflectliteValue.methodAny (ReflectliteValue.valueError "reflectlite.Value.Type" 0) (fun t _ _ _ => ReflectliteType.toType t)) Tryz.func90 (by kernel_rfl) (by kernel_rfl) (by kernel_rfl) (by kernel_rfl)
  have h8 := @run_callFunc_extern Tryz.prog 91 _ (ReflectliteValue.method (ReflectliteValue.valueError "reflectlite.Value.IsNil" 0) ReflectliteValue.isNil) Tryz.func91 (by kernel_rfl) (by kernel_rfl) (by kernel_rfl) (by kernel_rfl)
  have h27 := @run_callFunc_extern Tryz.prog 202 _ (ReflectliteType.abiMethod fun t => do pure (.int .u8 (← Rtype.kind t))) Tryz.func202 (by kernel_rfl) (by kernel_rfl) (by kernel_rfl) (by kernel_rfl)
  have h37 := @run_callFunc_extern Tryz.prog 213 _ (ReflectliteType.method ReflectliteType.elem) Tryz.func213 (by kernel_rfl) (by kernel_rfl) (by kernel_rfl) (by kernel_rfl)
  have h38 := @run_callFunc_extern Tryz.prog 214 _ (ReflectliteType.relation "Implements" ReflectliteType.implements_) Tryz.func214 (by kernel_rfl) (by kernel_rfl) (by kernel_rfl) (by kernel_rfl)
  have h10 := @run_callFunc_extern Tryz.prog 87 _ ReflectliteType.typeOf Tryz.func87 (by kernel_rfl) (by kernel_rfl) (by kernel_rfl) (by kernel_rfl)
  have h35 := @run_callFunc_extern Tryz.prog 211 _ (ReflectliteType.relation "AssignableTo" ReflectliteType.assignableTo) Tryz.func211 (by kernel_rfl) (by kernel_rfl) (by kernel_rfl) (by kernel_rfl)
  have h11 := @run_callFunc_extern Tryz.prog 129 _ (ReflectliteValue.method (ReflectliteValue.valueError "reflectlite.Value.Elem" 0) ReflectliteValue.elem) Tryz.func129 (by kernel_rfl) (by kernel_rfl) (by kernel_rfl) (by kernel_rfl)
  have h12 := @run_callFunc_extern Tryz.prog 130 _ ReflectliteValue.set Tryz.func130 (by kernel_rfl) (by kernel_rfl) (by kernel_rfl) (by kernel_rfl)
  have tO := typeOfF
  have mA := methodAssignableTo
  have aF := assignableF
  have vF := valueOfF
  have f6 := valueOfFF
  have f7 := typeFF
  have mK := methodKind
  have mE := methodElem
  have mI := methodImplements
  have kFF := kindFF
  have kF := kindF
  have eFF := elemFF
  have iF := implementsF
  have n8 := isNilFF ⟨w.heap.size, 0, none⟩ t ((w.alloc (.cells #[.pointer (some t)] 82)).alloc (.cells #[.pointer (some ⟨13, 82, none⟩), .pointer (some ⟨w.heap.size, 0, none⟩), .int .u64 150] 134)) (by simp)
  have hlt : 12 < w.heap.size := World.block_lt_of_cell? _ _ hg
  have hg2 : ((w.alloc (.cells #[.pointer (some t)] 82)).alloc (.cells #[.pointer (some ⟨13, 82, none⟩), .pointer (some ⟨w.heap.size, 0, none⟩), .int .u64 150] 134)).cell? ⟨12, 0, none⟩ = some (.iface 169 (.agg #[.pointer (some ⟨13, 28, none⟩)])) := by
    rw [World.cell?_alloc_lt _ _ ⟨12, 0, none⟩ (by simp; omega), World.cell?_alloc_lt _ _ ⟨12, 0, none⟩ hlt]; exact hg
  have htl : t.block < w.heap.size := World.block_lt_of_cell? _ _ ht0
  have el := elemVFF ⟨w.heap.size, 0, none⟩ t (((w.alloc (.cells #[.pointer (some t)] 82)).alloc (.cells #[.pointer (some ⟨13, 82, none⟩), .pointer (some ⟨w.heap.size, 0, none⟩), .int .u64 150] 134)).alloc (.cells #[.pointer (some ⟨13, 82, none⟩), .pointer (some ⟨w.heap.size, 0, none⟩), .int .u64 150] 134)) (by rw [World.cell?_alloc_lt _ _ ⟨w.heap.size, 0, none⟩ (by simp; omega)]; simp)
  have st := setF t ⟨w.heap.size + 1 + 1 + 1, 0, none⟩ e old ((((w.alloc (.cells #[.pointer (some t)] 82)).alloc (.cells #[.pointer (some ⟨13, 82, none⟩), .pointer (some ⟨w.heap.size, 0, none⟩), .int .u64 150] 134)).alloc (.cells #[.pointer (some ⟨13, 82, none⟩), .pointer (some ⟨w.heap.size, 0, none⟩), .int .u64 150] 134)).alloc (.cells #[.pointer (some e)] 80))
    (by rw [World.cell?_alloc_at _ _ _ _ (by simp)]; rfl)
    (by rw [World.cell?_alloc_lt _ _ t (by simp; omega), World.cell?_alloc_lt _ _ t (by simp; omega), World.cell?_alloc_lt _ _ t (by simp; omega), World.cell?_alloc_lt _ _ t htl]; exact ht0)
    (by rw [World.frozen?_alloc_old _ _ t (by simp; omega), World.frozen?_alloc_old _ _ t (by simp; omega), World.frozen?_alloc_old _ _ t (by simp; omega), World.frozen?_alloc_old _ _ t (Nat.ne_of_lt htl)]; exact hf0)
  go_enter Tryz.func44, Tryz.ntmps44
  go_wp2
  refine wp_loop_rounds 1 ?_
  rw [rounds_succ]
  go_wp2
  go_ret
  exact ⟨rfl, rfl⟩

/-- errors.As at a Fault and a variable of the call's own: the variable holds the Fault; nothing else that was there has changed. -/
theorem as_any (e t : Addr) (old : Value) (w : World) (hg : w.cell? ⟨12, 0, none⟩ = some (.iface 169 (.agg #[.pointer (some ⟨13, 28, none⟩)]))) (ht0 : w.cell? t = some old) (hf0 : w.frozen? t = false) :
    Calls Tryz.prog 44 #[.iface 80 (.pointer (some e)), .iface 82 (.pointer (some t))] w fun ev w' => ev = .returned (.bool true) ∧ ∃ w1, Below w.heap.size w w1 ∧ w' = w1.setCell t (.pointer (some e)) :=
  (as_hit e t old w hg ht0 hf0).mono fun _ _ ⟨h1, h2⟩ => ⟨h1, _, ((((Below.refl _ _).alloc (Nat.le_refl _) _).alloc (by simp) _).alloc (by simp; omega) _).alloc (by simp; omega) _, h2⟩
end Errs
end Go.Proofs.YtilpckngghffoaaGreatDoor
