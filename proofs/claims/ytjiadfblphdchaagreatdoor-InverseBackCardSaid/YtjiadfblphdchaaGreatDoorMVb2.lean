/-
  What a slice of ints is in memory, read and owned; laws for make, append, store over such slices. Values stay opaque: the walk gets run equations.
  Slices whose elements are one cell each, of whatever type: read (ValsAt), owned (OwnV); append with the whole truth about where the new slice lies.
  Errors: what a Fault is in memory, and the contracts of fault.New, fault.Under and each package's 'wrong'.
  edenraw.Err in memory; walks: edenraw.Root, New, Under, (Err).Bad.
  Walk: edenraw.Under at an error.
  Walks: errors.Is and errors.As at a chain of Faults; the model's entries for internal/reflectlite at this program's types (after the kit's worked example Toyas).
  The model's entries for internal/reflectlite at a *api.Fault and at the address of a variable of that type (after the kit's worked example Toyas).
  Walk: errors.As at a Fault (after the kit's worked example Toyas).
  Walk: edenraw.Is at an error that is what it must be.
  A law for a region that draws its order: the operations of its head in an order of our own, each load under a fact on the world that the head keeps; then the forced tail, one behind the other.
  Walks: slices.IndexFunc, package rule's first functions.
  Walks: Go's package slices at []int.
  Walks: package edenraw (what statements share).
  Walk: edenraw.Apart: lists that share no memory, their spare room neither.
  Several owned lists, each in blocks of its own: what Apart asks.
  copy onto an owned slice; a slice cut at its front; edenraw.Lent, Kept, LentRule, KeptRule, Rules.
  Walks: slices.Grow of nil, slices.Concat, slices.Reverse at []int; word.Back.
  Walk: rule.Check, at every rule.
-/
import Derived.Test.YtjiadfblphdchaaGreatDoorMVb1
import Derived.Test.YtjiadfblphdchaaGreatDoorProg
import Derived.KernelRfl
import Derived.WalkKit
import Derived.WalkSpells
import Derived.WalkLawsBesides
import Derived.Lib.Hide
import Derived.Maps.AppendAt
import Derived.Deep.RegionLawGrows
import Derived.Deep.RegionHeld3
import Derived.LaidEql
import Derived.Stop.Asserts
import Derived.RowKitTokens
import Derived.Deep.LoopGhost
import Derived.StillTail
import Derived.BigQuiet
import Derived.Deep.QuietTactic
import Derived.Laws.CopyOwn
import Derived.Lib.AppendZeros
import Derived.RegionTactic
namespace Go.Proofs.YtjiadfblphdchaaGreatDoor
open Go.RowKit
/-- The address of element i of a slice value. -/
def valAt (v : Value) (i : Nat) : Addr:=match v with | .slice (some p) _ _ => p.add i | _ => default
/-- v is a []int that reads xs. -/
def IntsAt (w : World) (v : Value) (xs : List Int) : Prop :=
 ∃ a cap,v = .slice a xs.length cap ∧ xs.length ≤ cap ∧ cap ≤ maxLen ∧ (a = none → cap = 0) ∧ ∀ i (h : i < xs.length),w.cell? (valAt v i) = some (.int .i64 xs[i])
theorem IntsAt.len_le {w : World} {v : Value} {xs : List Int} (h : IntsAt w v xs) : xs.length ≤ 9223372036854775807:=by
 obtain ⟨a,cap,rfl,h1,h2,_⟩:=h
 unfold maxLen at h2; omega
theorem uInts : Tryz.prog.underlying 22 = some (.slice 3):=by kernel_rfl
theorem iInt : (Tryz.prog.info? 3).map (fun i => (i.zero,i.size,i.bytes)) = some (some (.int .i64 0),1,8):=by kernel_rfl
theorem eInts : Tryz.prog.elem 22 = 3:=by kernel_rfl
theorem uIntsE : Tryz.prog.underlying 22 = some (.slice (Tryz.prog.elem 22)):=by rw [eInts]; exact uInts
theorem sInt (w : World) : (sizeOf 3).run Tryz.prog w = .ok 1 w:=by kernel_rfl
theorem IntsAt.len {w : World} {v : Value} {xs : List Int} (h : IntsAt w v xs) (w' : World) :
 (Builtin.len_ #[22] 3 #[v]).run Tryz.prog w' = .ok (.int .i64 xs.length) w':=by
 obtain ⟨a,cap,rfl,h1,h2,h3,h4⟩:=h
 rw [run_len_slice _ _ _ _ _ _ uIntsE]
 rfl
theorem IntsAt.idx {w : World} {v : Value} {xs : List Int} (h : IntsAt w v xs) (i : Nat) (hi : i < xs.length) (w' : World) :
 (Instr.indexAt 22 v (.int .i64 i)).run Tryz.prog w' = .ok (.pointer (some (valAt v i))) w':=by
 obtain ⟨a,cap,rfl,h1,h2,h3,h4⟩:=h
 cases a with
 | none => have:=h3 rfl; omega
 | some p =>
  rw [run_indexAt_slice _ _ _ _ _ _ _ uIntsE,if_pos (by omega),eInts,sInt]
  simp [valAt]
/-- The same at an index that is an integer expression. -/
theorem IntsAt.idxI {w : World} {v : Value} {xs : List Int} (h : IntsAt w v xs) (i : Int) (h0 : 0 ≤ i) (hi : i < xs.length) (w' : World) :
 (Instr.indexAt 22 v (.int .i64 i)).run Tryz.prog w' = .ok (.pointer (some (valAt v i.toNat))) w':=by
 have:=h.idx i.toNat (by omega) w'
 rwa [Int.toNat_of_nonneg h0] at this
theorem IntsAt.cell {w : World} {v : Value} {xs : List Int} (h : IntsAt w v xs) (i : Nat) (hi : i < xs.length) :
 w.cell? (valAt v i) = some (.int .i64 xs[i]):=by
 obtain ⟨a,cap,rfl,h1,h2,h3,h4⟩:=h
 exact h4 i hi
theorem IntsAt.cellD {w : World} {v : Value} {xs : List Int} (h : IntsAt w v xs) (i : Nat) (hi : i < xs.length) :
 w.cell? (valAt v i) = some (.int .i64 (xs.getD i 0)):=by
 rw [h.cell i hi]; simp [List.getD,hi]
theorem IntsAt.blk {w : World} {v : Value} {xs : List Int} (h : IntsAt w v xs) (i : Nat) (hi : i < xs.length) : (valAt v i).block < w.heap.size :=
 World.block_lt_of_cell? _ _ (h.cell i hi)
theorem IntsAt.below {w w' : World} {v : Value} {xs : List Int} (h : IntsAt w v xs) (hb : Below w.heap.size w w') : IntsAt w' v xs:=by
 have hk:=h.blk
 obtain ⟨a,cap,e,h1,h2,h3,h4⟩:=h
 exact ⟨a,cap,e,h1,h2,h3,fun i hi => by rw [hb.cell (hk i hi)]; exact h4 i hi⟩
theorem IntsAt.cells_eq {w w' : World} {v : Value} {xs : List Int} (h : IntsAt w v xs) (hc : ∀ i,i < xs.length → w'.cell? (valAt v i) = w.cell? (valAt v i)) : IntsAt w' v xs:=by
 obtain ⟨a,cap,e,h1,h2,h3,h4⟩:=h
 exact ⟨a,cap,e,h1,h2,h3,fun i hi => by rw [hc i hi]; exact h4 i hi⟩
/-- Two readings of one value are one. -/
theorem IntsAt.uniq {w : World} {v : Value} {xs ys : List Int} (h : IntsAt w v xs) (k : IntsAt w v ys) : xs = ys:=by
 have e : xs.length = ys.length:=by
  obtain ⟨a,cap,e,_⟩:=h
  obtain ⟨b,cap',e',_⟩:=k
  rw [e] at e'; injection e'
 refine List.ext_getElem e fun i h1 h2 => ?_
 have c1:=h.cell i h1
 rw [k.cell i h2] at c1
 simpa using c1.symm
/-- v is a []int that this call made, from block B on; its spare room is its own, too. -/
def OwnI (B : Nat) (w : World) (v : Value) (xs : List Int) : Prop:=w.ownsRow B 3 1 v xs.length (xs.map (Value.int .i64))
theorem OwnI.nil (B : Nat) (w : World) : OwnI B w (.slice none 0 0) []:=World.ownsRow_nil w B _ 1
theorem OwnI.at {B : Nat} {w : World} {v : Value} {xs : List Int} (h : OwnI B w v xs) : IntsAt w v xs:=by
 rcases h.2 with ⟨rfl,hn⟩ | ⟨g,cap,cur,rfl,hb,hg,hn,hm,hs,ht⟩
 ·obtain rfl:=List.length_eq_zero_iff.1 hn
  exact ⟨none,0,rfl,by simp,by simp,fun _ => rfl,by simp⟩
 ·refine ⟨some ⟨g,0,none⟩,cap,rfl,hn,hm,(by intro e; cases e),fun i hi => ?_⟩
  exact World.ownsRow.cells h (g:=g) rfl i _ (by simp [hi])
theorem OwnI.mono {B B' : Nat} {w : World} {v : Value} {xs : List Int} (h : OwnI B w v xs) (hB : B' ≤ B) : OwnI B' w v xs:=by
 refine ⟨h.1,?_⟩
 rcases h.2 with h2 | ⟨g,cap,cur,e,hb,r⟩
 ·exact .inl h2
 ·exact .inr ⟨g,cap,cur,e,Nat.le_trans hB hb,r⟩
theorem OwnI.lt {B : Nat} {w : World} {v : Value} {xs : List Int} (h : OwnI B w v xs) : ∀ k,v.ownBlock = some k → B ≤ k ∧ k < w.heap.size:=World.ownsRow.lt h
theorem valAt_row (g i n cap : Nat) : valAt (.slice (some ⟨g,0,none⟩) n cap) i = ⟨g,i,none⟩:=by
 show (⟨g,0,none⟩ : Addr).add i = _
 unfold Addr.add; split <;> simp_all
theorem OwnI.frz {B : Nat} {w : World} {v : Value} {xs : List Int} (h : OwnI B w v xs) (i : Nat) (hi : i < xs.length) : w.frozen? (valAt v i) = false:=by
 rcases h.2 with ⟨rfl,hn⟩ | ⟨g,cap,cur,rfl,hb,hg,hn,hm,hs,ht⟩
 ·omega
 ·rw [valAt_row]
  exact frozen_of_row w g i cur _ hg
theorem OwnI.blkB {B : Nat} {w : World} {v : Value} {xs : List Int} (h : OwnI B w v xs) (i : Nat) (hi : i < xs.length) : B ≤ (valAt v i).block:=by
 rcases h.2 with ⟨rfl,hn⟩ | ⟨g,cap,cur,rfl,hb,hg,hn,hm,hs,ht⟩
 ·omega
 ·rw [valAt_row]; exact hb
/-- A store into an owned slice. -/
theorem OwnI.set {B : Nat} {w : World} {v : Value} {xs : List Int} (h : OwnI B w v xs) (i : Nat) (hi : i < xs.length) (y : Int) :
 OwnI B (w.setCell (valAt v i) (.int .i64 y)) v (xs.set i y):=by
 rcases h.2 with ⟨rfl,hn⟩ | ⟨g,cap,cur,rfl,hb,hg,hn,hm,hs,ht⟩
 ·omega
 ·rw [valAt_row]
  have:=(World.ownsRow.stored h i (.int .i64 y)).1
  unfold OwnI
  rw [List.map_set,List.length_set]
  exact this
theorem OwnI.setBelow {B : Nat} {w0 w : World} {v : Value} {xs : List Int} (h : OwnI B w v xs) (hb : Below B w0 w) (i : Nat) (hi : i < xs.length) (y : Value) :
 Below B w0 (w.setCell (valAt v i) y):=hb.setCell (h.blkB i hi) y
theorem OwnI.below {B : Nat} {w w' : World} {v : Value} {xs : List Int} (h : OwnI B w v xs) (hb : Below w.heap.size w w') : OwnI B w' v xs:=by
 refine ⟨h.1,?_⟩
 rcases h.2 with h2 | ⟨g,cap,cur,e,hB,hg,r⟩
 ·exact .inl h2
 ·refine .inr ⟨g,cap,cur,e,hB,?_,r⟩
  rw [hb.block g (Array.getElem?_eq_some_iff.1 hg).1]; exact hg
theorem OwnI.alloc {B : Nat} {w : World} {v : Value} {xs : List Int} (h : OwnI B w v xs) (o : Obj) : OwnI B (w.alloc o) v xs:=World.ownsRow.alloc h o
theorem OwnI.drew {B : Nat} {w : World} {v : Value} {xs : List Int} (h : OwnI B w v xs) : OwnI B w.drew v xs:=h
theorem OwnI.drewN {B : Nat} {w : World} {v : Value} {xs : List Int} (h : OwnI B w v xs) (n : Nat) : OwnI B (w.drewN n) v xs:=h
theorem IntsAt.drew {w : World} {v : Value} {xs : List Int} (h : IntsAt w v xs) : IntsAt w.drew v xs:=h
theorem IntsAt.drewN {w : World} {v : Value} {xs : List Int} (h : IntsAt w v xs) (n : Nat) : IntsAt (w.drewN n) v xs:=h
/-- Another owned slice is not touched by a store, an append into one. -/
theorem OwnI.kept {B : Nat} {w w' : World} {row : Option Nat} {v : Value} {xs : List Int} (h : OwnI B w v xs) (hg : w.grownBy w' row) (hne : v.ownBlock = none ∨ v.ownBlock ≠ row) : OwnI B w' v xs:=World.ownsRow.kept h hg hne
theorem OwnI.setOther {B B' : Nat} {w : World} {v u : Value} {xs ys : List Int} (h : OwnI B w v xs) (k : OwnI B' w u ys) (hne : v.ownBlock ≠ u.ownBlock) (i : Nat) (hi : i < ys.length) (y : Value) :
 OwnI B (w.setCell (valAt u i) y) v xs:=by
 rcases k.2 with ⟨rfl,hn⟩ | ⟨g,cap,cur,rfl,hb,hg,hn,hm,hs,ht⟩
 ·omega
 ·rw [valAt_row]
  exact h.kept (row:=some g) ⟨rfl,rfl,rfl,by simp [World.setCell],fun j _ hj => Below.heap_setCell _ _ _ _ (by simp at hj; omega)⟩ (.inr (by simpa [Value.ownBlock] using hne))
/-- A literal of ints. -/
theorem OwnI.lit (B : Nat) (w : World) (hB : B ≤ w.heap.size) (xs : List Int) (hm : xs.length ≤ maxLen) (cs : Array Value) (hc : cs.toList = xs.map (Value.int .i64)) (n : Nat) (hn : n = xs.length) :
 OwnI B (w.alloc (.cells cs 3)) (.slice (some ⟨w.heap.size,0,none⟩) n n) xs:=by
 subst hn
 have hs : cs.size = xs.length * 1:=by rw [← Array.length_toList,hc]; simp
 have:=World.ownsRow_lit (base:=B) (e:=3) (size:=1) w cs xs.length hB hm hs
 unfold OwnI
 rw [← hc]; exact this
/-- make([]int, n). -/
theorem wpl_make {w : World} {ops : Array Oper} {rest : List Oper} {o : Oper} {a : Act} {Q : Exit → Act → World → Prop}
 (hg : o.guard = none) (l c : Operand) (hop : o.op = Op.makeSlice 22 l c) (C : Int) (hl : a.eval l = .int .i64 C) (hc : a.eval c = .int .i64 C)
 (h0 : 0 ≤ C) (hC : C ≤ 17592186044416)
 (hK : ∀ v w',OwnI w.heap.size w' v (List.replicate C.toNat 0) → Below w.heap.size w w' → wpList Tryz.prog ops Q rest (a.put o.dst v) w') :
 wpList Tryz.prog ops Q (o :: rest) a w:=by
 obtain ⟨i,hi,hz0,hz1,hz2⟩:=info_parts iInt
 obtain ⟨n,rfl⟩:=Int.eq_ofNat_of_zero_le h0
 refine wpList_make_full w hg l c 22 hop w.heap.size 3 i (.int .i64 0) 1 uInts hi hz0 hz1 .i64 .i64 n n n hl hc rfl rfl (by rw [hz2]; omega) (by unfold maxLen; omega) (Nat.le_refl _) ?_
 intro w' hown hgrow
 refine hK _ _ ?_ ((Below.refl _ _).grown hgrow (Nat.le_refl _) (by intro k hk; cases hk))
 have e : (madeCells (Value.cells (.int .i64 0)) (n * 1)).toList = (List.replicate n (0 : Int)).map (Value.int .i64):=by
  rw [show Value.cells (.int .i64 0) = #[.int .i64 0] from rfl,toList_madeCells_one]; simp
 rw [e] at hown
 simpa [OwnI] using hown
/-- append(s, y): the one-element slice was just laid. -/
theorem wpl_append1 {w : World} {ops : Array Oper} {rest : List Oper} {o : Oper} {a : Act} {Q : Exit → Act → World → Prop} (hgd : o.guard = none) (s x : Operand)
 (ho : o.op = .call { callee:=.builtin .append,args:=#[s,x],argTypes:=#[22,22] })
 (B : Nat) (v : Value) (xs : List Int) (y : Int) (hown : OwnI B w v xs) (hs : a.eval s = v) (hx : a.eval x = .slice (some ⟨w.heap.size,0,none⟩) 1 1)
 (hlen : xs.length < 17592186044415) (hB : B ≤ w.heap.size)
 (h : ∀ v' w',OwnI B w' v' (xs ++ [y]) → Below B w w' → w.grownBy w' v.ownBlock → (v'.ownBlock = v.ownBlock ∨ ∃ k,v'.ownBlock = some k ∧ w.heap.size ≤ k) → wpList Tryz.prog ops Q rest (a.put o.dst v') w') :
 wpList Tryz.prog ops Q (o :: rest) a (w.alloc (.cells #[.int .i64 y] 3)):=by
 obtain ⟨i,hi,hz0,hz1,hz2⟩:=info_parts iInt
 have hown':=hown.alloc (.cells #[.int .i64 y] 3)
 refine wpList_append_own_at _ hgd s x 22 ho B 3 i (.int .i64 0) 1 8 uInts hi hz0 hz1 hz2 rfl (by decide) v xs.length _ hs hown' _ 1 1 [.int .i64 y] hx rfl (cell_one_new _ _ _) (by simp [Value.oneCell']) (by unfold maxLen; omega) (by omega) (by simp; omega) ?_
 intro v' w' ho' hgr _ hat
 have hg2 : w.grownBy w' v.ownBlock:=(World.grownBy_alloc w _ _).trans hgr
 refine h v' w' (by simpa [OwnI] using ho') ((Below.refl _ _).grown hg2 hB (fun k hk => (hown.lt k hk).1)) hg2 ?_
 rcases hat with hat | hat
 ·exact .inl hat
 ·exact .inr ⟨_,hat,by simp⟩
/-- append(s, t...), t read anywhere. -/
theorem wpl_append {w : World} {ops : Array Oper} {rest : List Oper} {o : Oper} {a : Act} {Q : Exit → Act → World → Prop} (hgd : o.guard = none) (s x : Operand)
 (ho : o.op = .call { callee:=.builtin .append,args:=#[s,x],argTypes:=#[22,22] })
 (B : Nat) (v u : Value) (xs ys : List Int) (hown : OwnI B w v xs) (hu : IntsAt w u ys) (hs : a.eval s = v) (hx : a.eval x = u)
 (hlen : xs.length + ys.length ≤ 17592186044416) (hB : B ≤ w.heap.size)
 (h : ∀ v' w',OwnI B w' v' (xs ++ ys) → Below B w w' → w.grownBy w' v.ownBlock → (v'.ownBlock = v.ownBlock ∨ ∃ k,v'.ownBlock = some k ∧ w.heap.size ≤ k) → wpList Tryz.prog ops Q rest (a.put o.dst v') w') :
 wpList Tryz.prog ops Q (o :: rest) a w:=by
 obtain ⟨i,hi,hz0,hz1,hz2⟩:=info_parts iInt
 have hu':=hu
 obtain ⟨ao,cap,rfl,h1,h2,h3,h4⟩:=hu
 cases ao with
 | none =>
  obtain rfl:=h3 rfl
  have hy : ys = []:=List.length_eq_zero_iff.1 (by omega)
  subst hy
  refine wpList_plain hgd fun K hK => ?_
  have hrun:=run_append_owned_none (P:=Tryz.prog) w B 22 o.type 3 i 1 uInts hi v xs.length _ hown
  unfold Oper.wp execOp
  simp only [ho,resolve,invoke,builtin,Sem.run_bind,Sem.run_pure,Result.andThen_ok,List.map_toArray,List.map_cons,List.map_nil,hs,hx]
  rw [show (Value.slice none ([] : List Int).length 0) = .slice none 0 0 from rfl,hrun]
  exact hK _ _ (h v w (by simpa using hown) (Below.refl _ _) (World.grownBy.refl _ _) (.inl rfl))
 | some p =>
  refine wpList_append_own_at _ hgd s x 22 ho B 3 i (.int .i64 0) 1 8 uInts hi hz0 hz1 hz2 rfl (by decide) v xs.length _ hs hown p ys.length cap (ys.map (.int .i64)) hx (by simp) ?_ (ints_oneCell _ _) (by unfold maxLen; omega) (by omega) hB ?_
  ·intro j u hj
   have hjl : j < ys.length:=by have:=(List.getElem?_eq_some_iff.1 hj).1; simpa using this
   have:=h4 j hjl
   simp only [valAt] at this
   rw [this,← hj]; simp [hjl]
  ·intro v' w' ho' hgr _ hat
   refine h v' w' (by simpa [OwnI] using ho') ((Below.refl _ _).grown hgr hB (fun k hk => (hown.lt k hk).1)) hgr ?_
   rcases hat with hat | hat
   ·exact .inl hat
   ·exact .inr ⟨_,hat,Nat.le_refl _⟩
theorem IntsAt.shape {w : World} {v : Value} {xs : List Int} (h : IntsAt w v xs) : ∃ a n c,v = .slice a n c:=by
 obtain ⟨a,cap,e,_⟩:=h; exact ⟨_,_,_,e⟩
theorem OwnI.setBelowBase {B : Nat} {w : World} {v : Value} {xs : List Int} (h : OwnI B w v xs) {a : Addr} (ha : a.block < B) (u : Value) : OwnI B (w.setCell a u) v xs:=ownsRow_setCell_below h ha u
/-- Three cells in a block of the call's own stay while others work. -/
theorem cells3 {w w' : World} {a b c : Value} {T : TypeId} (hb : Below (w.alloc (.cells #[a,b,c] T)).heap.size (w.alloc (.cells #[a,b,c] T)) w') :
 w'.cell? ⟨w.heap.size,0,none⟩ = some a ∧ w'.cell? ⟨w.heap.size,1,none⟩ = some b ∧ w'.cell? ⟨w.heap.size,2,none⟩ = some c ∧
 w'.frozen? ⟨w.heap.size,0,none⟩ = false ∧ w'.frozen? ⟨w.heap.size,1,none⟩ = false ∧ w'.frozen? ⟨w.heap.size,2,none⟩ = false:=by
 refine ⟨?_,?_,?_,?_,?_,?_⟩
 ·rw [hb.cell (by simp)]; simp
 ·rw [hb.cell (by simp)]; simp
 ·rw [hb.cell (by simp)]; simp
 ·rw [hb.frozen (by simp)]; simp
 ·rw [hb.frozen (by simp)]; simp
 ·rw [hb.frozen (by simp)]; simp
/-- A store of what is there already. -/
theorem setCell_self {w : World} {a : Addr} {u : Value} (h : w.cell? a = some u) : w.setCell a u = w:=by
 have hh : (w.setCell a u).heap = w.heap:=by
  simp only [World.setCell]
  apply Array.ext_getElem?
  intro i
  rw [Array.getElem?_modify]
  split
  ·rename_i e
   subst e
   unfold World.cell? at h
   cases hx : w.heap[a.block]? with
   | none => rfl
   | some o =>
    rw [hx] at h
    cases o with
    | cells c el fz =>
     simp only at h
     split at h
     ·cases h
     ·rename_i hs
      simp only [Option.map_some,hs]
      congr 2
      apply Array.ext_getElem?
      intro j
      simp only [Bool.false_eq_true,if_false]
      rw [Array.getElem?_setIfInBounds]
      split
      ·rename_i e; subst e
       obtain ⟨hl,he⟩:=Array.getElem?_eq_some_iff.1 h
       rw [if_pos hl,h]
      ·rfl
    | _ => rfl
  ·rfl
 have e : w.setCell a u = { w with heap:=(w.setCell a u).heap }:=rfl
 rw [e,hh]
theorem setCell_self3 {w : World} {b : Nat} {x y z : Value} (h0 : w.cell? ⟨b,0,none⟩ = some x) (h1 : w.cell? ⟨b,1,none⟩ = some y) (h2 : w.cell? ⟨b,2,none⟩ = some z) :
 ((w.setCell ⟨b,0,none⟩ x).setCell ⟨b,1,none⟩ y).setCell ⟨b,2,none⟩ z = w:=by
 rw [setCell_self h0,setCell_self h1,setCell_self h2]
theorem keep3 {w w' : World} {n : Nat} {a b c : Value} (hb : Below w.heap.size w w') (h : w.cell? ⟨n,0,none⟩ = some a ∧ w.cell? ⟨n,1,none⟩ = some b ∧ w.cell? ⟨n,2,none⟩ = some c) :
 w'.cell? ⟨n,0,none⟩ = some a ∧ w'.cell? ⟨n,1,none⟩ = some b ∧ w'.cell? ⟨n,2,none⟩ = some c:=by
 obtain ⟨h0,h1,h2⟩:=h
 have hn:=World.block_lt_of_cell? _ _ h0
 exact ⟨(hb.cell (p:=⟨n,0,none⟩) hn).trans h0,(hb.cell (p:=⟨n,1,none⟩) hn).trans h1,(hb.cell (p:=⟨n,2,none⟩) hn).trans h2⟩
theorem field_T (k R : Int) (a : Option Addr) (n c : Nat) (w : World) : (Instr.field 24 (.agg #[.int .i64 k,.int .i64 R,.slice a n c]) 2).run Tryz.prog w = .ok (.slice a n c) w:=by kernel_rfl
theorem wrap64_id {x : Int} (h1 : -9223372036854775808 ≤ x) (h2 : x < 9223372036854775808) : wrap64 x = x:=by unfold wrap64; omega
theorem wrapK {x : Int} (h1 : -9223372036854775808 ≤ x) (h2 : x < 9223372036854775808) : IntKind.i64.wrap x = x:=by simp [IntKind.wrap_i64]; omega
/-- A range over ints: plain bounds. -/
def I64 (x : Int) : Prop:=-9223372036854775808 ≤ x ∧ x < 9223372036854775808
theorem ret_int {a b : Int} (h : a = b) : Ending.returned (.int .i64 a) = .returned (.int .i64 b):=by rw [h]
theorem ret_bool {a b : Bool} (h : a = b) : Ending.returned (.bool a) = .returned (.bool b):=by rw [h]
end Go.Proofs.YtjiadfblphdchaaGreatDoor
namespace Go.Proofs.YtjiadfblphdchaaGreatDoor
open Go.RowKit
/-- v is a slice that reads the values vs (one cell each). -/
def ValsAt (w : World) (v : Value) (vs : List Value) : Prop :=
 ∃ a cap,v = .slice a vs.length cap ∧ vs.length ≤ cap ∧ cap ≤ maxLen ∧ (a = none → cap = 0) ∧ ∀ i (h : i < vs.length),w.cell? (valAt v i) = some vs[i]
theorem IntsAt.vals {w : World} {v : Value} {xs : List Int} (h : IntsAt w v xs) : ValsAt w v (xs.map (Value.int .i64)):=by
 obtain ⟨a,cap,e,h1,h2,h3,h4⟩:=h
 exact ⟨a,cap,by simpa using e,by simpa using h1,h2,h3,fun i hi => by rw [h4 i (by simpa using hi)]; simp⟩
theorem ValsAt.cell {w : World} {v : Value} {vs : List Value} (h : ValsAt w v vs) (i : Nat) (hi : i < vs.length) : w.cell? (valAt v i) = some vs[i]:=by
 obtain ⟨a,cap,e,h1,h2,h3,h4⟩:=h
 exact h4 i hi
theorem ValsAt.len_le {w : World} {v : Value} {vs : List Value} (h : ValsAt w v vs) : vs.length ≤ 9223372036854775807:=by
 obtain ⟨a,cap,rfl,h1,h2,_⟩:=h
 unfold maxLen at h2; omega
theorem ValsAt.blk {w : World} {v : Value} {vs : List Value} (h : ValsAt w v vs) (i : Nat) (hi : i < vs.length) : (valAt v i).block < w.heap.size :=
 World.block_lt_of_cell? _ _ (h.cell i hi)
theorem ValsAt.below {w w' : World} {v : Value} {vs : List Value} (h : ValsAt w v vs) (hb : Below w.heap.size w w') : ValsAt w' v vs:=by
 have hk:=h.blk
 obtain ⟨a,cap,e,h1,h2,h3,h4⟩:=h
 exact ⟨a,cap,e,h1,h2,h3,fun i hi => by rw [hb.cell (hk i hi)]; exact h4 i hi⟩
theorem ValsAt.cells_eq {w w' : World} {v : Value} {vs : List Value} (h : ValsAt w v vs) (hc : ∀ i,i < vs.length → w'.cell? (valAt v i) = w.cell? (valAt v i)) : ValsAt w' v vs:=by
 obtain ⟨a,cap,e,h1,h2,h3,h4⟩:=h
 exact ⟨a,cap,e,h1,h2,h3,fun i hi => by rw [hc i hi]; exact h4 i hi⟩
/-- A slice type of one-cell elements. -/
structure OneCell (T E : TypeId) (z : Value) (bytes : Nat) : Prop where
 ht : Tryz.prog.underlying T = some (.slice E)
 hi : (Tryz.prog.info? E).map (fun i => (i.zero,i.size,i.bytes)) = some (some z,1,bytes)
 hz : z.cells = #[z]
 hb : bytes ≤ 32
 hs : ∀ w,(sizeOf E).run Tryz.prog w = .ok 1 w
theorem oneInts : OneCell 22 3 (.int .i64 0) 8:=⟨uInts,iInt,rfl,by decide,sInt⟩
theorem ValsAt.len {T E : TypeId} {z : Value} {b : Nat} (o : OneCell T E z b) {w : World} {v : Value} {vs : List Value} (h : ValsAt w v vs) (ty : TypeId) (w' : World) :
 (Builtin.len_ #[T] ty #[v]).run Tryz.prog w' = .ok (.int .i64 vs.length) w':=by
 obtain ⟨a,cap,rfl,h1,h2,h3,h4⟩:=h
 have e : Tryz.prog.elem T = E:=by simp [Program.elem,o.ht]
 rw [run_len_slice _ _ _ _ _ _ (by rw [e]; exact o.ht)]
 rfl
theorem ValsAt.idx {T E : TypeId} {z : Value} {b : Nat} (o : OneCell T E z b) {w : World} {v : Value} {vs : List Value} (h : ValsAt w v vs) (i : Nat) (hi : i < vs.length) (w' : World) :
 (Instr.indexAt T v (.int .i64 i)).run Tryz.prog w' = .ok (.pointer (some (valAt v i))) w':=by
 obtain ⟨a,cap,rfl,h1,h2,h3,h4⟩:=h
 have e : Tryz.prog.elem T = E:=by simp [Program.elem,o.ht]
 cases a with
 | none => have:=h3 rfl; omega
 | some p =>
  rw [run_indexAt_slice _ _ _ _ _ _ _ (by rw [e]; exact o.ht),if_pos (by omega),e,o.hs]
  simp [valAt]
/-- v is a slice that this call made, from block B on; its spare room is its own, too. -/
def OwnV (E : TypeId) (B : Nat) (w : World) (v : Value) (vs : List Value) : Prop:=w.ownsRow B E 1 v vs.length vs
theorem OwnI.toV {B : Nat} {w : World} {v : Value} {xs : List Int} (h : OwnI B w v xs) : OwnV 3 B w v (xs.map (Value.int .i64)):=by
 unfold OwnV; simpa [OwnI] using h
theorem OwnV.toI {B : Nat} {w : World} {v : Value} {xs : List Int} (h : OwnV 3 B w v (xs.map (Value.int .i64))) : OwnI B w v xs:=by
 unfold OwnV at h; simpa [OwnI] using h
theorem OwnV.nil (E : TypeId) (B : Nat) (w : World) : OwnV E B w (.slice none 0 0) []:=World.ownsRow_nil w B _ 1
theorem OwnV.at {E : TypeId} {B : Nat} {w : World} {v : Value} {vs : List Value} (h : OwnV E B w v vs) : ValsAt w v vs:=by
 rcases h.2 with ⟨rfl,hn⟩ | ⟨g,cap,cur,rfl,hb,hg,hn,hm,hs,ht⟩
 ·obtain rfl:=List.length_eq_zero_iff.1 hn
  exact ⟨none,0,rfl,by simp,by simp,fun _ => rfl,by simp⟩
 ·refine ⟨some ⟨g,0,none⟩,cap,rfl,hn,hm,(by intro e; cases e),fun i hi => ?_⟩
  exact World.ownsRow.cells h (g:=g) rfl i _ (by simp [hi])
theorem OwnV.mono {E : TypeId} {B B' : Nat} {w : World} {v : Value} {vs : List Value} (h : OwnV E B w v vs) (hB : B' ≤ B) : OwnV E B' w v vs:=by
 refine ⟨h.1,?_⟩
 rcases h.2 with h2 | ⟨g,cap,cur,e,hb,r⟩
 ·exact .inl h2
 ·exact .inr ⟨g,cap,cur,e,Nat.le_trans hB hb,r⟩
theorem OwnV.lt {E : TypeId} {B : Nat} {w : World} {v : Value} {vs : List Value} (h : OwnV E B w v vs) : ∀ k,v.ownBlock = some k → B ≤ k ∧ k < w.heap.size:=World.ownsRow.lt h
theorem OwnV.frz {E : TypeId} {B : Nat} {w : World} {v : Value} {vs : List Value} (h : OwnV E B w v vs) (i : Nat) (hi : i < vs.length) : w.frozen? (valAt v i) = false:=by
 rcases h.2 with ⟨rfl,hn⟩ | ⟨g,cap,cur,rfl,hb,hg,hn,hm,hs,ht⟩
 ·omega
 ·rw [valAt_row]; exact frozen_of_row w g i cur _ hg
theorem OwnV.blkB {E : TypeId} {B : Nat} {w : World} {v : Value} {vs : List Value} (h : OwnV E B w v vs) (i : Nat) (hi : i < vs.length) : v.ownBlock = some (valAt v i).block ∧ B ≤ (valAt v i).block:=by
 rcases h.2 with ⟨rfl,hn⟩ | ⟨g,cap,cur,rfl,hb,hg,hn,hm,hs,ht⟩
 ·omega
 ·rw [valAt_row]; exact ⟨rfl,hb⟩
theorem OwnV.set {E : TypeId} {B : Nat} {w : World} {v : Value} {vs : List Value} (h : OwnV E B w v vs) (i : Nat) (hi : i < vs.length) (y : Value) :
 OwnV E B (w.setCell (valAt v i) y) v (vs.set i y):=by
 rcases h.2 with ⟨rfl,hn⟩ | ⟨g,cap,cur,rfl,hb,hg,hn,hm,hs,ht⟩
 ·omega
 ·rw [valAt_row]
  have:=(World.ownsRow.stored h i y).1
  unfold OwnV
  rw [List.length_set]
  exact this
theorem OwnV.setGrown {E : TypeId} {B : Nat} {w : World} {v : Value} {vs : List Value} (h : OwnV E B w v vs) (i : Nat) (hi : i < vs.length) (y : Value) :
 w.grownBy (w.setCell (valAt v i) y) v.ownBlock:=by
 have hb:=(h.blkB i hi).1
 exact ⟨rfl,rfl,rfl,by simp [World.setCell],fun k _ hk => Below.heap_setCell _ _ _ _ (by rw [hb] at hk; simp at hk; omega)⟩
theorem OwnV.below {E : TypeId} {B : Nat} {w w' : World} {v : Value} {vs : List Value} (h : OwnV E B w v vs) (hb : Below w.heap.size w w') : OwnV E B w' v vs:=by
 refine ⟨h.1,?_⟩
 rcases h.2 with h2 | ⟨g,cap,cur,e,hB,hg,r⟩
 ·exact .inl h2
 ·refine .inr ⟨g,cap,cur,e,hB,?_,r⟩
  rw [hb.block g (Array.getElem?_eq_some_iff.1 hg).1]; exact hg
theorem OwnV.kept {E : TypeId} {B : Nat} {w w' : World} {row : Option Nat} {v : Value} {vs : List Value} (h : OwnV E B w v vs) (hg : w.grownBy w' row) (hne : v.ownBlock = none ∨ v.ownBlock ≠ row) : OwnV E B w' v vs:=World.ownsRow.kept h hg hne
theorem OwnV.alloc {E : TypeId} {B : Nat} {w : World} {v : Value} {vs : List Value} (h : OwnV E B w v vs) (o : Obj) : OwnV E B (w.alloc o) v vs:=World.ownsRow.alloc h o
theorem OwnV.shape {E : TypeId} {B : Nat} {w : World} {v : Value} {vs : List Value} (h : OwnV E B w v vs) : ∃ a n c,v = .slice a n c:=by
 obtain ⟨a,cap,e,_⟩:=h.at; exact ⟨_,_,_,e⟩
/-- A slice's array: where it begins, how much room it has. -/
def roomOf (v : Value) : Option Addr × Nat:=match v with | .slice a _ c => (a,c) | _ => (none,0)
/-- The front of an owned slice whose array another one shares. -/
theorem OwnV.front {E : TypeId} {B : Nat} {w w' : World} {v v' : Value} {xs ys : List Value} (h : OwnV E B w v xs) (h' : OwnV E B w' v' (xs ++ ys)) (hb : roomOf v' = roomOf v) : OwnV E B w' v xs:=by
 rcases h.2 with ⟨rfl,hn⟩ | ⟨g,cap,cur,rfl,hB,hg,hn,hm,hs,ht⟩
 ·obtain rfl:=List.length_eq_zero_iff.1 hn
  exact OwnV.nil E B w'
 ·rcases h'.2 with ⟨rfl,_⟩ | ⟨g',cap',cur',rfl,hB',hg',hn',hm',hs',ht'⟩
  ·simp [roomOf] at hb
  ·simp [roomOf] at hb
   obtain ⟨rfl,rfl⟩:=hb
   refine ⟨by simp,.inr ⟨g',cap',cur',rfl,hB',hg',hn,hm',hs',?_⟩⟩
   have:=congrArg (List.take xs.length) ht'
   rw [List.take_take,List.take_left'] at this
   ·rw [Nat.mul_one] at this ⊢
    rwa [Nat.min_eq_left (by simp)] at this
   ·rfl
theorem ownBlock_of_room {v v' : Value} {a n c a' n' c'} (hv : v = .slice a n c) (hv' : v' = .slice a' n' c') (h : roomOf v' = roomOf v) : v'.ownBlock = v.ownBlock:=by
 subst hv hv'
 simp [roomOf] at h
 obtain ⟨rfl,rfl⟩:=h
 cases a' <;> rfl
/-- append, with the whole truth about where the new slice lies: in the old one's array, or in a new one, and then nothing that was there has changed. -/
theorem run_app {T E : TypeId} {z : Value} {b : Nat} (o : OneCell T E z b) (w : World) (B : Nat) (ty : TypeId) (v : Value) (xs : List Value) (hown : OwnV E B w v xs)
 (a : Addr) (c : Nat) (ys : List Value) (h0 : 0 < ys.length) (hys : ∀ j u,ys[j]? = some u → w.cell? (a.add j) = some u) (h1 : ∀ u ∈ ys,u.oneCell' = true)
 (hlen : xs.length + ys.length ≤ 4398046511104) (hB : B ≤ w.heap.size) :
 ∃ v' w',(Builtin.append_ #[T,T] ty #[v,.slice (some a) ys.length c]).run Tryz.prog w = .ok v' w' ∧ OwnV E B w' v' (xs ++ ys) ∧
  ((roomOf v' = roomOf v ∧ w.grownBy w' v.ownBlock) ∨ (v'.ownBlock = some w.heap.size ∧ w.grownBy w' none)):=by
 obtain ⟨i,hi,hz0,hz1,hz2⟩:=info_parts o.hi
 have hb:=o.hb
 have hl1 : (xs ++ ys).length = (xs.length + ys.length) * 1:=by simp
 have big : ∀ (old : Nat),old < xs.length + ys.length →
  OwnV E B (w.drew.alloc (.cells (xs.toArray ++ ys.toArray ++ Builtin.zeroCells z.cells (grownCap w (xs.length + ys.length) old E - (xs.length + ys.length))) E)) (.slice (some ⟨w.heap.size,0,none⟩) (xs.length + ys.length) (grownCap w (xs.length + ys.length) old E)) (xs ++ ys):=by
  intro old ho
  have hge:=grownCap_ge w (xs.length + ys.length) old E
  have hcm : grownCap w (xs.length + ys.length) old E ≤ maxLen:=grownCap_le_maxLen w _ old E (by unfold maxLen; omega)
  refine ⟨by simp,.inr ⟨w.heap.size,_,_,by simp,hB,heap_alloc_new w.drew _,by simpa using hge,hcm,?_,?_⟩⟩
  ·simp only [Array.size_append,List.size_toArray,size_zeroCells,o.hz]
   simp
   omega
  ·simp only [Array.toList_append,Nat.mul_one,List.length_append]
   exact List.take_left' (by simp)
 have grw : ∀ (oo : Obj),w.grownBy (w.drew.alloc oo) none:=fun oo => ⟨rfl,rfl,rfl,by simp,fun k hk _ => Below.heap_alloc w.drew oo k hk⟩
 rcases hown.2 with ⟨rfl,hn⟩ | ⟨g,cap,cur,rfl,hbg,hg,hnc,hcm,hcs,htake⟩
 ·obtain rfl:=List.length_eq_zero_iff.1 hn
  have hr:=run_append_nil (P:=Tryz.prog) w T ty E i z o.ht hi hz0 a ys.length c ys (by rw [hz1]; simp) hys h0 (by simp at hlen; omega) (by
   rw [hz2]
   simp only [List.length_nil,Nat.zero_add] at hlen
   calc ys.length * b ≤ 4398046511104 * 32:=Nat.mul_le_mul hlen hb
    _ ≤ _:=by decide)
  have hbg:=big 0 (by simpa using h0)
  simp only [List.length_nil,Nat.zero_add,List.nil_append,Array.empty_append] at hbg
  exact ⟨_,_,hr,by simpa using hbg,.inr ⟨rfl,grw _⟩⟩
 ·by_cases hroom : xs.length + ys.length ≤ cap
  ·have hr:=run_append_room (P:=Tryz.prog) w T ty E i o.ht hi g xs.length cap cur hg a ys.length c ys (by rw [hz1]; simp) hys h1 hroom (by rw [hz1,hcs]; omega)
   refine ⟨_,_,hr,⟨by simp,.inr ⟨g,cap,_,by simp,hbg,setRow_heap w g cur _ E _ hg,by simpa using hroom,hcm,?_,?_⟩⟩,.inl ⟨rfl,⟨rfl,rfl,rfl,by simp,fun k _ hk => setRow_other w g k _ (fun e => hk (by simp [Value.ownBlock,e]))⟩⟩⟩
   ·simp only [List.size_toArray,List.length_append,List.length_take,List.length_drop,Array.length_toList,hz1]
    omega
   ·rw [hz1,htake]
    simp only [Nat.mul_one,List.length_append]
    exact List.take_left' (by simp)
  ·have holds : ∀ j u,xs[j]? = some u → w.cell? ((⟨g,0,none⟩ : Addr).add j) = some u:=World.ownsRow.cells hown (g:=g) rfl
   have hr:=run_append_grow (P:=Tryz.prog) w T ty E i z o.ht hi hz0 ⟨g,0,none⟩ xs.length cap xs (by rw [hz1]; simp) holds a ys.length c ys (by rw [hz1]; simp) hys (by omega) (by omega) (by
    rw [hz2]
    exact growslice_fits (by omega) (by
     calc (xs.length + ys.length) * b ≤ 4398046511104 * 32:=Nat.mul_le_mul hlen hb
      _ ≤ _:=by decide))
   exact ⟨_,_,hr,big cap (by omega),.inr ⟨rfl,grw _⟩⟩
/-- append(s, y) of one int, the whole truth. -/
theorem wpl_app1 {w : World} {ops : Array Oper} {rest : List Oper} {o : Oper} {a : Act} {Q : Exit → Act → World → Prop} (hgd : o.guard = none) (s x : Operand)
 (ho : o.op = .call { callee:=.builtin .append,args:=#[s,x],argTypes:=#[22,22] })
 (B : Nat) (v : Value) (xs : List Int) (y : Int) (hown : OwnI B w v xs) (hs : a.eval s = v) (hx : a.eval x = .slice (some ⟨w.heap.size,0,none⟩) 1 1)
 (hlen : xs.length < 4398046511104) (hB : B ≤ w.heap.size)
 (h : ∀ v' w',OwnI B w' v' (xs ++ [y]) → Below B w w' → ((roomOf v' = roomOf v ∧ w.grownBy w' v.ownBlock) ∨ (∃ k,v'.ownBlock = some k ∧ w.heap.size ≤ k ∧ w.grownBy w' none)) → wpList Tryz.prog ops Q rest (a.put o.dst v') w') :
 wpList Tryz.prog ops Q (o :: rest) a (w.alloc (.cells #[.int .i64 y] 3)):=by
 refine wpList_plain hgd fun K hK => ?_
 obtain ⟨v',w',hr,h2,h3⟩:=run_app oneInts (w.alloc (.cells #[.int .i64 y] 3)) B o.type v _ (hown.alloc _).toV ⟨w.heap.size,0,none⟩ 1 [.int .i64 y] (by simp) (cell_one_new _ _ _) (by simp [Value.oneCell']) (by simp; omega) (by simp; omega)
 unfold Oper.wp execOp
 simp only [ho,resolve,invoke,builtin,Sem.run_bind,Sem.run_pure,Result.andThen_ok,List.map_toArray,List.map_cons,List.map_nil,hs,hx]
 rw [show ([.int .i64 y] : List Value).length = 1 from rfl] at hr
 rw [hr]
 have hal : ∀ row,w.grownBy (w.alloc (.cells #[.int .i64 y] 3)) row:=fun row => World.grownBy_alloc w _ row
 have ho' : OwnI B w' v' (xs ++ [y]):=OwnV.toI (by simpa using h2)
 rcases h3 with ⟨hroom,hg⟩ | ⟨hk,hg⟩
 ·have hg2:=(hal v.ownBlock).trans hg
  exact hK _ _ (h v' w' ho' ((Below.refl _ _).grown hg2 hB (fun k hk => (hown.lt k hk).1)) (.inl ⟨hroom,hg2⟩))
 ·have hg2:=(hal none).trans hg
  exact hK _ _ (h v' w' ho' ((Below.refl _ _).grown hg2 hB (by intro k hk; cases hk)) (.inr ⟨_,hk,by simp,hg2⟩))
theorem oneLists : OneCell 74 22 (.slice none 0 0) 24:=⟨by kernel_rfl,by kernel_rfl,rfl,by decide,fun _ => by kernel_rfl⟩
end Go.Proofs.YtjiadfblphdchaaGreatDoor
namespace Go.Proofs.YtjiadfblphdchaaGreatDoor
open Go.RowKit
/-- A call returns one value; nothing that was there has changed. -/
def Ret1 (Φ : Value → World → Prop) (w : World) (e : Ending) (w' : World) : Prop:=∃ x,e = .returned x ∧ Below w.heap.size w w' ∧ Φ x w'
def Ret2 (Φ : Value → Value → World → Prop) (w : World) (e : Ending) (w' : World) : Prop:=∃ x y,e = .returned (.tuple #[x,y]) ∧ Below w.heap.size w w' ∧ Φ x y w'
def Ret3 (Φ : Value → Value → Value → World → Prop) (w : World) (e : Ending) (w' : World) : Prop:=∃ x y z,e = .returned (.tuple #[x,y,z]) ∧ Below w.heap.size w w' ∧ Φ x y z w'
/-- The error that a number stands for: what its package-level variable holds. -/
abbrev rootV (r : Nat → Addr) (n : Int) : Value:=.iface 255 (.pointer (some (r n.toNat)))
/-- The package-level errors lie where they were laid. -/
structure Glob (r : Nat → Addr) (w : World) : Prop where
 c1 : w.cell? ⟨0,0,none⟩ = some (rootV r 1)
 c2 : w.cell? ⟨1,0,none⟩ = some (rootV r 2)
 c3 : w.cell? ⟨2,0,none⟩ = some (rootV r 3)
 c4 : w.cell? ⟨3,0,none⟩ = some (rootV r 4)
 c5 : w.cell? ⟨4,0,none⟩ = some (rootV r 5)
 c6 : w.cell? ⟨5,0,none⟩ = some (rootV r 6)
 c7 : w.cell? ⟨6,0,none⟩ = some (rootV r 7)
 c8 : w.cell? ⟨7,0,none⟩ = some (rootV r 8)
 c9 : w.cell? ⟨8,0,none⟩ = some (rootV r 9)
 c10 : w.cell? ⟨9,0,none⟩ = some (rootV r 10)
 c11 : w.cell? ⟨10,0,none⟩ = some (rootV r 11)
 c12 : w.cell? ⟨11,0,none⟩ = some (rootV r 99)
 str : ∀ n : Nat,(1 ≤ n ∧ n ≤ 11) ∨ n = 99 → ∃ s,w.cell? (r n) = some (.string s)
 apart : ∀ m n : Int,1 ≤ m → m ≤ 11 → 1 ≤ n → n ≤ 11 → r m.toNat = r n.toNat → m = n
theorem Glob.below {r : Nat → Addr} {w w' : World} (h : Glob r w) (hb : Below w.heap.size w w') : Glob r w':=by
 have k : ∀ {i v},w.cell? ⟨i,0,none⟩ = some v → w'.cell? ⟨i,0,none⟩ = some v:=fun {i v} hc => by
  rw [hb.cell (World.block_lt_of_cell? _ _ hc)]; exact hc
 exact ⟨k h.c1,k h.c2,k h.c3,k h.c4,k h.c5,k h.c6,k h.c7,k h.c8,k h.c9,k h.c10,k h.c11,k h.c12,(fun n hn => by
  obtain ⟨s,hs⟩:=h.str n hn
  exact ⟨s,by rw [hb.cell (World.block_lt_of_cell? _ _ hs)]; exact hs⟩),h.apart⟩
/-- What a Fault chain is in memory. -/
def ErrAt (r : Nat → Addr) (w : World) (n : Int) : List (ByteArray × Int) → Value → Prop
 | [],v => v = rootV r n
 | (op,at_) :: rest,v => ∃ p u,v = .iface 68 (.pointer (some ⟨p,0,none⟩)) ∧ w.cell? ⟨p,0,none⟩ = some (.string op) ∧ w.cell? ⟨p,1,none⟩ = some (.int .i64 at_) ∧
     w.cell? ⟨p,2,none⟩ = some u ∧ ErrAt r w n rest u
def ErrIs (r : Nat → Addr) (w : World) (t : PErr) (v : Value) : Prop :=
 match t with
 | none => v = .nilIface
 | some (n,l) => ErrAt r w n l v
theorem ErrAt.below {r : Nat → Addr} {w w' : World} {n : Int} (hb : Below w.heap.size w w') : ∀ {l : List (ByteArray × Int)} {v : Value},ErrAt r w n l v → ErrAt r w' n l v
 | [],_,h => h
 | (op,at_) :: rest,v,⟨p,u,e,c0,c1,c2,h⟩ => by
  have k : ∀ {i x},w.cell? ⟨p,i,none⟩ = some x → w'.cell? ⟨p,i,none⟩ = some x:=fun {i x} hc => by
   rw [hb.cell (World.block_lt_of_cell? _ _ hc)]; exact hc
  exact ⟨p,u,e,k c0,k c1,k c2,ErrAt.below hb h⟩
theorem ErrIs.below {r : Nat → Addr} {w w' : World} {t : PErr} {v : Value} (h : ErrIs r w t v) (hb : Below w.heap.size w w') : ErrIs r w' t v:=by
 match t,h with
 | none,h => exact h
 | some (n,l),h => exact ErrAt.below hb h
theorem ErrAt.shape {r : Nat → Addr} {w : World} {n : Int} {l : List (ByteArray × Int)} {v : Value} (h : ErrAt r w n l v) : ∃ T a,v = .iface T (.pointer (some a)):=by
 match l,h with
 | [],h => exact ⟨_,_,h⟩
 | _ :: _,⟨p,u,e,_⟩ => exact ⟨_,_,e⟩
/-- What the walk wants of an error: nil, or an interface value that holds a pointer. -/
theorem ErrIs.none_eq {r : Nat → Addr} {w : World} {v : Value} (h : ErrIs r w none v) : v = .nilIface:=h
theorem ErrIs.some_shape {r : Nat → Addr} {w : World} {t : Int × List (ByteArray × Int)} {v : Value} (h : ErrIs r w (some t) v) : ∃ T a,v = .iface T (.pointer (some a)):=ErrAt.shape h
set_option maxHeartbeats 1000000 in
theorem root_any (r : Nat → Addr) (n : Int) (w : World) (hg : Glob r w) (h1 : 1 ≤ n) (h2 : n ≤ 11) :
 Calls Tryz.prog 106 #[.int .i64 n] w fun e w' => e = .returned (rootV r n) ∧ w = w':=by
 obtain ⟨c1,c2,c3,c4,c5,c6,c7,c8,c9,c10,c11,_,_,_⟩:=hg
 have hn : n = 1 ∨ n = 2 ∨ n = 3 ∨ n = 4 ∨ n = 5 ∨ n = 6 ∨ n = 7 ∨ n = 8 ∨ n = 9 ∨ n = 10 ∨ n = 11:=by omega
 rcases hn with rfl | rfl | rfl | rfl | rfl | rfl | rfl | rfl | rfl | rfl | rfl <;>
 (clear h1 h2
  go_enter Tryz.func106,Tryz.ntmps106
  go_wp2
  go_ret
  exact ⟨rfl,rfl⟩)
set_option maxHeartbeats 400000 in
theorem new_any (r : Nat → Addr) (op : ByteArray) (at_ n : Int) (w : World) (hg : Glob r w) (h1 : 1 ≤ n) (h2 : n ≤ 11) :
 Calls Tryz.prog 66 #[.string op,.int .i64 at_,.int .i64 n] w (Ret1 (fun v w' => ErrIs r w' (fresh op at_ n) v) w):=by
 have hn : (n == 0) = false:=by simp; omega
 go_enter Tryz.func66,Tryz.ntmps66
 go_wp2_with fail
 refine (root_any r n w hg h1 h2).mono ?_
 rintro e w' ⟨rfl,rfl⟩
 go_wp2
 go_ret
 refine ⟨_,rfl,(Below.refl _ _).alloc (Nat.le_refl _) _,w.heap.size,rootV r n,rfl,?_,?_,?_,rfl⟩ <;> simp
set_option maxHeartbeats 400000 in
theorem under_nil (op : ByteArray) (at_ : Int) (w : World) :
 Calls Tryz.prog 43 #[.string op,.int .i64 at_,.nilIface] w fun e w' => e = .returned .nilIface ∧ w = w':=by
 go_enter Tryz.func43,Tryz.ntmps43
 go_wp2
 go_ret
 exact ⟨rfl,rfl⟩
set_option maxHeartbeats 400000 in
theorem under_any (r : Nat → Addr) (op : ByteArray) (at_ : Int) (t : PErr) (v : Value) (w : World) (h : ErrIs r w t v) :
 Calls Tryz.prog 43 #[.string op,.int .i64 at_,v] w (Ret1 (fun u w' => ErrIs r w' (under op at_ t) u) w):=by
 match t,h with
 | none,h =>
  obtain rfl:=h.none_eq
  exact (under_nil op at_ w).mono fun e w' ⟨he,hw⟩ => by subst hw; exact ⟨_,he,Below.refl _ _,rfl⟩
 | some t,h =>
  obtain ⟨T,a,rfl⟩:=h.some_shape
  have h':=Lib.hid h
  clear h
  go_enter Tryz.func43,Tryz.ntmps43
  go_wp2
  go_ret
  refine ⟨_,rfl,(Below.refl _ _).alloc (Nat.le_refl _) _,w.heap.size,.iface T (.pointer (some a)),rfl,?_,?_,?_,ErrAt.below ((Below.refl _ _).alloc (Nat.le_refl _) _) h'.out⟩ <;> simp
end Go.Proofs.YtjiadfblphdchaaGreatDoor
namespace Go.Proofs.YtjiadfblphdchaaGreatDoor
open Go.RowKit
set_option maxRecDepth 100000
theorem oneStrs : OneCell 35 9 (.string ⟨#[]⟩) 16:=⟨by kernel_rfl,by kernel_rfl,rfl,by decide,fun _ => by kernel_rfl⟩
/-- What an edenraw.Err is in memory. -/
def EAt (w : World) (t : PErr) (v : Value) : Prop :=
 match t with
 | none => v = .agg #[.int .i64 0,.slice none 0 0,.slice none 0 0]
 | some (n,l) => ∃ a1 n1 c1 a2 n2 c2,v = .agg #[.int .i64 n,.slice a1 n1 c1,.slice a2 n2 c2] ∧ ValsAt w (.slice a1 n1 c1) (l.map fun x => Value.string x.1) ∧ IntsAt w (.slice a2 n2 c2) (l.map (·.2))
theorem EAt.below {w w' : World} {t : PErr} {v : Value} (h : EAt w t v) (hb : Below w.heap.size w w') : EAt w' t v:=by
 match t,h with
 | none,h => exact h
 | some (n,l),⟨a1,n1,c1,a2,n2,c2,e,h1,h2⟩ => exact ⟨a1,n1,c1,a2,n2,c2,e,h1.below hb,h2.below hb⟩
/-- An edenraw.Err whose lists this call made, from block B on. -/
def EOwn (B : Nat) (w : World) (t : PErr) (v : Value) : Prop :=
 match t with
 | none => v = .agg #[.int .i64 0,.slice none 0 0,.slice none 0 0]
 | some (n,l) => ∃ a1 n1 c1 a2 n2 c2,v = .agg #[.int .i64 n,.slice a1 n1 c1,.slice a2 n2 c2] ∧ OwnV 9 B w (.slice a1 n1 c1) (l.map fun x => Value.string x.1) ∧ OwnV 3 B w (.slice a2 n2 c2) ((l.map (·.2)).map (Value.int .i64))
theorem OwnV.setBelowBase {E : TypeId} {B : Nat} {w : World} {v : Value} {vs : List Value} (h : OwnV E B w v vs) {a : Addr} (ha : a.block < B) (u : Value) : OwnV E B (w.setCell a u) v vs:=ownsRow_setCell_below h ha u
theorem EOwn.at {B : Nat} {w : World} {t : PErr} {v : Value} (h : EOwn B w t v) : EAt w t v:=by
 match t,h with
 | none,h => exact h
 | some (n,l),⟨a1,n1,c1,a2,n2,c2,e,h1,h2⟩ => exact ⟨a1,n1,c1,a2,n2,c2,e,h1.at,OwnI.at (OwnV.toI h2)⟩
theorem EOwn.mono {B B' : Nat} {w : World} {t : PErr} {v : Value} (h : EOwn B w t v) (hB : B' ≤ B) : EOwn B' w t v:=by
 match t,h with
 | none,h => exact h
 | some (n,l),⟨a1,n1,c1,a2,n2,c2,e,h1,h2⟩ => exact ⟨a1,n1,c1,a2,n2,c2,e,h1.mono hB,h2.mono hB⟩
theorem EOwn.below {B : Nat} {w w' : World} {t : PErr} {v : Value} (h : EOwn B w t v) (hb : Below w.heap.size w w') : EOwn B w' t v:=by
 match t,h with
 | none,h => exact h
 | some (n,l),⟨a1,n1,c1,a2,n2,c2,e,h1,h2⟩ => exact ⟨a1,n1,c1,a2,n2,c2,e,h1.below hb,h2.below hb⟩
theorem EOwn.set {B : Nat} {w : World} {t : PErr} {v : Value} (h : EOwn B w t v) {a : Addr} (ha : a.block < B) (u : Value) : EOwn B (w.setCell a u) t v:=by
 match t,h with
 | none,h => exact h
 | some (n,l),⟨a1,n1,c1,a2,n2,c2,e,h1,h2⟩ => exact ⟨a1,n1,c1,a2,n2,c2,e,h1.setBelowBase ha u,h2.setBelowBase ha u⟩
theorem EOwn.set3 {B b : Nat} {w : World} {t : PErr} {v : Value} (h : EOwn B w t v) (hb : b < B) (x y z : Value) : EOwn B (((w.setCell ⟨b,0,none⟩ x).setCell ⟨b,1,none⟩ y).setCell ⟨b,2,none⟩ z) t v :=
 ((h.set (a:=⟨b,0,none⟩) hb x).set (a:=⟨b,1,none⟩) hb y).set (a:=⟨b,2,none⟩) hb z
theorem Below.set3 {B b : Nat} {w0 w : World} (h : Below B w0 w) (hb : B ≤ b) (x y z : Value) : Below B w0 (((w.setCell ⟨b,0,none⟩ x).setCell ⟨b,1,none⟩ y).setCell ⟨b,2,none⟩ z) :=
 ((h.setCell (p:=⟨b,0,none⟩) hb x).setCell (p:=⟨b,1,none⟩) hb y).setCell (p:=⟨b,2,none⟩) hb z
theorem OwnV.lit {E : TypeId} (B : Nat) (w : World) (hB : B ≤ w.heap.size) (x : Value) : OwnV E B (w.alloc (.cells #[x] E)) (.slice (some ⟨w.heap.size,0,none⟩) 1 1) [x] :=
 World.ownsRow_lit (base:=B) (e:=E) (size:=1) w #[x] 1 hB (by unfold maxLen; omega) rfl
theorem EAt.shape {w : World} {t : PErr} {v : Value} (h : EAt w t v) : ∃ n a1 n1 c1 a2 n2 c2,v = .agg #[.int .i64 n,.slice a1 n1 c1,.slice a2 n2 c2]:=by
 match t,h with
 | none,h => exact ⟨0,none,0,0,none,0,0,h⟩
 | some (n,l),⟨a1,n1,c1,a2,n2,c2,e,_⟩ => exact ⟨n,a1,n1,c1,a2,n2,c2,e⟩
abbrev zErr : Value:=.agg #[.int .i64 0,.slice none 0 0,.slice none 0 0]
theorem EAt.none (w : World) : EAt w none zErr:=rfl
set_option maxHeartbeats 1000000 in
theorem raw_root (r : Nat → Addr) (n : Int) (w : World) (hg : Glob r w) (h1 : 1 ≤ n) (h2 : n ≤ 11) :
 Calls Tryz.prog 38 #[.int .i64 n] w fun e w' => e = .returned (rootV r n) ∧ w = w':=by
 obtain ⟨c1,c2,c3,c4,c5,c6,c7,c8,c9,c10,c11,_,_,_⟩:=hg
 have hn : n = 1 ∨ n = 2 ∨ n = 3 ∨ n = 4 ∨ n = 5 ∨ n = 6 ∨ n = 7 ∨ n = 8 ∨ n = 9 ∨ n = 10 ∨ n = 11:=by omega
 rcases hn with rfl | rfl | rfl | rfl | rfl | rfl | rfl | rfl | rfl | rfl | rfl <;>
 (clear h1 h2
  go_enter Tryz.func38,Tryz.ntmps38
  go_wp2
  go_ret
  exact ⟨rfl,rfl⟩)
theorem err_bad (n : Int) (a1 : Option Addr) (n1 c1 : Nat) (a2 : Option Addr) (n2 c2 : Nat) (w : World) :
 Calls Tryz.prog 24 #[.agg #[.int .i64 n,.slice a1 n1 c1,.slice a2 n2 c2]] w (Ret1 (fun x _ => x = .bool (n != 0)) w):=by
 go_enter Tryz.func24,Tryz.ntmps24
 go_wp2
 go_ret
 exact ⟨_,rfl,(Below.refl _ _).alloc (Nat.le_refl _) _,rfl⟩
set_option maxHeartbeats 800000 in
theorem raw_new (op : ByteArray) (at_ n : Int) (w : World) :
 Calls Tryz.prog 20 #[.string op,.int .i64 at_,.int .i64 n] w (Ret1 (fun x w' => EOwn w.heap.size w' (fresh op at_ n) x) w):=by
 go_enter Tryz.func20,Tryz.ntmps20
 go_wp2
 refine bodyPost_ret (v:=.agg #[.int .i64 n,.slice (some ⟨w.heap.size + 1,0,none⟩) 1 1,.slice (some ⟨w.heap.size + 1 + 1,0,none⟩) 1 1]) (by simp [results,Tryz.results20,go_sem]) rfl ⟨_,rfl,?_,?_⟩
 ·exact (((Below.refl _ _).alloc (Nat.le_refl _) _).alloc (by simp) _).alloc (by simp; omega) _
 ·have h1:=(OwnV.lit (E:=9) w.heap.size (w.alloc (.cells #[.int .i64 n,.slice (some ⟨w.heap.size + 1,0,none⟩) 1 1,.slice (some ⟨w.heap.size + 1 + 1,0,none⟩) 1 1] 37)) (by simp) (.string op)).alloc (.cells #[.int .i64 at_] 3)
  have h2:=OwnV.lit (E:=3) w.heap.size ((w.alloc (.cells #[.int .i64 n,.slice (some ⟨w.heap.size + 1,0,none⟩) 1 1,.slice (some ⟨w.heap.size + 1 + 1,0,none⟩) 1 1] 37)).alloc (.cells #[.string op] 9)) (by simp; omega) (.int .i64 at_)
  simp only [World.size_alloc] at h1 h2
  exact ⟨_,_,_,_,_,_,rfl,h1,h2⟩
theorem ValsAt.alloc {w : World} {v : Value} {vs : List Value} (h : ValsAt w v vs) (o : Obj) : ValsAt (w.alloc o) v vs:=h.below ((Below.refl _ _).alloc (Nat.le_refl _) _)
theorem ValsAt.drew {w : World} {v : Value} {vs : List Value} (h : ValsAt w v vs) : ValsAt w.drew v vs:=h
theorem ValsAt.split {w : World} {v : Value} {vs : List Value} (h : ValsAt w v vs) : (v = .slice none 0 0 ∧ vs = []) ∨ ∃ p cap,v = .slice (some p) vs.length cap ∧ ∀ j u,vs[j]? = some u → w.cell? (p.add j) = some u:=by
 obtain ⟨a,cap,rfl,h1,h2,h3,h4⟩:=h
 cases a with
 | none =>
  obtain rfl:=h3 rfl
  obtain rfl:=List.length_eq_zero_iff.1 (show vs.length = 0 by omega)
  exact .inl ⟨rfl,rfl⟩
 | some p =>
  refine .inr ⟨p,cap,rfl,fun j u hj => ?_⟩
  have hjl : j < vs.length:=(List.getElem?_eq_some_iff.1 hj).1
  have:=h4 j hjl
  simp only [valAt] at this
  rw [this,← hj]; simp [hjl]
theorem IntsAt.alloc {w : World} {v : Value} {xs : List Int} (h : IntsAt w v xs) (o : Obj) : IntsAt (w.alloc o) v xs:=h.below ((Below.refl _ _).alloc (Nat.le_refl _) _)
/-- append([]T{x}, ys...) in a region that draws. -/
theorem step_under {T E : TypeId} {z : Value} {bytes : Nat} (oc : OneCell T E z bytes) {ops : Array Oper} {o : Oper} {a : Act} {w : World} {K : Act → World → Prop} {Q : Exit → Act → World → Prop} {Ep : Prop}
 (hg : o.guard = none) (s x : Operand) (hop : o.op = Op.call { callee:=Callee.builtin Builtin.append,args:=#[s,x],argTypes:=#[T,T] })
 (b : Nat) (x0 : Value) (hs : a.eval s = .slice (some ⟨b,0,none⟩) 1 1) (hb : w.cell? ⟨b,0,none⟩ = some x0)
 (u : Value) (ys : List Value) (hx : a.eval x = u) (hu : ValsAt w u ys) (h0 : 0 < ys.length) (hl : ys.length ≤ 1000) (h1 : ∀ u ∈ ys,u.oneCell' = true)
 (hK : ∀ v' w',OwnV E w.heap.size w' v' (x0 :: ys) → Below w.heap.size w w' → K (a.put o.dst v') w') :
 if Region.wanted o (yielded ops a.tmps) = true then Oper.wp Tryz.prog o a w K Q else Ep:=by
 obtain ⟨i,hi,hz0,hz1,hz2⟩:=info_parts oc.hi
 rcases hu.split with ⟨_,rfl⟩ | ⟨p,cap,rfl,hc⟩
 ·simp at h0
 ·have hb':=oc.hb
  refine step_append_grows hg s x T hop E i z 1 bytes oc.ht hi hz0 hz1 hz2 (by rw [oc.hz]; rfl) (by decide) (some ⟨b,0,none⟩) 1 1 [x0] hs (fun h => by cases h) rfl
   (fun b' hb2 j u hj => by
     obtain rfl:=Option.some.inj hb2
     obtain ⟨hj1,hj2⟩:=List.getElem?_eq_some_iff.1 hj
     obtain rfl : j = 0:=by simpa using hj1
     simp at hj2; subst hj2
     exact hb) p ys.length cap ys hx (by simp) hc h1 (by omega) (by unfold maxLen; omega) (by
      calc (1 + ys.length) * bytes ≤ 1001 * 32:=Nat.mul_le_mul (by omega) hb'
       _ ≤ _:=by decide) ?_
  intro v' w' hown hgr
  have hv : OwnV E w.heap.size w' v' (x0 :: ys):=by
   unfold OwnV
   rw [show (x0 :: ys).length = 1 + ys.length by simp; omega]
   exact hown
  exact hK v' w' hv ((Below.refl _ _).grown hgr (Nat.le_refl _) (by intro k hk; cases hk))
theorem raw_under_nil (op : ByteArray) (at_ : Int) (w : World) :
 Calls Tryz.prog 35 #[.string op,.int .i64 at_,zErr] w (Ret1 (fun x w' => EOwn w.heap.size w' none x) w):=by
 go_enter Tryz.func35,Tryz.ntmps35
 go_wp2
 refine bodyPost_ret (v:=zErr) (by simp [results,Tryz.results35,go_sem]) rfl ⟨_,rfl,?_,rfl⟩
 exact ((Below.refl _ _).alloc (Nat.le_refl _) _).alloc (by simp) _
end Go.Proofs.YtjiadfblphdchaaGreatDoor
namespace Go.Proofs.YtjiadfblphdchaaGreatDoor
open Go.RowKit
set_option maxRecDepth 100000
theorem ValsAt.shape {w : World} {v : Value} {vs : List Value} (h : ValsAt w v vs) : ∃ a n c,v = .slice a n c:=by
 obtain ⟨a,cap,e,_⟩:=h; exact ⟨_,_,_,e⟩
theorem cell_keep {w w' : World} {b i : Nat} {x : Value} (hb : Below w.heap.size w w') (h : w.cell? ⟨b,i,none⟩ = some x) : w'.cell? ⟨b,i,none⟩ = some x :=
 (hb.cell (p:=⟨b,i,none⟩) (World.block_lt_of_cell? _ _ h)).trans h
theorem cell_alloc {w : World} {b i : Nat} {x : Value} (h : w.cell? ⟨b,i,none⟩ = some x) (o : Obj) : (w.alloc o).cell? ⟨b,i,none⟩ = some x:=cell_keep ((Below.refl _ _).alloc (Nat.le_refl _) _) h
theorem cell_new {w : World} {b : Nat} {x : Value} {T : TypeId} (hb : b = w.heap.size) : (w.alloc (.cells #[x] T)).cell? ⟨b,0,none⟩ = some x:=by subst hb; simp
theorem cell_drew {w : World} {b i : Nat} {x : Value} (h : w.cell? ⟨b,i,none⟩ = some x) : w.drew.cell? ⟨b,i,none⟩ = some x:=h
/-- Three cells of a variable of the call's own. -/
def Box3 (w : World) (b : Nat) (x0 x1 x2 : Value) : Prop:=(w.cell? ⟨b,0,none⟩ = some x0 ∧ w.cell? ⟨b,1,none⟩ = some x1 ∧ w.cell? ⟨b,2,none⟩ = some x2) ∧ w.frozen? ⟨b,0,none⟩ = false ∧ w.frozen? ⟨b,1,none⟩ = false ∧ w.frozen? ⟨b,2,none⟩ = false
theorem Box3.below {w w' : World} {b : Nat} {x0 x1 x2 : Value} (h : Box3 w b x0 x1 x2) (hb : Below w.heap.size w w') : Box3 w' b x0 x1 x2:=by
 obtain ⟨⟨h0,h1,h2⟩,f0,f1,f2⟩:=h
 have hlt:=World.block_lt_of_cell? _ _ h0
 exact ⟨⟨cell_keep hb h0,cell_keep hb h1,cell_keep hb h2⟩,(hb.frozen (p:=⟨b,0,none⟩) hlt).trans f0,(hb.frozen (p:=⟨b,1,none⟩) hlt).trans f1,(hb.frozen (p:=⟨b,2,none⟩) hlt).trans f2⟩
theorem Box3.alloc {w : World} {b : Nat} {x0 x1 x2 : Value} (h : Box3 w b x0 x1 x2) (o : Obj) : Box3 (w.alloc o) b x0 x1 x2:=h.below ((Below.refl _ _).alloc (Nat.le_refl _) _)
theorem Box3.drew {w : World} {b : Nat} {x0 x1 x2 : Value} (h : Box3 w b x0 x1 x2) : Box3 w.drew b x0 x1 x2:=h
theorem OwnV.drew {E : TypeId} {B : Nat} {w : World} {v : Value} {vs : List Value} (h : OwnV E B w v vs) : OwnV E B w.drew v vs:=h
theorem Below.allocL {w w' : World} (h : Below w.heap.size w w') (o : Obj) : Below w.heap.size w (w'.alloc o):=h.alloc h.size o
theorem Below.stepL {w1 w2 w3 : World} (h : Below w1.heap.size w1 w2) (k : Below w2.heap.size w2 w3) : Below w1.heap.size w1 w3:=h.trans (k.mono h.size)
theorem belowAlloc' (w : World) (o : Obj) : Below w.heap.size w (w.alloc o):=(Below.refl _ _).alloc (Nat.le_refl _) _
theorem Below.drewL {w w' : World} {n : Nat} (h : Below n w w') : Below n w w'.drew:=h.drew
set_option maxHeartbeats 1000000 in
theorem raw_under_some (op : ByteArray) (at_ : Int) (n : Int) (l : List (ByteArray × Int)) (v : Value) (w : World) (h : EAt w (some (n,l)) v) (hn : 1 ≤ n) (hl : 1 ≤ l.length) (hl2 : l.length ≤ 1000) :
 Calls Tryz.prog 35 #[.string op,.int .i64 at_,v] w (Ret1 (fun x w' => EOwn w.heap.size w' (under op at_ (some (n,l))) x) w):=by
 obtain ⟨a1,n1,c1,a2,n2,c2,rfl,hv,hi⟩:=h
 have b2:=(Below.refl w.heap.size w).alloc (Nat.le_refl _) (.cells #[.int .i64 n,.slice a1 n1 c1,.slice a2 n2 c2] 37) |>.alloc (by simp) (.cells #[.int .i64 0,.slice none 0 0,.slice none 0 0] 37)
 have hn0 : (n == 0) = false:=by rw [beq_eq_false_iff_ne]; omega
 have hvl : 0 < (l.map fun x => Value.string x.1).length:=by simp; omega
 have hvl2 : (l.map fun x => Value.string x.1).length ≤ 1000:=by simpa using hl2
 have hil : 0 < ((l.map (·.2)).map (Value.int .i64)).length:=by simp; omega
 have hil2 : ((l.map (·.2)).map (Value.int .i64)).length ≤ 1000:=by simpa using hl2
 have hv1 : Hid (∀ u ∈ (l.map fun x => Value.string x.1),u.oneCell' = true):=by intro u hu; obtain ⟨y,_,rfl⟩:=List.mem_map.1 hu; rfl
 have hi1 : Hid (∀ u ∈ ((l.map (·.2)).map (Value.int .i64)),u.oneCell' = true):=by intro u hu; obtain ⟨y,_,rfl⟩:=List.mem_map.1 hu; rfl
 replace hv:=Lib.hid (hv.below b2)
 replace hi:=Lib.hid (hi.below b2).vals
 have hpost : ∀ (a1 : Option Addr) (n1 c1 : Nat) (a2 : Option Addr) (n2 c2 : Nat) (w' : World),OwnV 9 (w.heap.size + 2) w' (.slice a1 n1 c1) (.string op :: l.map fun x => Value.string x.1) → OwnV 3 (w.heap.size + 2) w' (.slice a2 n2 c2) (.int .i64 at_ :: (l.map (·.2)).map (Value.int .i64)) → EOwn w.heap.size w' (under op at_ (some (n,l))) (.agg #[.int .i64 n,.slice a1 n1 c1,.slice a2 n2 c2]) :=
  fun a1 n1 c1 a2 n2 c2 w' h1 h2 => ⟨_,_,_,_,_,_,rfl,h1.mono (by omega),h2.mono (by omega)⟩
 replace hpost:=Lib.hid hpost
 generalize (l.map fun x => Value.string x.1) = LS at *
 generalize ((l.map (·.2)).map (Value.int .i64)) = LI at *
 go_enter Tryz.func35,Tryz.ntmps35
 go_wp2
 have yy : Box3 ((w.alloc (.cells #[.int .i64 n,.slice a1 n1 c1,.slice a2 n2 c2] 37)).alloc (.cells #[.int .i64 0,.slice none 0 0,.slice none 0 0] 37)) (w.heap.size + 1) (.int .i64 0) (.slice none 0 0) (.slice none 0 0):=by simp [Box3,go_sem]
 have z0 : ((w.alloc (.cells #[.int .i64 n,.slice a1 n1 c1,.slice a2 n2 c2] 37)).alloc (.cells #[.int .i64 0,.slice none 0 0,.slice none 0 0] 37)).cell? ⟨w.heap.size,0,none⟩ = some (.int .i64 n):=by simp
 have z1 : ((w.alloc (.cells #[.int .i64 n,.slice a1 n1 c1,.slice a2 n2 c2] 37)).alloc (.cells #[.int .i64 0,.slice none 0 0,.slice none 0 0] 37)).cell? ⟨w.heap.size,1,none⟩ = some (.slice a1 n1 c1):=by simp
 have z2 : ((w.alloc (.cells #[.int .i64 n,.slice a1 n1 c1,.slice a2 n2 c2] 37)).alloc (.cells #[.int .i64 0,.slice none 0 0,.slice none 0 0] 37)).cell? ⟨w.heap.size,2,none⟩ = some (.slice a2 n2 c2):=by simp
 obtain ⟨W,hW⟩ : ∃ W : World,W = ((w.alloc (.cells #[.int .i64 n,.slice a1 n1 c1,.slice a2 n2 c2] 37)).alloc (.cells #[.int .i64 0,.slice none 0 0,.slice none 0 0] 37)):=⟨_,rfl⟩
 have hWs : w.heap.size + 2 ≤ W.heap.size:=by rw [hW]; simp
 rw [← hW] at b2 hv hi yy z0 z1 z2 ⊢
 clear hW
 go_region_held3 (fun w' => w'.cell? ⟨w.heap.size,0,none⟩ = some (.int .i64 n) ∧ w'.cell? ⟨w.heap.size,1,none⟩ = some (.slice a1 n1 c1) ∧ w'.cell? ⟨w.heap.size,2,none⟩ = some (.slice a2 n2 c2))
  (first | exact ⟨z0,z1,z2⟩ | exact ⟨kS0,kS1,kS2⟩ | exact ⟨kI0,kI1,kI2⟩ | (simp [kI0,kI1,kI2,World.cell?_setCell_far]; done) | (simp [kS0,kS1,kS2,World.cell?_setCell_far]; done) | ((refine ⟨?_,?_,?_⟩) <;> (repeat (first | with_reducible exact z0 | with_reducible exact z1 | with_reducible exact z2 | with_reducible exact kS0 | with_reducible exact kS1 | with_reducible exact kS2 | with_reducible exact kI0 | with_reducible exact kI1 | with_reducible exact kI2 | with_reducible refine cell_drew ?_ | with_reducible refine cell_alloc ?_ _))))
  (first
  | (refine step_under oneStrs rfl _ _ rfl _ (.string op) rfl ?_ (.slice a1 n1 c1) LS rfl ?_ hvl hvl2 hv1.out ?_
     ·repeat (first | with_reducible refine cell_drew ?_ | with_reducible refine cell_new (by simp; done) | with_reducible refine cell_alloc ?_ _ | with_reducible refine cell_keep hbI ?_)
     ·repeat (first | with_reducible exact hv.out | with_reducible refine ValsAt.drew ?_ | with_reducible refine ValsAt.alloc ?_ _ | with_reducible refine ValsAt.below ?_ hbI)
     intro vS wS hS hbS
     obtain ⟨sa,sn,sc,rfl⟩:=hS.shape
     have eS : Below W.heap.size W wS:=Below.stepL (by repeat (first | with_reducible exact Below.refl _ _ | with_reducible refine Below.drewL ?_ | with_reducible refine Below.allocL ?_ _)) hbS
     have mS : OwnV 9 (w.heap.size + 2) wS (.slice sa sn sc) (.string op :: LS):=hS.mono (by simp; omega)
     have kS0 : wS.cell? ⟨w.heap.size,0,none⟩ = some (.int .i64 n):=cell_keep hbS (by repeat (first | with_reducible exact z0 | with_reducible exact kI0 | with_reducible refine cell_drew ?_ | with_reducible refine cell_alloc ?_ _))
     have kS1 : wS.cell? ⟨w.heap.size,1,none⟩ = some (.slice a1 n1 c1):=cell_keep hbS (by repeat (first | with_reducible exact z1 | with_reducible exact kI1 | with_reducible refine cell_drew ?_ | with_reducible refine cell_alloc ?_ _))
     have kS2 : wS.cell? ⟨w.heap.size,2,none⟩ = some (.slice a2 n2 c2):=cell_keep hbS (by repeat (first | with_reducible exact z2 | with_reducible exact kI2 | with_reducible refine cell_drew ?_ | with_reducible refine cell_alloc ?_ _))
     have yS : Box3 wS (w.heap.size + 1) (.int .i64 0) (.slice none 0 0) (.slice none 0 0):=Box3.below (by repeat (first | with_reducible exact yy | with_reducible exact yI | with_reducible refine Box3.drew ?_ | with_reducible refine Box3.alloc ?_ _)) hbS
     have yS':=yS
     obtain ⟨⟨qS0,qS1,qS2⟩,gS0,gS1,gS2⟩:=yS')
  | (refine step_under oneInts rfl _ _ rfl _ (.int .i64 at_) rfl ?_ (.slice a2 n2 c2) LI rfl ?_ hil hil2 hi1.out ?_
     ·repeat (first | with_reducible refine cell_drew ?_ | with_reducible refine cell_new (by simp; done) | with_reducible refine cell_alloc ?_ _ | with_reducible refine cell_keep hbS ?_)
     ·repeat (first | with_reducible exact hi.out | with_reducible refine ValsAt.drew ?_ | with_reducible refine ValsAt.alloc ?_ _ | with_reducible refine ValsAt.below ?_ hbS)
     intro vI wI hI hbI
     obtain ⟨ia,im,ic,rfl⟩:=hI.shape
     have eI : Below W.heap.size W wI:=Below.stepL (by repeat (first | with_reducible exact eS | with_reducible refine Below.drewL ?_ | with_reducible refine Below.allocL ?_ _)) hbI
     have mI : OwnV 3 (w.heap.size + 2) wI (.slice ia im ic) (.int .i64 at_ :: LI):=hI.mono (by have:=eS.size; simp; omega)
     have mS' : OwnV 9 (w.heap.size + 2) wI (.slice sa sn sc) (.string op :: LS):=OwnV.below (by repeat (first | with_reducible exact mS | with_reducible refine OwnV.drew ?_ | with_reducible refine OwnV.alloc ?_ _)) hbI
     have kI0 : wI.cell? ⟨w.heap.size,0,none⟩ = some (.int .i64 n):=cell_keep hbI (by repeat (first | with_reducible exact z0 | with_reducible exact kS0 | with_reducible refine cell_drew ?_ | with_reducible refine cell_alloc ?_ _))
     have kI1 : wI.cell? ⟨w.heap.size,1,none⟩ = some (.slice a1 n1 c1):=cell_keep hbI (by repeat (first | with_reducible exact z1 | with_reducible exact kS1 | with_reducible refine cell_drew ?_ | with_reducible refine cell_alloc ?_ _))
     have kI2 : wI.cell? ⟨w.heap.size,2,none⟩ = some (.slice a2 n2 c2):=cell_keep hbI (by repeat (first | with_reducible exact z2 | with_reducible exact kS2 | with_reducible refine cell_drew ?_ | with_reducible refine cell_alloc ?_ _))
     have yI : Box3 wI (w.heap.size + 1) (.int .i64 0) (.slice none 0 0) (.slice none 0 0):=Box3.below (by repeat (first | with_reducible exact yy | with_reducible exact yS | with_reducible refine Box3.drew ?_ | with_reducible refine Box3.alloc ?_ _)) hbI
     have yI':=yI
     obtain ⟨⟨qI0,qI1,qI2⟩,gI0,gI1,gI2⟩:=yI'))
 all_goals
  have hE:=Lib.hid (hpost.out sa sn sc ia im ic _ (((mS'.setBelowBase (a:=⟨w.heap.size + 1,0,none⟩) (by simp) (.int .i64 n)).setBelowBase (a:=⟨w.heap.size + 1,1,none⟩) (by simp) (.slice sa sn sc)).setBelowBase (a:=⟨w.heap.size + 1,2,none⟩) (by simp) (.slice ia im ic)) (((mI.setBelowBase (a:=⟨w.heap.size + 1,0,none⟩) (by simp) (.int .i64 n)).setBelowBase (a:=⟨w.heap.size + 1,1,none⟩) (by simp) (.slice sa sn sc)).setBelowBase (a:=⟨w.heap.size + 1,2,none⟩) (by simp) (.slice ia im ic)))
  have hB:=Lib.hid ((((b2.trans (eI.mono b2.size)).setCell (p:=⟨w.heap.size + 1,0,none⟩) (by simp) (.int .i64 n)).setCell (p:=⟨w.heap.size + 1,1,none⟩) (by simp) (.slice sa sn sc)).setCell (p:=⟨w.heap.size + 1,2,none⟩) (by simp) (.slice ia im ic))
  clear mS mS' mI eS eI kS0 kS1 kS2 kI0 kI1 kI2 yS qS0 qS1 qS2 gS0 gS1 gS2 hS hI hbS hbI
  go_wp2
  exact bodyPost_ret (v:=.agg #[.int .i64 n,.slice sa sn sc,.slice ia im ic]) (by simp [results,Tryz.results35,go_sem,qI0,qI1,qI2]) rfl ⟨_,rfl,hB.out,hE.out⟩
end Go.Proofs.YtjiadfblphdchaaGreatDoor
namespace Go.Proofs.YtjiadfblphdchaaGreatDoor
open Go.RowKit Go.Extern.Stop Go.Stop Go.Extern
set_option maxRecDepth 100000
namespace Errs
theorem typeOfE (v : Value) (w : World) : (ReflectliteType.typeOf #[.iface 255 v]).run Tryz.prog w = .ok (.iface 161 (.agg #[.pointer (some ⟨17,255,none⟩)])) w:=by kernel_rfl
theorem comparableE (w : World) : ((ReflectliteType.method fun t => do Rtype.noPackHeld "Comparable" t; (fun a => Value.bool a.comparable) <$> typeInfo t) #[.agg #[.pointer (some ⟨17, 255, none⟩)]]).run Tryz.prog w = .ok (.bool true) w := by kernel_rfl
theorem methodComparable (v : Value) (w : World) : (Go.method 388 161 v "Comparable").run Tryz.prog w = .ok (214, v) w := by kernel_rfl
theorem compE : (Tryz.prog.info? 255).map (·.comparable) = some true:=by kernel_rfl
theorem sizeE : (Tryz.prog.info? 276).map (·.size) = some 1:=by kernel_rfl
theorem uErr : Tryz.prog.underlying 28 = some (.interface #[("Error", 256)]) := by kernel_rfl
theorem uES : Tryz.prog.underlying 255 = some (.pointer 276):=by kernel_rfl
theorem uIs : Tryz.prog.underlying 163 = some (.interface #[("Is", 165)]) := by kernel_rfl
theorem uUnw : Tryz.prog.underlying 166 = some (.interface #[("Unwrap", 167)]) := by kernel_rfl
theorem noIsF (v : Value) (xT : TypeId) (w : World) : (Instr.typeAssert (.iface 68 v) xT 163 true).run Tryz.prog w = .ok (.tuple #[.nilIface,.bool false]) w:=run_typeAssert_lacksB uIs (by kernel_rfl) (by kernel_rfl) v xT w
theorem hasUnwrapF (v : Value) (xT : TypeId) (w : World) : (Instr.typeAssert (.iface 68 v) xT 166 true).run Tryz.prog w = .ok (.tuple #[.iface 68 v,.bool true]) w:=run_typeAssert_hasB uUnw (by kernel_rfl) v xT w
theorem methodUnwrap (v : Value) (w : World) : (Go.method 388 68 v "Unwrap").run Tryz.prog w = .ok (208, v) w := by kernel_rfl
theorem unwrap_any (p : Nat) (u : Value) (w : World) (h : w.cell? ⟨p,2,none⟩ = some u) :
 Calls Tryz.prog 208 #[.pointer (some ⟨p,0,none⟩)] w fun e w' => e = .returned u ∧ w = w':=by
 go_enter Tryz.func208,Tryz.ntmps208
 go_wp2
 go_ret
 exact ⟨rfl,rfl⟩
set_option maxHeartbeats 800000 in
theorem is_loop (r : Nat → Addr) (n : Int) (l : List (ByteArray × Int)) (v : Value) (w : World) (h : ErrAt r w n l v) :
 Calls Tryz.prog 70 #[v,rootV r n,.bool true] w fun e w' => e = .returned (.bool true) ∧ w = w':=by
 obtain ⟨i,hi,hcmp⟩:=Option.map_eq_some_iff.1 compE
 obtain ⟨j,hj,hjs⟩:=Option.map_eq_some_iff.1 sizeE
 have heq:=run_eql_iface_ptr_same (P:=Tryz.prog) w (r n.toNat) uErr uES hi hcmp hj
 have nF:=noIsF
 have uF:=hasUnwrapF
 have mU:=methodUnwrap
 clear hi hcmp hj hjs
 replace h:=Lib.hid h
 go_enter Tryz.func70,Tryz.ntmps70
 go_wp2
 go_loopg [0] l.length (fun k u wr => wr = w ∧ ∃ l',l'.length = k ∧ ErrAt r w n l' u)
 case atStart => exact ⟨rfl,l,rfl,h.out⟩
 case round =>
  obtain ⟨rfl,l',hl',hu⟩:=hrel
  match l',hl',hu with
  | [],hl',hu =>
   obtain rfl : _ = rootV r n:=hu
   clear hl'
   go_wp2
   go_ret
   exact ⟨rfl,rfl⟩
  | (op,at_) :: rest,hl',hu =>
   obtain ⟨p,u',rfl,c0,c1,c2,hrest⟩:=hu
   obtain ⟨T,a,rfl⟩:=hrest.shape
   have hty:=run_eql_iface_types (P:=Tryz.prog) 68 255 (.pointer (some ⟨p,0,none⟩)) (.pointer (some (r n.toNat))) uErr (by decide) wr
   replace hrest:=Lib.hid hrest
   replace hl':=Lib.hid hl'
   go_wp2_with (go_at_call 208; refine (unwrap_any p _ _ c2).mono ?_; rintro e w' ⟨rfl,rfl⟩)
   go_roundg rest.length
   case measure => have:=hl'.out; simp at this; omega
   case rel => exact ⟨rfl,rest,rfl,hrest.out⟩
/-- errors.Is at a chain of Faults and the error that it ends in. -/
theorem is_any (r : Nat → Addr) (n : Int) (l : List (ByteArray × Int)) (v : Value) (w : World) (h : ErrAt r w n l v) :
 Calls Tryz.prog 37 #[v,rootV r n] w fun e w' => e = .returned (.bool true) ∧ w = w':=by
 have h8:=@run_callFunc_extern Tryz.prog 69 _ Extern.ReflectliteType.typeOf Tryz.func69 (by kernel_rfl) (by kernel_rfl) (by kernel_rfl) (by kernel_rfl)
 have h32 := @run_callFunc_extern Tryz.prog 214 _ (Extern.ReflectliteType.method fun t => do Extern.Rtype.noPackHeld "Comparable" t; pure (.bool (← typeInfo t).comparable)) Tryz.func214 (by kernel_rfl) (by kernel_rfl) (by kernel_rfl) (by kernel_rfl)
 have tT:=typeOfE
 have cT:=comparableE
 have mR:=methodComparable
 obtain ⟨T,a,rfl⟩:=h.shape
 replace h:=Lib.hid h
 go_enter Tryz.func37,Tryz.ntmps37
 go_wp2_with fail
 refine (is_loop r n l _ _ h.out).mono ?_
 rintro e w' ⟨rfl,rfl⟩
 go_wp2
 go_ret
 exact ⟨rfl,rfl⟩
end Errs
end Go.Proofs.YtjiadfblphdchaaGreatDoor
namespace Go.Proofs.YtjiadfblphdchaaGreatDoor
open Go.RowKit Go.Extern.Stop Go.Stop Go.Extern
set_option maxRecDepth 100000
namespace Errs
/-! errors.As at a Fault: the target a *api.Fault variable. -/
theorem uF : Tryz.prog.underlying 68 = some (.pointer 72):=by kernel_rfl
theorem valueOfFF (t : Addr) (w : World) : (ReflectliteValue.unpack (.iface 70 (.pointer (some t)))).run Tryz.prog w
 = .ok (.agg #[.pointer (some ⟨17,70,none⟩),.pointer (some ⟨w.heap.size,0,none⟩),.int .u64 150]) (w.alloc (.cells #[.pointer (some t)] 70)):=by kernel_rfl
theorem typeFF (a : Addr) (w : World) : (ReflectliteValue.methodAny (ReflectliteValue.valueError "reflectlite.Value.Type" 0) (fun t _ _ _ => ReflectliteType.toType t) #[.agg #[.pointer (some ⟨17, 70, none⟩), .pointer (some a), .int .u64 150]]).run Tryz.prog w
 = .ok (.iface 161 (.agg #[.pointer (some ⟨17,70,none⟩)])) w:=by kernel_rfl
theorem methodKind (h : Value) (w : World) : (Go.method 388 161 (.agg #[h]) "Kind").run Tryz.prog w = .ok (204, h) w := by kernel_rfl
theorem kindFF (w : World) : ((ReflectliteType.abiMethod fun t => (fun a : Nat => Value.int IntKind.u8 (a : Int)) <$> Rtype.kind t) #[.pointer (some ⟨17,70,none⟩)]).run Tryz.prog w = .ok (.int .u8 22) w:=by kernel_rfl
theorem kindF (w : World) : ((ReflectliteType.abiMethod fun t => (fun a : Nat => Value.int IntKind.u8 (a : Int)) <$> Rtype.kind t) #[.pointer (some ⟨17,68,none⟩)]).run Tryz.prog w = .ok (.int .u8 22) w:=by kernel_rfl
theorem rlm (z : Sem Value) (f : TypeId → Addr → Nat → Nat → Sem Value) (v : Value) :
 ReflectliteValue.method z f #[v] = (do match ← ReflectliteValue.parts v with | none => z | some (t,a,fl) => f t a fl (fl % 32)):=rfl
theorem partsFF (a : Addr) (w : World) : (ReflectliteValue.parts (.agg #[.pointer (some ⟨17,70,none⟩),.pointer (some a),.int .u64 150])).run Tryz.prog w = .ok (some (70,a,150)) w:=by kernel_rfl
theorem isNilFF (a p : Addr) (W : World) (ha : W.cell? a = some (.pointer (some p))) :
 (ReflectliteValue.method (ReflectliteValue.valueError "reflectlite.Value.IsNil" 0) ReflectliteValue.isNil #[.agg #[.pointer (some ⟨17, 70, none⟩), .pointer (some a), .int .u64 150]]).run Tryz.prog W = .ok (.bool false) W := by
 rw [rlm]
 simp only [Sem.run_bind,partsFF,Result.andThen]
 simp [ReflectliteValue.isNil,loadVar,isAgg,underlying,ha,Result.andThen]
theorem methodElem (h : Value) (w : World) : (Go.method 388 161 (.agg #[h]) "Elem").run Tryz.prog w = .ok (215, .agg #[h]) w := by kernel_rfl
theorem methodImplements (h : Value) (w : World) : (Go.method 388 161 (.agg #[h]) "Implements").run Tryz.prog w = .ok (216, .agg #[h]) w := by kernel_rfl
theorem methodAssignableTo (h : Value) (w : World) : (Go.method 388 161 (.agg #[h]) "AssignableTo").run Tryz.prog w = .ok (213, .agg #[h]) w := by kernel_rfl
theorem elemFF (w : World) : (ReflectliteType.method ReflectliteType.elem #[.agg #[.pointer (some ⟨17,70,none⟩)]]).run Tryz.prog w = .ok (.iface 161 (.agg #[.pointer (some ⟨17,68,none⟩)])) w:=by kernel_rfl
theorem implementsF (w : World) : (ReflectliteType.relation "Implements" ReflectliteType.implements_ #[.agg #[.pointer (some ⟨17, 68, none⟩)], .iface 161 (.agg #[.pointer (some ⟨17, 28, none⟩)])]).run Tryz.prog w = .ok (.bool true) w := by kernel_rfl
theorem typeOfF (v : Value) (w : World) : (ReflectliteType.typeOf #[.iface 68 v]).run Tryz.prog w = .ok (.iface 161 (.agg #[.pointer (some ⟨17,68,none⟩)])) w:=by kernel_rfl
theorem assignableF (w : World) : (ReflectliteType.relation "AssignableTo" ReflectliteType.assignableTo #[.agg #[.pointer (some ⟨17, 68, none⟩)], .iface 161 (.agg #[.pointer (some ⟨17, 68, none⟩)])]).run Tryz.prog w = .ok (.bool true) w := by kernel_rfl
theorem valueOfF (e : Addr) (w : World) : (ReflectliteValue.unpack (.iface 68 (.pointer (some e)))).run Tryz.prog w
 = .ok (.agg #[.pointer (some ⟨17,68,none⟩),.pointer (some ⟨w.heap.size,0,none⟩),.int .u64 150]) (w.alloc (.cells #[.pointer (some e)] 68)):=by kernel_rfl
theorem elemOfFF (w : World) : (Rtype.elem? 70).run Tryz.prog w = .ok (some 68) w:=by kernel_rfl
theorem mkF (p : Addr) (w : World) : (ReflectliteValue.mk 68 p ReflectliteValue.flagAddr).run Tryz.prog w = .ok (.agg #[.pointer (some ⟨17,68,none⟩),.pointer (some p),.int .u64 406]) w:=by kernel_rfl
theorem elemVFF (a p : Addr) (W : World) (ha : W.cell? a = some (.pointer (some p))) :
 (ReflectliteValue.method (ReflectliteValue.valueError "reflectlite.Value.Elem" 0) ReflectliteValue.elem #[.agg #[.pointer (some ⟨17, 70, none⟩), .pointer (some a), .int .u64 150]]).run Tryz.prog W
   = .ok (.agg #[.pointer (some ⟨17,68,none⟩),.pointer (some p),.int .u64 406]) W:=by
 rw [rlm]
 simp only [Sem.run_bind,partsFF,Result.andThen]
 simp [ReflectliteValue.elem,loadVar,isAgg,underlying,ha,Result.andThen,elemOfFF,mkF]
theorem rls (v x : Value) : ReflectliteValue.set #[v,x] = (do
 let (some (dst,a,fl),some (src,b,_)):=(← ReflectliteValue.parts v,← ReflectliteValue.parts x)
  | unsupported (.noEntry "extern/(internal/reflectlite.Value).Set.zeroValue")
 if fl / ReflectliteValue.flagAddr % 2 == 0 then unsupported (.noEntry "extern/(internal/reflectlite.Value).Set.unaddressable")
 let val ← loadVar src b
 if ← Rtype.directlyAssignable dst src then storeVar dst a val
 else if ← Rtype.implements dst src then
  if (← Rtype.kind src) == 20 then
   match val with
   | .nilIface => unsupported (.noEntry "extern/reflectlite: a nil value of one interface type handed on as a value of another")
   | _ => storeVar dst a val
  else storeVar dst a (.iface src val)
 else panicString ("reflectlite.Set: value of type " ++ (← Rtype.spelt src) ++ " is not assignable to type " ++ (← Rtype.spelt dst))
 pure (.tuple #[])):=rfl
theorem partsFa (a : Addr) (w : World) : (ReflectliteValue.parts (.agg #[.pointer (some ⟨17,68,none⟩),.pointer (some a),.int .u64 406])).run Tryz.prog w = .ok (some (68,a,406)) w:=by kernel_rfl
theorem partsF (a : Addr) (w : World) : (ReflectliteValue.parts (.agg #[.pointer (some ⟨17,68,none⟩),.pointer (some a),.int .u64 150])).run Tryz.prog w = .ok (some (68,a,150)) w:=by kernel_rfl
theorem directF (w : World) : (Rtype.directlyAssignable 68 68).run Tryz.prog w = .ok true w:=by kernel_rfl
theorem setF (ta b e : Addr) (old : Value) (W : World) (hb : W.cell? b = some (.pointer (some e))) (ht : W.cell? ta = some old) (hf : W.frozen? ta = false) :
 (ReflectliteValue.set #[.agg #[.pointer (some ⟨17,68,none⟩),.pointer (some ta),.int .u64 406],.agg #[.pointer (some ⟨17,68,none⟩),.pointer (some b),.int .u64 150]]).run Tryz.prog W
   = .ok (.tuple #[]) (W.setCell ta (.pointer (some e))):=by
 rw [rls]
 simp only [Sem.run_bind,partsFa,partsF,Result.andThen]
 simp [ReflectliteValue.flagAddr,loadVar,isAgg,underlying,hb,Result.andThen,directF,storeVar,Value.cells,storeCells,Addr.add]
 rw [run_store Tryz.prog W ta _ _ (by rfl)]
 simp [ht,hf]
end Errs
end Go.Proofs.YtjiadfblphdchaaGreatDoor
namespace Go.Proofs.YtjiadfblphdchaaGreatDoor
open Go.RowKit Go.Extern.Stop Go.Stop Go.Extern
set_option maxRecDepth 100000
namespace Errs
set_option maxHeartbeats 4000000 in
theorem as_hit (e t : Addr) (old : Value) (w : World) (hg : w.cell? ⟨12,0,none⟩ = some (.iface 161 (.agg #[.pointer (some ⟨17,28,none⟩)]))) (ht0 : w.cell? t = some old) (hf0 : w.frozen? t = false) :
 Calls Tryz.prog 39 #[.iface 68 (.pointer (some e)),.iface 70 (.pointer (some t))] w fun ev w' => ev = .returned (.bool true) ∧ w' = ((((w.alloc (.cells #[.pointer (some t)] 70)).alloc (.cells #[.pointer (some ⟨17,70,none⟩),.pointer (some ⟨w.heap.size,0,none⟩),.int .u64 150] 115)).alloc (.cells #[.pointer (some ⟨17,70,none⟩),.pointer (some ⟨w.heap.size,0,none⟩),.int .u64 150] 115)).alloc (.cells #[.pointer (some e)] 68)).setCell t (.pointer (some e)):=by
 have h6:=@run_callFunc_extern Tryz.prog 71 _ (fun args => ReflectliteValue.unpack (args.getD 0 (.tuple #[]))) Tryz.func71 (by kernel_rfl) (by kernel_rfl) (by kernel_rfl) (by kernel_rfl)
 have h7 := @run_callFunc_extern Tryz.prog 72 _ (ReflectliteValue.methodAny (ReflectliteValue.valueError "reflectlite.Value.Type" 0) (fun t _ _ _ => ReflectliteType.toType t)) Tryz.func72 (by kernel_rfl) (by kernel_rfl) (by kernel_rfl) (by kernel_rfl)
 have h8 := @run_callFunc_extern Tryz.prog 73 _ (ReflectliteValue.method (ReflectliteValue.valueError "reflectlite.Value.IsNil" 0) ReflectliteValue.isNil) Tryz.func73 (by kernel_rfl) (by kernel_rfl) (by kernel_rfl) (by kernel_rfl)
 have h27:=@run_callFunc_extern Tryz.prog 204 _ (ReflectliteType.abiMethod fun t => do pure (.int .u8 (← Rtype.kind t))) Tryz.func204 (by kernel_rfl) (by kernel_rfl) (by kernel_rfl) (by kernel_rfl)
 have h37:=@run_callFunc_extern Tryz.prog 215 _ (ReflectliteType.method ReflectliteType.elem) Tryz.func215 (by kernel_rfl) (by kernel_rfl) (by kernel_rfl) (by kernel_rfl)
 have h38 := @run_callFunc_extern Tryz.prog 216 _ (ReflectliteType.relation "Implements" ReflectliteType.implements_) Tryz.func216 (by kernel_rfl) (by kernel_rfl) (by kernel_rfl) (by kernel_rfl)
 have h10:=@run_callFunc_extern Tryz.prog 69 _ ReflectliteType.typeOf Tryz.func69 (by kernel_rfl) (by kernel_rfl) (by kernel_rfl) (by kernel_rfl)
 have h35 := @run_callFunc_extern Tryz.prog 213 _ (ReflectliteType.relation "AssignableTo" ReflectliteType.assignableTo) Tryz.func213 (by kernel_rfl) (by kernel_rfl) (by kernel_rfl) (by kernel_rfl)
 have h11 := @run_callFunc_extern Tryz.prog 110 _ (ReflectliteValue.method (ReflectliteValue.valueError "reflectlite.Value.Elem" 0) ReflectliteValue.elem) Tryz.func110 (by kernel_rfl) (by kernel_rfl) (by kernel_rfl) (by kernel_rfl)
 have h12:=@run_callFunc_extern Tryz.prog 111 _ ReflectliteValue.set Tryz.func111 (by kernel_rfl) (by kernel_rfl) (by kernel_rfl) (by kernel_rfl)
 have tO:=typeOfF
 have mA:=methodAssignableTo
 have aF:=assignableF
 have vF:=valueOfF
 have f6:=valueOfFF
 have f7:=typeFF
 have mK:=methodKind
 have mE:=methodElem
 have mI:=methodImplements
 have kFF:=kindFF
 have kF:=kindF
 have eFF:=elemFF
 have iF:=implementsF
 have n8:=isNilFF ⟨w.heap.size,0,none⟩ t ((w.alloc (.cells #[.pointer (some t)] 70)).alloc (.cells #[.pointer (some ⟨17,70,none⟩),.pointer (some ⟨w.heap.size,0,none⟩),.int .u64 150] 115)) (by simp)
 have hlt : 12 < w.heap.size:=World.block_lt_of_cell? _ _ hg
 have hg2 : ((w.alloc (.cells #[.pointer (some t)] 70)).alloc (.cells #[.pointer (some ⟨17,70,none⟩),.pointer (some ⟨w.heap.size,0,none⟩),.int .u64 150] 115)).cell? ⟨12,0,none⟩ = some (.iface 161 (.agg #[.pointer (some ⟨17,28,none⟩)])):=by
  rw [World.cell?_alloc_lt _ _ ⟨12,0,none⟩ (by simp; omega),World.cell?_alloc_lt _ _ ⟨12,0,none⟩ hlt]; exact hg
 have htl : t.block < w.heap.size:=World.block_lt_of_cell? _ _ ht0
 have el:=elemVFF ⟨w.heap.size,0,none⟩ t (((w.alloc (.cells #[.pointer (some t)] 70)).alloc (.cells #[.pointer (some ⟨17,70,none⟩),.pointer (some ⟨w.heap.size,0,none⟩),.int .u64 150] 115)).alloc (.cells #[.pointer (some ⟨17,70,none⟩),.pointer (some ⟨w.heap.size,0,none⟩),.int .u64 150] 115)) (by rw [World.cell?_alloc_lt _ _ ⟨w.heap.size,0,none⟩ (by simp; omega)]; simp)
 have st:=setF t ⟨w.heap.size + 1 + 1 + 1,0,none⟩ e old ((((w.alloc (.cells #[.pointer (some t)] 70)).alloc (.cells #[.pointer (some ⟨17,70,none⟩),.pointer (some ⟨w.heap.size,0,none⟩),.int .u64 150] 115)).alloc (.cells #[.pointer (some ⟨17,70,none⟩),.pointer (some ⟨w.heap.size,0,none⟩),.int .u64 150] 115)).alloc (.cells #[.pointer (some e)] 68))
  (by rw [World.cell?_alloc_at _ _ _ _ (by simp)]; rfl)
  (by rw [World.cell?_alloc_lt _ _ t (by simp; omega),World.cell?_alloc_lt _ _ t (by simp; omega),World.cell?_alloc_lt _ _ t (by simp; omega),World.cell?_alloc_lt _ _ t htl]; exact ht0)
  (by rw [World.frozen?_alloc_old _ _ t (by simp; omega),World.frozen?_alloc_old _ _ t (by simp; omega),World.frozen?_alloc_old _ _ t (by simp; omega),World.frozen?_alloc_old _ _ t (Nat.ne_of_lt htl)]; exact hf0)
 go_enter Tryz.func39,Tryz.ntmps39
 go_wp2
 refine wp_loop_rounds 1 ?_
 rw [rounds_succ]
 go_wp2
 go_ret
 exact ⟨rfl,rfl⟩
/-- errors.As at a Fault and a variable of the call's own: the variable holds the Fault; nothing else that was there has changed. -/
theorem as_any (e t : Addr) (old : Value) (w : World) (hg : w.cell? ⟨12,0,none⟩ = some (.iface 161 (.agg #[.pointer (some ⟨17,28,none⟩)]))) (ht0 : w.cell? t = some old) (hf0 : w.frozen? t = false) :
 Calls Tryz.prog 39 #[.iface 68 (.pointer (some e)),.iface 70 (.pointer (some t))] w fun ev w' => ev = .returned (.bool true) ∧ ∃ w1,Below w.heap.size w w1 ∧ w' = w1.setCell t (.pointer (some e)) :=
 (as_hit e t old w hg ht0 hf0).mono fun _ _ ⟨h1,h2⟩ => ⟨h1,_,((((Below.refl _ _).alloc (Nat.le_refl _) _).alloc (by simp) _).alloc (by simp; omega) _).alloc (by simp; omega) _,h2⟩
end Errs
end Go.Proofs.YtjiadfblphdchaaGreatDoor
namespace Go.Proofs.YtjiadfblphdchaaGreatDoor
open Go.RowKit
set_option maxRecDepth 100000
/-- errors.errorType holds the handle of the type error. -/
def GlobE (w : World) : Prop:=w.cell? ⟨12,0,none⟩ = some (.iface 161 (.agg #[.pointer (some ⟨17,28,none⟩)]))
theorem GlobE.below {w w' : World} (h : GlobE w) (hb : Below w.heap.size w w') : GlobE w':=cell_keep hb h
/-- An error's number and length are as every error's. -/
def PErr.Fine (t : PErr) : Prop:=match t with | none => True | some (n,l) => 1 ≤ n ∧ n ≤ 11 ∧ l.length ≤ 1000
theorem takeD {P : Program} {ops : Array Oper} {Q : Exit → Act → World → Prop} {md : Region.Mode} {S : World → Prop} {i : Nat} {oi : Oper} {v : Value} {fuel : Nat} {listed : Array Bool} {a : Act} {w : World} (d : Option Tmp) (hi : ops[i]? = some oi) (hd : oi.dst = d)
 (hs : Region.noSelect ops = true) (hf : Region.free md ops listed i = true) (hr : (Region.ready md ops listed).contains i = true)
 (hQ : ∀ c a w,Q (.panic c) (a.put d v) w → Q (.panic c) a w) (hy : YieldsIf P ops S oi v a) (hS : S w)
 (h : wpAnyH P md ops Q S fuel (listed.setIfInBounds i true) (a.put d v) w) : wpAnyH P md ops Q S (fuel + 1) listed a w:=by
 subst hd
 exact wpAnyH_take hi hs hf hr hQ hy hS h
theorem takeA {P : Program} {ops : Array Oper} {Q : Exit → Act → World → Prop} {md : Region.Mode} {i : Nat} {oi : Oper} {v : Value} {fuel : Nat} {listed : Array Bool} {a : Act} {w : World} (d : Option Tmp) (hi : ops[i]? = some oi) (hd : oi.dst = d)
 (hs : Region.noSelect ops = true) (hf : Region.free md ops listed i = true) (hr : (Region.ready md ops listed).contains i = true)
 (hQ : ∀ c a w,Q (.panic c) (a.put d v) w → Q (.panic c) a w) (hy : Yields P ops oi v a)
 (h : wpAny P md ops Q fuel (listed.setIfInBounds i true) (a.put d v) w) : wpAny P md ops Q (fuel + 1) listed a w:=by
 subst hd
 exact wpAny_take hi hs hf hr hQ hy h
/-- takeD in one line: what comes up and the new state are reckoned. -/
theorem pqD {P : Program} {ops : Array Oper} {Q : Exit → Act → World → Prop} {md : Region.Mode} {S : World → Prop} {oi : Oper} {v : Value} {fuel : Nat} {listed : Array Bool} {a a' : Act} {w : World} (i : Nat) (d : Tmp) (hS : S w)
 (h : wpAnyH P md ops (NoPanic Q) S fuel (listed.setIfInBounds i true) a' w) (hi : ops[i]? = some oi:=by exact rfl) (hd : oi.dst = some d:=by exact rfl)
 (hs : Region.noSelect ops = true:=by kernel_rfl) (hf : Region.free md ops listed i = true:=by kernel_rfl) (hr : (Region.ready md ops listed).contains i = true:=by kernel_rfl)
 (hw : Region.wanted oi (yielded ops a.tmps) = true:=by rfl) (hy : ∀ W,S W → (execOp a.eval oi).run P W = .ok (.value v) W:=by intro W' hs; (try subst hs); go_simp; (try with_reducible rfl)) (ha : a.put (some d) v = a':=by simp only [pq]; exact rfl) :
 wpAnyH P md ops (NoPanic Q) S (fuel + 1) listed a w:=by
 subst ha; exact takeD (some d) hi hd hs hf hr (fun _ _ _ h => h) (.inl ⟨hw,hy⟩) hS h
/-- takeA in one line. -/
theorem pqA {P : Program} {ops : Array Oper} {Q : Exit → Act → World → Prop} {md : Region.Mode} {oi : Oper} {v : Value} {fuel : Nat} {listed : Array Bool} {a a' : Act} {w : World} (i : Nat) (d : Tmp)
 (h : wpAny P md ops (NoPanic Q) fuel (listed.setIfInBounds i true) a' w) (hi : ops[i]? = some oi:=by exact rfl) (hd : oi.dst = some d:=by exact rfl)
 (hs : Region.noSelect ops = true:=by kernel_rfl) (hf : Region.free md ops listed i = true:=by kernel_rfl) (hr : (Region.ready md ops listed).contains i = true:=by kernel_rfl)
 (hw : Region.wanted oi (yielded ops a.tmps) = true:=by rfl) (hy : ∀ W,(execOp a.eval oi).run P W = .ok (.value v) W:=by intro W'; go_simp; (try with_reducible rfl)) (ha : a.put (some d) v = a':=by simp only [pq]; exact rfl) :
 wpAny P md ops (NoPanic Q) (fuel + 1) listed a w:=by
 subst ha; exact takeA (some d) hi hd hs hf hr (fun _ _ _ h => h) (.inl ⟨hw,hy⟩) h
/-- errors.As at a Fault and a variable just laid: the variable holds the Fault; all that was there before it is as it was. -/
theorem as_keep (q : Addr) (wo wv w : World) (bv : Below wo.heap.size wo wv) (hw : w = wv.drew) (hG : GlobE wv) (zt : wv.cell? ⟨wo.heap.size,0,none⟩ = some (.pointer none)) (ft : wv.frozen? ⟨wo.heap.size,0,none⟩ = false) :
 Calls Tryz.prog 39 #[.iface 68 (.pointer (some q)),.iface 70 (.pointer (some ⟨wo.heap.size,0,none⟩))] w fun e w' => e = .returned (.bool true) ∧ w'.cell? ⟨wo.heap.size,0,none⟩ = some (.pointer (some q)) ∧ Below wo.heap.size wo w':=by
 subst hw
 refine (Errs.as_any q ⟨wo.heap.size,0,none⟩ (.pointer none) wv.drew hG zt ft).mono ?_
 rintro e w6 ⟨rfl,w5,hb5,rfl⟩
 have h5 : Below wv.heap.size wv w5:=((Below.refl wv.heap.size wv).drew).trans hb5
 refine ⟨rfl,World.cell?_setCell_same _ _ _ (cell_keep h5 zt),(Below.stepL bv h5).setCell (p:=⟨wo.heap.size,0,none⟩) (Nat.le_refl _) _⟩
theorem raw_is_none (w : World) :
 Calls Tryz.prog 16 #[.nilIface,zErr] w (Ret1 (fun x _ => x = .bool true) w):=by
 go_enter Tryz.func16,Tryz.ntmps16
 go_wp2
 go_ret
 exact ⟨_,rfl,belowAlloc' _ _,rfl⟩
set_option maxHeartbeats 1000000 in
theorem raw_is_some (r : Nat → Addr) (n : Int) (l : List (ByteArray × Int)) (v e : Value) (w : World) (hg : Glob r w) (hG : GlobE w) (hv : ErrAt r w n l v) (he : EAt w (some (n,l)) e) (h1 : 1 ≤ n) (h11 : n ≤ 11) (hl : l.length ≤ 1000) :
 Calls Tryz.prog 16 #[v,e] w (Ret1 (fun x _ => x = .bool true) w):=by
 obtain ⟨a1,n1,c1,a2,n2,c2,rfl,hs,hi⟩:=he
 have b0:=belowAlloc' w (.cells #[.int .i64 n,.slice a1 n1 c1,.slice a2 n2 c2] 37)
 have hn0 : (n == 0) = false:=by rw [beq_eq_false_iff_ne]; omega
 obtain ⟨T,p,rfl⟩:=hv.shape
 replace hv:=Lib.hid (hv.below b0)
 have hg0:=Lib.hid hg
 replace hg:=Lib.hid (hg.below b0)
 replace hG:=Lib.hid (hG.below b0)
 have hsl:=hs.len oneStrs
 rw [List.length_map] at hsl
 replace hs:=Lib.hid (hs.below b0)
 replace hi:=Lib.hid (hi.below b0)
 go_enter Tryz.func16,Tryz.ntmps16
 go_wp2_with fail
 refine (raw_root r n _ hg.out h1 h11).mono ?_
 rintro e w1 ⟨rfl,rfl⟩
 go_wp2_with fail
 refine (Errs.is_any r n l _ _ hv.out).mono ?_
 rintro e w1 ⟨rfl,rfl⟩
 have z : (w.alloc (.cells #[.int .i64 n,.slice a1 n1 c1,.slice a2 n2 c2] 37)).cell? ⟨w.heap.size,0,none⟩ = some (.int .i64 n) ∧ (w.alloc (.cells #[.int .i64 n,.slice a1 n1 c1,.slice a2 n2 c2] 37)).cell? ⟨w.heap.size,1,none⟩ = some (.slice a1 n1 c1) ∧ (w.alloc (.cells #[.int .i64 n,.slice a1 n1 c1,.slice a2 n2 c2] 37)).cell? ⟨w.heap.size,2,none⟩ = some (.slice a2 n2 c2):=by simp
 obtain ⟨W,hW⟩ : ∃ W : World,W = w.alloc (.cells #[.int .i64 n,.slice a1 n1 c1,.slice a2 n2 c2] 37):=⟨_,rfl⟩
 rw [← hW] at hv hg hG hs hi z b0 ⊢
 clear hW
 replace z:=Lib.hid z
 go_wp2
 go_loopw [0,5] (fun u i wr => ∃ k : Nat,k ≤ l.length ∧ i = .int .i64 k ∧ ErrAt r wr n (l.drop k) u ∧ Below W.heap.size W wr) (fun _ i _ => l.length - (intOf i).toNat)
 case atStart => exact ⟨0,by omega,rfl,hv.out,Below.refl _ _⟩
 case round =>
  obtain ⟨k,hk,rfl,hu,hB⟩:=hrel
  obtain ⟨wo,rfl⟩ : ∃ wo : World,wo = wr:=⟨_,rfl⟩
  obtain ⟨z0,z1,z2⟩:=keep3 hB z.out
  by_cases hkl : k < l.length
  ·have hd : l.drop k = l[k] :: l.drop (k + 1):=List.drop_eq_getElem_cons hkl
   rw [hd] at hu
   generalize hlk : l[k] = x at hu
   obtain ⟨op,at_⟩:=x
   obtain ⟨q,u',rfl,d0,d1,d2,hrest⟩:=hu
   have hs':=hs.out.below hB
   have hi':=hi.out.below hB
   have i1:=hs'.idx oneStrs k (by simpa using hkl)
   have e1:=hs'.cell k (by simpa using hkl)
   have i2:=hi'.idx k (by simpa using hkl)
   have e2:=hi'.cell k (by simpa using hkl)
   simp only [List.getElem_map,hlk] at e1 e2
   replace hd:=Lib.hid hd
   replace hlk:=Lib.hid hlk
   replace hrest:=Lib.hid hrest
   clear hs' hi'
   have gE:=Lib.hid (hG.out.below hB)
   generalize valAt (.slice a1 n1 c1) k = A1 at i1 e1
   generalize valAt (.slice a2 n2 c2) k = A2 at i2 e2
   have bv:=belowAlloc' wo (.cells #[.pointer none] 68)
   have y1:=cell_keep bv z1
   have y2:=cell_keep bv z2
   have g0:=cell_keep bv d0
   have g1:=cell_keep bv d1
   have s1:=(bv.cell (World.block_lt_of_cell? _ _ e1)).trans e1
   have s2:=(bv.cell (World.block_lt_of_cell? _ _ e2)).trans e2
   have zt : (wo.alloc (.cells #[.pointer none] 68)).cell? ⟨wo.heap.size,0,none⟩ = some (.pointer none):=by simp
   have ft : (wo.alloc (.cells #[.pointer none] 68)).frozen? ⟨wo.heap.size,0,none⟩ = false:=by simp
   have gv:=Lib.hid (gE.out.below bv)
   go_wp2
   obtain ⟨wv,hwv⟩ : ∃ W : World,W = wo.alloc (.cells #[.pointer none] 68):=⟨_,rfl⟩
   rw [← hwv] at bv y1 y2 g0 g1 s1 s2 zt ft gv ⊢
   clear hwv
   replace z0:=Lib.hid z0
   replace z1:=Lib.hid z1
   replace z2:=Lib.hid z2
   replace d0:=Lib.hid d0
   replace d1:=Lib.hid d1
   replace d2:=Lib.hid d2
   replace e1:=Lib.hid e1
   replace e2:=Lib.hid e2
   refine wp_region_noPanic ?_
   refine wp_region_any (by kernel_rfl) ?_
   change wpAny _ _ _ _ _ _ _ (World.drew _)
   refine pqA 0 29 ?_
   refine pqA 1 30 ?_
   refine wpAny_ready (rs:=[2]) (by kernel_rfl) (by simp) (AllReady.cons rfl (fun K hK => ?_) AllReady.nil)
   go_simp
   go_at_call 39
   refine (as_keep ⟨q,0,none⟩ wo wv _ bv rfl gv.out zt ft).mono ?_
   rintro e w6 ⟨rfl,p0,b6⟩
   refine hK _ _ ?_
   clear hK K y1 y2 g0 g1 s1 s2
   have p1:=cell_keep b6 z1.out
   have p2:=cell_keep b6 z2.out
   have p3:=cell_keep b6 d0.out
   have p4:=cell_keep b6 d1.out
   have p5:=(b6.cell (World.block_lt_of_cell? _ _ e1.out)).trans e1.out
   have p6:=(b6.cell (World.block_lt_of_cell? _ _ e2.out)).trans e2.out
   have p7:=cell_keep b6 d2.out
   refine wpAny_of_held (S:=fun w' => w' = w6) _ _ _ _ ?_
   refine pqD 3 32 rfl ?_
   refine pqD 4 33 rfl ?_
   refine pqD 5 34 rfl ?_
   refine pqD 6 35 rfl ?_
   refine pqD 7 36 rfl ?_
   refine pqD 8 37 rfl ?_
   refine pqD 9 38 rfl ?_
   refine pqD 10 39 rfl ?_
   refine pqD 11 40 rfl ?_
   refine pqD 12 41 rfl ?_
   refine pqD 13 42 rfl ?_
   refine pqD 14 43 rfl ?_
   refine pqD 15 44 rfl ?_
   refine pqD 16 45 rfl ?_
   refine pqD 17 46 rfl ?_
   refine pqD 18 47 rfl ?_
   refine pqD 19 48 rfl ?_
   refine pqD 20 49 rfl ?_
   refine pqD 21 50 rfl ?_
   refine pqD 22 51 rfl ?_
   refine pqD 23 52 rfl ?_
   refine pqD 24 53 rfl ?_
   refine pqD 25 54 rfl ?_
   refine pqD 26 55 rfl ?_
   refine pqD 27 56 rfl ?_
   refine pqD 28 57 rfl ?_
   refine pqD 29 58 rfl ?_
   refine pqD 30 59 rfl ?_
   refine pqD 31 60 rfl ?_
   refine wpAnyH_done (by kernel_rfl) ?_ _
   refine NoPanic.normal ?_
   have hr6:=Lib.hid (hrest.out.below b6)
   have hB6:=Lib.hid (Below.stepL hB b6)
   clear p1 p2 p3 p4 p5 p6
   go_wp2
   go_roundw
   case rel => exact ⟨k + 1,by omega,by go_num,hr6.out,hB6.out⟩
   case measure => simp [intOf]; omega
  ·obtain rfl : k = l.length:=by omega
   rw [List.drop_length] at hu
   obtain rfl : _ = rootV r n:=hu
   obtain ⟨i,hi,hcmp⟩:=Option.map_eq_some_iff.1 Errs.compE
   obtain ⟨j,hj,hjs⟩:=Option.map_eq_some_iff.1 Errs.sizeE
   have heq:=run_eql_iface_ptr_same (P:=Tryz.prog) wo (r n.toNat) Errs.uErr Errs.uES hi hcmp hj
   clear hi hcmp hj hjs
   have hgo:=Lib.hid (hg.out.below hB)
   have hBf:=Lib.hid (Below.stepL b0 hB)
   go_wp2_with fail
   refine (raw_root r n _ hgo.out h1 h11).mono ?_
   rintro e w1 ⟨rfl,rfl⟩
   go_wp2
   go_ret
   exact ⟨_,rfl,hBf.out,rfl⟩
/-- edenraw.Is at an error that is what it must be. -/
theorem raw_is (r : Nat → Addr) (t : PErr) (v e : Value) (w : World) (hg : Glob r w) (hG : GlobE w) (hv : ErrIs r w t v) (he : EAt w t e) (ht : t.Fine) :
 Calls Tryz.prog 16 #[v,e] w (Ret1 (fun x _ => x = .bool true) w):=by
 match t,hv,he,ht with
 | none,hv,he,_ =>
  obtain rfl:=ErrIs.none_eq hv
  obtain rfl : e = zErr:=he
  exact raw_is_none w
 | some (n,l),hv,he,⟨h1,h11,hl⟩ => exact raw_is_some r n l v e w hg hG hv he h1 h11 hl
/-- edenraw.Under at any error. -/
theorem raw_under (op : ByteArray) (at_ : Int) (t : PErr) (v : Value) (w : World) (h : EAt w t v) (ht : ∀ n l,t = some (n,l) → 1 ≤ n ∧ 1 ≤ l.length ∧ l.length ≤ 1000) :
 Calls Tryz.prog 35 #[.string op,.int .i64 at_,v] w (Ret1 (fun x w' => EOwn w.heap.size w' (under op at_ t) x) w):=by
 match t,h,ht with
 | none,h,_ =>
  obtain rfl : v = zErr:=h
  exact raw_under_nil op at_ w
 | some (n,l),h,ht =>
  obtain ⟨h1,h2,h3⟩:=ht n l rfl
  exact raw_under_some op at_ n l v w h h1 h2 h3
end Go.Proofs.YtjiadfblphdchaaGreatDoor
namespace Go.Proofs.YtjiadfblphdchaaGreatDoor
section
variable {P : Program} {ops : Array Oper} {Q : Exit → Act → World → Prop} {md : Region.Mode} {S : World → Prop}
/-- Whatever order is picked from here on; behind an operation of the head the fact S holds. -/
def wpAnyT (P : Program) (md : Region.Mode) (ops : Array Oper) (Q : Exit → Act → World → Prop) (S : World → Prop) (n : Nat) : Nat → Array Bool → Act → World → Prop
 | 0,listed,a,w => Region.ready md ops listed = [] ∧ Q .normal a w
 | fuel + 1,listed,a,w =>
  (Region.ready md ops listed = [] → Q .normal a w) ∧
  ∀ i ∈ Region.ready md ops listed,wpOp P ops Q i (fun a' w' => (i < n → S w') ∧ wpAnyT P md ops Q S n fuel (listed.setIfInBounds i true) a' w') a w
theorem wpAny_of_T {n : Nat} : ∀ (fuel : Nat) (listed : Array Bool) (a : Act) (w : World),wpAnyT P md ops Q S n fuel listed a w → wpAny P md ops Q fuel listed a w
 | 0,_,_,_,h => h
 | fuel + 1,_,_,_,h => ⟨h.1,fun i hi => wpOp_mono (fun a' w' h' => wpAny_of_T fuel _ a' w' h'.2) (h.2 i hi)⟩
/-- Where the whole head has come up, it is a wpAny. -/
theorem wpAnyT_of {n : Nat} : ∀ (fuel : Nat) (listed : Array Bool) (a : Act) (w : World),(∀ j,j < n → listed.getD j true = true) → wpAny P md ops Q fuel listed a w → wpAnyT P md ops Q S n fuel listed a w
 | 0,_,_,_,_,h => h
 | fuel + 1,listed,a,w,hl,h => ⟨h.1,fun i hi => wpOp_mono (fun a' w' h' => ⟨fun hin => Bool.noConfusion ((hl i hin).symm.trans (mem_ready.1 hi).1),wpAnyT_of fuel _ a' w' (fun j hj => by
  by_cases hij : i = j
  ·subst hij
   rcases Nat.lt_or_ge i listed.size with h2 | h2
   ·simp [h2]
   ·rw [Array.getD_eq_getD_getElem?,Array.getElem?_eq_none (by simpa using h2)]; rfl
  ·rw [getD_set_ne true hij]; exact hl j hj) h'⟩) (h.2 i hi)⟩
theorem wpAnyT_first {n i : Nat} {oi : Oper} {v : Value} (hi : ops[i]? = some oi) (hsel : ∀ (j : Nat) (o : Oper) cs b,ops[j]? = some o → o.op ≠ .select cs b)
 (hs : Region.sinkB md ops n = true) (hc : Region.chainB md ops n = true) (hn : n < ops.size) (hin : i < n)
 (hQ : ∀ c a w,Q (.panic c) (a.put oi.dst v) w → Q (.panic c) a w) :
 ∀ (fuel : Nat) (listed : Array Bool) (a : Act) (w : World),HeadInv md ops n listed →
  (∀ j oj,ops[j]? = some oj → j ≠ i → listed.getD j true = false → (∀ e ∈ oj.after,Region.binds md e = true → e.on ≠ i) → oi.apart ops oj = true) →
  i ∈ Region.ready md ops listed → YieldsIf P ops S oi v a → S w →
  wpAnyT P md ops Q S n fuel (listed.setIfInBounds i true) (a.put oi.dst v) w → wpAnyT P md ops Q S n (fuel + 1) listed a w:=by
 intro fuel
 induction fuel with
 | zero =>
  intro listed a w inv _ hr hy hS H
  refine ⟨fun h => (by rw [h] at hr; cases hr),fun j hj => ?_⟩
  by_cases hji : j = i
  ·subst hji; exact hy.wpOp hi hS ⟨fun _ => hS,H⟩
  ·have:=ready_mono hj hji
   rw [H.1] at this
   cases this
 | succ fuel ih =>
  intro listed a w inv hfree hr hy hS H
  have hun:=(mem_ready.1 hr).1
  refine ⟨fun h => (by rw [h] at hr; cases hr),fun j hj => ?_⟩
  have hjn : j < n:=by
   rcases Nat.lt_or_ge j n with h | h
   ·exact h
   ·exact absurd hj (tail_waits hs hc hn inv _ i rfl hin hun j h)
  by_cases hji : j = i
  ·subst hji; exact hy.wpOp hi hS ⟨fun _ => hS,H⟩
  ·have h1:=H.2 j (ready_mono hj hji)
   obtain ⟨hjun,oj,hoj,hall⟩:=mem_ready.1 hj
   have hnot : ∀ e ∈ oj.after,Region.binds md e = true → e.on ≠ i:=fun e he hb heq => by
    have h1:=hall e he hb
    rw [heq,getD_both hun] at h1
    cases h1
   have h2:=wpOp_putIf hoj (hfree j oj hoj hji hjun hnot) (fun cs b => hsel i oi cs b hi) (fun cs b => hsel j oj cs b hoj) hQ hy h1
   have hfree' : ∀ k ok,ops[k]? = some ok → k ≠ i → (listed.setIfInBounds j true).getD k true = false →
    (∀ e ∈ ok.after,Region.binds md e = true → e.on ≠ i) → oi.apart ops ok = true:=fun k ok hk hki hun hno => by
    refine hfree k ok hk hki ?_ hno
    by_cases hjk : j = k
    ·subst hjk; exact hjun
    ·rw [getD_set_ne true hjk] at hun; exact hun
   refine wpOp_mono (fun a' w' h3 => ⟨fun _ => h3.2.1 hjn,ih (listed.setIfInBounds j true) a' w' (inv.set hj hjn) hfree' (ready_mono hr (Ne.symm hji)) h3.1 (h3.2.1 hjn) ?_⟩) h2
   rw [Array.setIfInBounds_comm _ _ hji]
   exact h3.2.2
/-- The head's operations in the plan's order: (k, true): number k yields a value under S; (k, false): number k alone can come up, whatever it does. -/
def wpHead (P : Program) (ops : Array Oper) (Q : Exit → Act → World → Prop) (S : World → Prop) (K : Act → World → Prop) : List (Nat × Bool) → Act → World → Prop
 | [],a,w => K a w
 | (k,true) :: l,a,w => ∃ o v,ops[k]? = some o ∧ YieldsIf P ops S o v a ∧ S w ∧ wpHead P ops Q S K l (a.put o.dst v) w
 | (k,false) :: l,a,w => wpOp P ops Q k (fun a' w' => S w' ∧ wpHead P ops Q S K l a' w') a w
def planB (md : Region.Mode) (ops : Array Oper) (n : Nat) : List (Nat × Bool) → Array Bool → Bool
 | [],listed => (List.range n).all (fun j => listed.getD j true) && Region.seqB md ops (ops.size - n) n listed
 | (k,true) :: l,listed => decide (k < n) && (Region.ready md ops listed).contains k && Region.free md ops listed k && planB md ops n l (listed.setIfInBounds k true)
 | (k,false) :: l,listed => decide (k < n) && decide (Region.ready md ops listed = [k]) && planB md ops n l (listed.setIfInBounds k true)
theorem wpAnyT_plan {n : Nat} {ol : List Oper} (hol : ops = ol.toArray) (hsel : Region.noSelect ops = true) (hs : Region.sinkB md ops n = true) (hc : Region.chainB md ops n = true) (hn : n < ops.size)
 (hQ : ∀ c a w,Q (.panic c) a w → False) :
 ∀ (l : List (Nat × Bool)) (listed : Array Bool) (a : Act) (w : World),HeadInv md ops n listed → planB md ops n l listed = true →
  wpHead P ops Q S (fun a' w' => wpList P ops Q (ol.drop n) a' w') l a w → wpAnyT P md ops Q S n (l.length + (ops.size - n)) listed a w
 | [],listed,a,w,inv,hB,h => by
  simp only [planB,Bool.and_eq_true] at hB
  have hl : ∀ j,j < n → listed.getD j true = true:=fun j hj => List.all_eq_true.1 hB.1 j (List.mem_range.2 hj)
  rw [List.length_nil,Nat.zero_add]
  refine wpAnyT_of _ _ _ _ hl ?_
  have hdl : (ol.drop n).length = ops.size - n:=by subst hol; simp
  rw [← hdl]
  refine wpAny_of_seq (ol.drop n) n listed a w (fun j => by subst hol; simp) ?_ h
  rw [hdl]; exact hB.2
 | (k,true) :: l,listed,a,w,inv,hB,h => by
  simp only [planB,Bool.and_eq_true,decide_eq_true_eq] at hB
  obtain ⟨⟨⟨hkn,hr⟩,hf⟩,hB'⟩:=hB
  obtain ⟨o,v,ho,hy,hS,h'⟩:=h
  have hr' : k ∈ Region.ready md ops listed:=by simpa using hr
  rw [show ((k,true) :: l).length + (ops.size - n) = (l.length + (ops.size - n)) + 1 by simp; omega]
  exact wpAnyT_first ho (Region.noSelect_spec hsel) hs hc hn hkn (fun c a w h => (hQ c _ w h).elim) _ listed a w inv (Region.free_spec ho hf) hr' hy hS
   (wpAnyT_plan hol hsel hs hc hn hQ l _ _ _ (inv.set hr' hkn) hB' h')
 | (k,false) :: l,listed,a,w,inv,hB,h => by
  simp only [planB,Bool.and_eq_true,decide_eq_true_eq] at hB
  obtain ⟨⟨hkn,hr⟩,hB'⟩:=hB
  rw [show ((k,false) :: l).length + (ops.size - n) = (l.length + (ops.size - n)) + 1 by simp; omega]
  refine ⟨fun h0 => (by rw [h0] at hr; cases hr),fun i hi => ?_⟩
  have hi':=hi
  rw [hr] at hi'
  obtain rfl : i = k:=by simpa using hi'
  exact wpOp_mono (fun a' w' h3 => ⟨fun _ => h3.1,wpAnyT_plan hol hsel hs hc hn hQ l _ a' w' (inv.set hi hkn) hB' h3.2⟩) h
/-- What is asked of the region and the plan. -/
def tailB (md : Region.Mode) (ops : Array Oper) (n : Nat) (plan : List (Nat × Bool)) : Bool :=
 Region.noSelect ops && decide (n < ops.size) && Region.sinkB md ops n && Region.chainB md ops n && decide (plan.length = n) && planB md ops n plan (Array.replicate ops.size false)
/-- **The law**: a region that draws its order, by a plan for its head; then its tail, one behind the other. -/
theorem wp_region_plan {id : Nat} {a : Act} {w : World} {l : List Oper} (S : World → Prop) (n : Nat) (plan : List (Nat × Bool)) (hm : P.follows .mixedOrders = true) (hB : tailB .any l.toArray n plan = true)
 (h : wpHead P l.toArray (NoPanic Q) S (fun a' w' => wpList P l.toArray (NoPanic Q) (l.drop n) a' w') plan a w.drew) : (Code.region id l.toArray true).wp P Q a w:=by
 simp only [tailB,Bool.and_eq_true,decide_eq_true_eq] at hB
 obtain ⟨⟨⟨⟨⟨hsel,hn⟩,hs⟩,hc⟩,hlen⟩,hp⟩:=hB
 refine wp_region_noPanic ?_
 refine wp_region_any hm ?_
 have inv0 : HeadInv .any l.toArray n (Array.replicate l.toArray.size false) :=
  ⟨by simp,fun j oj _ hl => (by rw [getD_replicate_false] at hl; cases hl),fun t _ ht => getD_in (by simpa using ht) (getD_replicate_false _ _)⟩
 have:=wpAnyT_plan (md:=.any) (Q:=NoPanic Q) (S:=S) rfl hsel hs hc hn (fun _ _ _ h => h) plan _ a _ inv0 hp h
 rw [hlen,show n + (l.toArray.size - n) = l.toArray.size by omega] at this
 exact wpAny_of_T _ _ _ _ this
/-- A step that yields. -/
theorem headY {K : Act → World → Prop} {k : Nat} {o : Oper} {v : Value} {l : List (Nat × Bool)} {a : Act} {w : World} (d : Option Tmp) (ho : ops[k]? = some o) (hd : o.dst = d)
 (hy : YieldsIf P ops S o v a) (hS : S w) (h : wpHead P ops Q S K l (a.put d v) w) : wpHead P ops Q S K ((k,true) :: l) a w:=by
 subst hd; exact ⟨o,v,ho,hy,hS,h⟩
/-- A step that does whatever it does. -/
theorem headC {K : Act → World → Prop} {k : Nat} {o : Oper} {l : List (Nat × Bool)} {a : Act} {w : World} (ho : ops[k]? = some o)
 (h : ∀ K' : Act → World → Prop,(∀ a w,S w → wpHead P ops Q S K l a w → K' a w) → if Region.wanted o (yielded ops a.tmps) = true then Oper.wp P o a w K' Q else K' (a.put o.dst undef) w) :
 wpHead P ops Q S K ((k,false) :: l) a w:=by
 show wpOp _ _ _ _ _ _ _
 unfold wpOp
 simp only [ho]
 have:=h (fun a' w' => S w' ∧ wpHead P ops Q S K l a' w') (fun a w h1 h2 => ⟨h1,h2⟩)
 split
 ·rename_i hw; rw [if_pos hw] at this; exact .inl this
 ·rename_i hw; rw [if_neg hw] at this; exact this
theorem head0 {K : Act → World → Prop} {a : Act} {w : World} (h : K a w) : wpHead P ops Q S K [] a w:=h
end
section
variable {P : Program} {ops : Array Oper} {Q : Exit → Act → World → Prop} {S : World → Prop}
/-- A step that yields, in one line: what it yields and the new state are reckoned. -/
theorem pqY {K : Act → World → Prop} {k : Nat} {o : Oper} {v : Value} {l : List (Nat × Bool)} {a a' : Act} {w : World} (d : Tmp) (hS : S w) (h : wpHead P ops Q S K l a' w) (ho : ops[k]? = some o:=by exact rfl) (hd : o.dst = some d:=by exact rfl)
 (hw : Region.wanted o (yielded ops a.tmps) = true:=by rfl) (hy : ∀ W,S W → (execOp a.eval o).run P W = .ok (.value v) W:=by intro W' hs; (try subst hs); go_simp; (try with_reducible rfl)) (ha : a.put (some d) v = a':=by simp only [pq]; exact rfl) :
 wpHead P ops Q S K ((k,true) :: l) a w:=by
 subst ha; exact headY (some d) ho hd (.inl ⟨hw,hy⟩) hS h
end
end Go.Proofs.YtjiadfblphdchaaGreatDoor
namespace Go.Proofs.YtjiadfblphdchaaGreatDoor
open Go.RowKit
/-- slices.IndexFunc at a function value that only looks. -/
theorem indexFunc_any (v b : Value) (F : Nat) (xs : List Int) (p : Int → Bool) (w : World) (h : IntsAt w v xs)
 (eg : ∀ args w,(callFunc F args).run Tryz.prog w = .ok (.enter F args) w)
 (hF : ∀ x : Int,x ∈ xs → Calls Tryz.prog F #[.int .i64 x,b] w fun e w' => e = .returned (.bool (p x)) ∧ w = w') :
 Calls Tryz.prog 94 #[v,.func (.func F) #[] #[b]] w fun e w' => e = .returned (.int .i64 (idxOf p xs)) ∧ w = w':=by
 have hlen:=h.len
 have hm:=h.len_le
 go_enter Tryz.func94,Tryz.ntmps94
 go_wp2
 go_loop [8] (fun i => ∃ k : Nat,k ≤ xs.length ∧ i = .int .i64 k ∧ ∀ j (hj : j < xs.length),j < k → p xs[j] = false) (fun i => xs.length - (intOf i).toNat)
 case atStart => exact ⟨0,by omega,rfl,by omega⟩
 case round =>
  obtain ⟨k,hk,rfl,hp⟩:=hrel
  replace hp:=Lib.hid hp
  by_cases hlt : k < xs.length
  ·have hi:=h.idx k hlt
   have hc:=h.cell k hlt
   have hf:=Lib.hid (hF xs[k] (by simp))
   clear hF
   go_wp2_with fail
   refine hf.out.mono ?_
   rintro e w' ⟨rfl,rfl⟩
   cases hpk : p xs[k]
   ·have HP:=Lib.hid hpk
    go_wp2
    go_round
    case rel =>
     refine ⟨k+1,by omega,by go_num,?_⟩
     intro j hj hjk
     by_cases e : j = k
     ·subst e; exact HP.out
     ·exact hp.out j hj (by omega)
    case measure => simp [intOf]; omega
   ·have HP:=Lib.hid hpk
    go_wp2
    go_ret
    exact ⟨ret_int (idxOf_at k hlt HP.out fun j hj h => hp.out j hj h).symm,rfl⟩
  ·go_wp2
   go_ret
   refine ⟨ret_int (idxOf_neg fun x hx => ?_).symm,rfl⟩
   obtain ⟨j,hj,rfl⟩:=List.mem_iff_getElem.1 hx
   exact hp.out j hj (by omega)
theorem rule_wrong (r : Nat → Addr) (at_ n : Int) (w : World) (hg : Glob r w) (h1 : 1 ≤ n) (h2 : n ≤ 11) :
 Calls Tryz.prog 31 #[.int .i64 at_,.int .i64 n] w (Ret1 (fun v w' => ErrIs r w' (fresh sRule at_ n) v) w):=by
 go_enter Tryz.func31,Tryz.ntmps31
 go_wp2_with fail
 refine (new_any r _ at_ n w hg h1 h2).mono ?_
 rintro e w' ⟨v,rfl,hb,he⟩
 go_wp2
 go_ret
 exact ⟨_,rfl,hb,he⟩
theorem rule_odd1 (x k : Int) (b : Addr) (w : World) (hb : w.cell? b = some (.int .i64 k)) :
 Calls Tryz.prog 95 #[.int .i64 x,.pointer (some b)] w fun e w' => e = .returned (.bool (odd1 k x)) ∧ w = w':=by
 by_cases h : x < 0
 ·have e : odd1 k x = true:=by simp [odd1,h]
  rw [e]
  go_enter Tryz.func95,Tryz.ntmps95
  go_wp2
  go_ret
  exact ⟨rfl,rfl⟩
 ·have e : odd1 k x = decide (k ≤ x):=by simp [odd1,h]
  rw [e]
  go_enter Tryz.func95,Tryz.ntmps95
  go_wp2
  go_ret
  exact ⟨ret_bool (by simp),rfl⟩
theorem eg_rule_odd1 (args : Array Value) (w : World) : (callFunc 95 args).run Tryz.prog w = .ok (.enter 95 args) w:=by kernel_rfl
theorem rule_odd (k : Int) (v : Value) (xs : List Int) (w : World) (h : IntsAt w v xs) :
 Calls Tryz.prog 50 #[.int .i64 k,v] w (Ret1 (fun x _ => x = .int .i64 (idxOf (odd1 k) xs)) w):=by
 have h':=Lib.hid h
 clear h
 go_enter Tryz.func50,Tryz.ntmps50
 go_wp2_with fail
 refine (indexFunc_any v _ 95 xs (odd1 k) _ (h'.out.below ((Below.refl _ _).alloc (Nat.le_refl _) _)) eg_rule_odd1 (fun x _ => rule_odd1 x k _ _ (by simp))).mono ?_
 rintro e w' ⟨rfl,rfl⟩
 go_wp2
 go_ret
 exact ⟨_,rfl,(Below.refl _ _).alloc (Nat.le_refl _) _,rfl⟩
theorem size_ok (K R : Nat) (w : World) (h1 : 1 ≤ K) (h4 : K ≤ 4) (h3 : R ≤ 3) :
 Calls Tryz.prog 49 #[.int .i64 K,.int .i64 R] w fun e w' => e = .returned (.tuple #[.int .i64 (pw K (2 * R + 1)),.nilIface]) ∧ w = w':=by
 go_enter Tryz.func49,Tryz.ntmps49
 go_wp2
 go_loop [6,25] (fun n i => ∃ k : Nat,k ≤ 2 * R ∧ i = .int .i64 k ∧ n = .int .i64 (pw K (k + 1))) (fun _ i => 2 * R - (intOf i).toNat)
 case atStart => exact ⟨0,by omega,rfl,by rw [pw_one]⟩
 case round =>
  obtain ⟨k,hk,rfl,rfl⟩:=hrel
  by_cases hlt : k < 2 * R
  ·have hb:=pw_le (i:=k + 1 + 1) h1 h4 (by omega)
   have hs : ((pw K (k + 1 + 1) : Nat) : Int) = (pw K (k + 1) : Int) * (K : Int):=by rw [pw_succ]; simp
   have hb1 : 0 ≤ (pw K (k + 1) : Int) * (K : Int):=by rw [← hs]; omega
   have hb2 : (pw K (k + 1) : Int) * (K : Int) ≤ 16384:=by rw [← hs]; omega
   replace hs:=Lib.hid hs
   go_wp2
   go_round
   case rel => exact ⟨k + 1,by omega,by go_num,by rw [hs.out]⟩
   case measure => simp [intOf]; omega
  ·obtain rfl : k = 2 * R:=by omega
   go_wp2
   go_ret2
   exact ⟨rfl,rfl⟩
theorem size_bad (r : Nat → Addr) (k R : Int) (w : World) (hg : Glob r w) (h : k < 1 ∨ 4 < k ∨ R < 0 ∨ 3 < R) :
 Calls Tryz.prog 49 #[.int .i64 k,.int .i64 R] w (Ret2 (fun x y w' => x = .int .i64 0 ∧ ErrIs r w' (fresh sRule 0 3) y) w):=by
 have hg':=Lib.hid hg
 clear hg
 by_cases h1 : k < 1
 ·clear h
  go_enter Tryz.func49,Tryz.ntmps49
  go_wp2_with fail
  refine (rule_wrong r _ _ w hg'.out (by decide) (by decide)).mono ?_
  rintro e w' ⟨v,rfl,hb,he⟩
  go_wp2
  go_ret2
  exact ⟨_,_,rfl,hb,rfl,he⟩
 by_cases h2 : 4 < k
 ·clear h
  go_enter Tryz.func49,Tryz.ntmps49
  go_wp2_with fail
  refine (rule_wrong r _ _ w hg'.out (by decide) (by decide)).mono ?_
  rintro e w' ⟨v,rfl,hb,he⟩
  go_wp2
  go_ret2
  exact ⟨_,_,rfl,hb,rfl,he⟩
 by_cases h3 : R < 0
 ·clear h
  go_enter Tryz.func49,Tryz.ntmps49
  go_wp2_with fail
  refine (rule_wrong r _ _ w hg'.out (by decide) (by decide)).mono ?_
  rintro e w' ⟨v,rfl,hb,he⟩
  go_wp2
  go_ret2
  exact ⟨_,_,rfl,hb,rfl,he⟩
 have h4 : 3 < R:=by omega
 clear h
 go_enter Tryz.func49,Tryz.ntmps49
 go_wp2_with fail
 refine (rule_wrong r _ _ w hg'.out (by decide) (by decide)).mono ?_
 rintro e w' ⟨v,rfl,hb,he⟩
 go_wp2
 go_ret2
 exact ⟨_,_,rfl,hb,rfl,he⟩
end Go.Proofs.YtjiadfblphdchaaGreatDoor
namespace Go.Proofs.YtjiadfblphdchaaGreatDoor
open Go.RowKit
set_option maxRecDepth 100000
/-- A call returns a bool; only draws were made. -/
def RetB (b : Bool) (w : World) (e : Ending) (w' : World) : Prop:=∃ n : Nat,e = .returned (.bool b) ∧ w' = w.drewN n
theorem RetB.below {b : Bool} {w w' : World} {e : Ending} (h : RetB b w e w') : e = .returned (.bool b) ∧ Below w.heap.size w w':=by
 obtain ⟨n,he,rfl⟩:=h
 exact ⟨he,below_drewN (Below.refl _ _) n⟩
theorem equal_len (v u : Value) (xs ys : List Int) (w : World) (h : IntsAt w v xs) (k : IntsAt w u ys) (hne : xs.length ≠ ys.length) :
 Calls Tryz.prog 93 #[v,u] w (RetB false w):=by
 have h1:=h.len
 have h2:=k.len
 have hd : ((xs.length : Int) != (ys.length : Int)) = true:=by simp; omega
 clear h k hne
 go_enter Tryz.func93,Tryz.ntmps93
 go_wp2
 go_ret
 exact ⟨0,rfl,rfl⟩
theorem equal_any (v u : Value) (xs ys : List Int) (w : World) (h : IntsAt w v xs) (k : IntsAt w u ys) :
 Calls Tryz.prog 93 #[v,u] w (RetB (decide (xs = ys)) w):=by
 by_cases hl : xs.length = ys.length
 case neg =>
  rw [show decide (xs = ys) = false by simp; intro e; exact hl (by rw [e])]
  exact equal_len v u xs ys w h k hl
 have h1:=h.len
 have h2:=k.len
 have hm:=h.len_le
 have hd : ((xs.length : Int) != (ys.length : Int)) = false:=by simp; omega
 have hl':=Lib.hid hl
 have hlt' : xs.length ≤ ys.length:=by omega
 clear hl
 go_enter Tryz.func93,Tryz.ntmps93
 go_wp2
 go_loopw [13] (fun i wr => (∃ j : Nat,j ≤ xs.length ∧ i = .int .i64 j ∧ ∀ t (h1 : t < xs.length) (h2 : t < ys.length),t < j → xs[t] = ys[t]) ∧ ∃ n,wr = w.drewN n) (fun i _ => xs.length - (intOf i).toNat)
 case atStart => exact ⟨⟨0,by omega,rfl,by intro t _ _ h; omega⟩,0,rfl⟩
 case round =>
  obtain ⟨⟨j,hj,rfl,hp⟩,n,rfl⟩:=hrel
  replace hp:=Lib.hid hp
  by_cases hlt : j < xs.length
  ·have i1:=h.idx j hlt
   have i2:=k.idx j (by omega)
   have c1 : w.cell? (valAt v j) = some (.int .i64 xs[j]):=h.cell j hlt
   have c2 : w.cell? (valAt u j) = some (.int .i64 ys[j]):=k.cell j (by omega)
   clear h k
   by_cases he : xs[j] = ys[j]
   ·have hq : (xs[j] != ys[j]) = false:=by simp [he]
    have hE:=Lib.hid he
    clear he
    generalize hx : xs[j] = x at c1 hq
    generalize hy : ys[j] = y at c2 hq
    clear hx hy
    go_wp2
    go_quiet (fail)
    go_wp2
    go_roundw
    case rel =>
     refine ⟨⟨j + 1,by omega,by go_num,?_⟩,_,rfl⟩
     intro t h1 h2 ht
     by_cases e : t = j
     ·subst e; exact hE.out
     ·exact hp.out t h1 h2 (by omega)
    case measure => simp [intOf]; omega
   ·have hq : (xs[j] != ys[j]) = true:=by simp [he]
    have hE:=Lib.hid he
    clear he
    generalize hx : xs[j] = x at c1 hq
    generalize hy : ys[j] = y at c2 hq
    clear hx hy
    go_wp2
    go_quiet (fail)
    go_wp2
    go_ret
    refine ⟨_,ret_bool ?_,World.drewN_drewN ..⟩
    symm
    rw [decide_eq_false_iff_not]
    intro e
    exact hE.out (by subst e; rfl)
  ·go_wp2
   go_ret
   refine ⟨_,ret_bool ?_,rfl⟩
   symm
   rw [decide_eq_true_iff]
   exact List.ext_getElem hl'.out fun t h1 h2 => hp.out t h1 h2 (by omega)
/-- A []int is nil and empty, or it has an address. -/
theorem IntsAt.split {w : World} {v : Value} {xs : List Int} (h : IntsAt w v xs) : (v = .slice none 0 0 ∧ xs = []) ∨ ∃ p cap,v = .slice (some p) xs.length cap:=by
 obtain ⟨a,cap,rfl,h1,h2,h3,h4⟩:=h
 cases a with
 | none =>
  obtain rfl:=h3 rfl
  obtain rfl:=List.length_eq_zero_iff.1 (show xs.length = 0 by omega)
  exact .inl ⟨rfl,rfl⟩
 | some p => exact .inr ⟨p,cap,rfl⟩
theorem clone_any (v : Value) (xs : List Int) (w : World) (h : IntsAt w v xs) (hl : xs.length ≤ 17592186044416) :
 Calls Tryz.prog 125 #[v] w (Ret1 (fun x w' => OwnI w.heap.size w' x xs) w):=by
 rcases h.split with ⟨rfl,rfl⟩ | ⟨p,cap,rfl⟩
 ·have hn:=fun w' => Lib.run_eql_slice_nil (P:=Tryz.prog) w' _ _ none 0 0 0 0 uInts
  clear h
  go_enter Tryz.func125,Tryz.ntmps125
  go_wp2
  go_ret
  exact ⟨_,rfl,Below.refl _ _,OwnI.nil _ _⟩
 ·have hn:=fun w' => Lib.run_eql_slice_nil (P:=Tryz.prog) w' _ _ (some p) xs.length cap 0 0 uInts
  have h':=Lib.hid h
  clear h
  go_enter Tryz.func125,Tryz.ntmps125
  go_wp2_with (at_builtin; refine wpl_append rfl _ _ rfl w.heap.size _ _ [] xs (OwnI.lit _ _ (Nat.le_refl _) [] (by decide) #[] rfl 0 rfl) (h'.out.below ((Below.refl _ _).alloc (Nat.le_refl _) _)) rfl rfl (by simpa using hl) (by simp) ?_)
  intro v' w' ho hb _ _
  go_wp2
  go_ret
  exact ⟨_,rfl,((Below.refl _ _).alloc (Nat.le_refl _) _).trans hb,by simpa using ho⟩
end Go.Proofs.YtjiadfblphdchaaGreatDoor
namespace Go.Proofs.YtjiadfblphdchaaGreatDoor
open Go.RowKit
set_option maxRecDepth 100000
theorem ints_len (v u : Value) (xs ys : List Int) (w : World) (h : IntsAt w v xs) (k : IntsAt w u ys) (hne : xs.length ≠ ys.length) :
 Calls Tryz.prog 40 #[v,u] w (RetB false w):=by
 have h1:=h.len
 have h2:=k.len
 have hd : ((xs.length : Int) != (ys.length : Int)) = true:=by simp; omega
 clear h k hne
 go_enter Tryz.func40,Tryz.ntmps40
 go_wp2
 go_ret
 exact ⟨0,rfl,rfl⟩
theorem ints_any (v u : Value) (xs ys : List Int) (w : World) (h : IntsAt w v xs) (k : IntsAt w u ys) :
 Calls Tryz.prog 40 #[v,u] w (RetB (decide (xs = ys)) w):=by
 by_cases hl : xs.length = ys.length
 case neg =>
  rw [show decide (xs = ys) = false by simp; intro e; exact hl (by rw [e])]
  exact ints_len v u xs ys w h k hl
 have h1:=h.len
 have h2:=k.len
 have hm:=h.len_le
 have hd : ((xs.length : Int) != (ys.length : Int)) = false:=by simp; omega
 have hl':=Lib.hid hl
 have hlt' : xs.length ≤ ys.length:=by omega
 clear hl
 go_enter Tryz.func40,Tryz.ntmps40
 go_wp2
 go_loopw [5] (fun i wr => (∃ j : Nat,j ≤ xs.length ∧ i = .int .i64 j ∧ ∀ t (h1 : t < xs.length) (h2 : t < ys.length),t < j → xs[t] = ys[t]) ∧ ∃ n,wr = w.drewN n) (fun i _ => xs.length - (intOf i).toNat)
 case atStart => exact ⟨⟨0,by omega,rfl,by intro t _ _ h; omega⟩,0,rfl⟩
 case round =>
  obtain ⟨⟨j,hj,rfl,hp⟩,n,rfl⟩:=hrel
  replace hp:=Lib.hid hp
  by_cases hlt : j < xs.length
  ·have i1:=h.idx j hlt
   have i2:=k.idx j (by omega)
   have c1 : w.cell? (valAt v j) = some (.int .i64 xs[j]):=h.cell j hlt
   have c2 : w.cell? (valAt u j) = some (.int .i64 ys[j]):=k.cell j (by omega)
   clear h k
   by_cases he : xs[j] = ys[j]
   ·have hq : (xs[j] != ys[j]) = false:=by simp [he]
    have hE:=Lib.hid he
    clear he
    generalize hx : xs[j] = x at c1 hq
    generalize hy : ys[j] = y at c2 hq
    clear hx hy
    go_wp2
    go_quiet (fail)
    go_wp2
    go_roundw
    case rel =>
     refine ⟨⟨j + 1,by omega,by go_num,?_⟩,_,rfl⟩
     intro t h1 h2 ht
     by_cases e : t = j
     ·subst e; exact hE.out
     ·exact hp.out t h1 h2 (by omega)
    case measure => simp [intOf]; omega
   ·have hq : (xs[j] != ys[j]) = true:=by simp [he]
    have hE:=Lib.hid he
    clear he
    generalize hx : xs[j] = x at c1 hq
    generalize hy : ys[j] = y at c2 hq
    clear hx hy
    go_wp2
    go_quiet (fail)
    go_wp2
    go_ret
    refine ⟨_,ret_bool ?_,World.drewN_drewN ..⟩
    symm
    rw [decide_eq_false_iff_not]
    intro e
    exact hE.out (by subst e; rfl)
  ·go_wp2
   go_ret
   refine ⟨_,ret_bool ?_,rfl⟩
   symm
   rw [decide_eq_true_iff]
   exact List.ext_getElem hl'.out fun t h1 h2 => hp.out t h1 h2 (by omega)
end Go.Proofs.YtjiadfblphdchaaGreatDoor
namespace Go.Proofs.YtjiadfblphdchaaGreatDoor
open Go.RowKit
set_option maxRecDepth 100000
/-- The marks. -/
def mkA (t : Nat) : Int:=-2 * (t : Int) - 1
def mkB (t : Nat) : Int:=-2 * (t : Int) - 2
/-- The lists of a list. -/
def vAt (vs : List Value) (t : Nat) : Value:=vs.getD t undef
theorem ValsAt.cellV {w : World} {v : Value} {vs : List Value} (h : ValsAt w v vs) (i : Nat) (hi : i < vs.length) : w.cell? (valAt v i) = some (vAt vs i):=by
 rw [h.cell i hi]; simp [vAt,List.getD,hi]
/-- No two share memory, and none with the list that holds them. -/
structure Parted (lv : Value) (vs : List Value) : Prop where
 two : ∀ s t,s < vs.length → t < vs.length → s ≠ t → (vAt vs s).ownBlock = none ∨ (vAt vs s).ownBlock ≠ (vAt vs t).ownBlock
 top : ∀ i t,i < vs.length → t < vs.length → (vAt vs t).ownBlock ≠ some (valAt lv i).block
theorem ValsAt.grown {w w' : World} {row : Option Nat} {v : Value} {vs : List Value} (h : ValsAt w v vs) (hg : w.grownBy w' row) (hne : ∀ i,i < vs.length → row ≠ some (valAt v i).block) : ValsAt w' v vs :=
 h.cells_eq fun i hi => World.cell?_of_block (hg.block _ (h.blk i hi) (fun e => hne i hi e.symm))
/-- What list t reads once all are written over; and once it is grown. -/
def rA (X : Nat → List Int) (t : Nat) : List Int:=List.replicate (X t).length (mkA t)
def rB (X : Nat → List Int) (t : Nat) (j : Nat) : List Int:=rA X t ++ List.replicate j (mkB t)
theorem rB_zero (X : Nat → List Int) (t : Nat) : rB X t 0 = rA X t:=by simp [rB]
theorem rB_succ (X : Nat → List Int) (t j : Nat) : rB X t (j + 1) = rB X t j ++ [mkB t]:=by simp [rB,List.replicate_succ']
theorem grownBy_trans' {a b c : World} {row row' : Option Nat} (h : a.grownBy b row) (k : b.grownBy c row') (hr : ∀ i,row' = some i → a.heap.size ≤ i) : a.grownBy c row :=
 ⟨k.os.trans h.os,k.tape.trans h.tape,k.output.trans h.output,Nat.le_trans h.size k.size,fun i hi hne => (k.block i (Nat.lt_of_lt_of_le hi h.size) (fun e => by have:=hr i e.symm; omega)).trans (h.block i hi hne)⟩
theorem OwnI.front {B : Nat} {w w' : World} {v v' : Value} {xs ys : List Int} (h : OwnI B w v xs) (h' : OwnI B w' v' (xs ++ ys)) (hb : roomOf v' = roomOf v) : OwnI B w' v xs :=
 OwnV.toI (OwnV.front h.toV (by simpa using h'.toV) hb)
theorem ownBlock_eq {B B' : Nat} {w w' : World} {v v' : Value} {xs ys : List Int} (h : OwnI B w v xs) (h' : OwnI B' w' v' ys) (hr : roomOf v' = roomOf v) : v'.ownBlock = v.ownBlock:=by
 obtain ⟨a,n,c,e⟩:=h.at.shape
 obtain ⟨a',n',c',e'⟩:=h'.at.shape
 exact ownBlock_of_room e e' hr
/-- While list k grows. -/
structure Grows (B : Nat) (X : Nat → List Int) (k : Nat) (v : Value) (wi : World) (q : Nat) (g : Value) (wr : World) : Prop where
 own : OwnI B wr g (rB X k q)
 old : OwnI B wr v (rA X k)
 step : wi.grownBy wr v.ownBlock
 lt : ∀ b,v.ownBlock = some b → b < wi.heap.size
 at_ : (roomOf g = roomOf v) ∨ ∃ b,g.ownBlock = some b ∧ wi.heap.size ≤ b
theorem Grows.start {B : Nat} {X : Nat → List Int} {k : Nat} {v : Value} {wi : World} (h : OwnI B wi v (rA X k)) : Grows B X k v wi 0 v wi :=
 ⟨by rw [rB_zero]; exact h,h,World.grownBy.refl _ _,fun b hb => (h.lt b hb).2,.inl rfl⟩
theorem Grows.next {B : Nat} {X : Nat → List Int} {k : Nat} {v : Value} {wi : World} {q : Nat} {g : Value} {wr : World} (h : Grows B X k v wi q g wr) {g' : Value} {w' : World}
 (ho : OwnI B w' g' (rB X k q ++ [mkB k])) (ha : (roomOf g' = roomOf g ∧ wr.grownBy w' g.ownBlock) ∨ (∃ b,g'.ownBlock = some b ∧ wr.heap.size ≤ b ∧ wr.grownBy w' none)) : Grows B X k v wi (q + 1) g' w':=by
 rw [← rB_succ] at ho
 have hsz:=h.step.size
 rcases ha with ⟨hr,hg⟩ | ⟨b,hb,hlt,hg⟩
 ·rcases h.at_ with hat | ⟨b0,hb0,hlt0⟩
  ·have e:=ownBlock_eq h.old h.own hat
   rw [e] at hg
   exact ⟨ho,OwnI.front h.old (ys:=List.replicate (q + 1) (mkB k)) ho (hr.trans hat),h.step.trans hg,h.lt,.inl (hr.trans hat)⟩
  ·have e:=ownBlock_eq h.own ho hr
   have hne : v.ownBlock = none ∨ v.ownBlock ≠ g.ownBlock:=by
    cases hv : v.ownBlock with
    | none => exact .inl rfl
    | some kv =>
     right
     rw [hb0]
     intro e2
     simp at e2
     have:=h.lt kv hv
     omega
   exact ⟨ho,h.old.kept hg hne,grownBy_trans' h.step hg (fun i hi => by rw [hb0] at hi; simp at hi; omega),h.lt,.inr ⟨b0,by rw [e]; exact hb0,hlt0⟩⟩
 ·exact ⟨ho,h.old.kept hg (by cases hv : v.ownBlock <;> simp),grownBy_trans' h.step hg (by intro i hi; cases hi),h.lt,.inr ⟨b,hb,by omega⟩⟩
/-- What holds of the grown lists up to k. -/
structure Grown (B : Nat) (X : Nat → List Int) (vs : List Value) (gv : Value) (k : Nat) (gl : List Value) (wr : World) : Prop where
 own : ∀ t,t < k → OwnI B wr (vAt gl t) (rB X t 40)
 far : ∀ t s,t < k → s < vs.length → s ≠ t → (vAt vs s).ownBlock = none ∨ (vAt gl t).ownBlock ≠ (vAt vs s).ownBlock
 top : ∀ t,t < k → (vAt gl t).ownBlock ≠ gv.ownBlock
theorem ne_or {x row : Option Nat} (h : row = none ∨ x ≠ row) : x = none ∨ x ≠ row:=by
 rcases h with rfl | h
 ·cases x <;> simp
 ·exact .inr h
theorem Grows.gv {B kg : Nat} {X : Nat → List Int} {k : Nat} {v g gv : Value} {wi wr : World} {gl : List Value} {q : Nat} (h : Grows B X k v wi q g wr) (hgo : OwnV 22 kg wi gv gl) (hne : gv.ownBlock ≠ v.ownBlock ∨ v.ownBlock = none) : OwnV 22 kg wr gv gl :=
 hgo.kept h.step (ne_or hne.symm)
end Go.Proofs.YtjiadfblphdchaaGreatDoor
namespace Go.Proofs.YtjiadfblphdchaaGreatDoor
open Go.RowKit
theorem Below.step {w1 w2 w3 : World} (h : Below w1.heap.size w1 w2) (k : Below w2.heap.size w2 w3) : Below w1.heap.size w1 w3:=h.trans (k.mono h.size)
theorem belowAlloc (w : World) (o : Obj) : Below w.heap.size w (w.alloc o):=(Below.refl _ _).alloc (Nat.le_refl _) _
/-- Lists of their own, from block lo on, one behind the other. -/
def Owns (w : World) : Nat → List Value → List (List Int) → Prop
 | lo,[],[] => lo ≤ w.heap.size
 | lo,v :: vs,x :: xs => ∃ hi,lo ≤ hi ∧ OwnI lo w v x ∧ (∀ k,v.ownBlock = some k → k < hi) ∧ Owns w hi vs xs
 | _,_,_ => False
theorem Owns.get {w : World} : ∀ {vs : List Value} {xs : List (List Int)} {lo : Nat},Owns w lo vs xs → vs.length = xs.length ∧ ∀ t,t < vs.length → OwnI lo w (vAt vs t) (xs.getD t [])
 | [],[],_,_ => ⟨rfl,by intro t h; simp at h⟩
 | v :: vs,x :: xs,lo,⟨hi,hle,ho,_,hr⟩ => by
  obtain ⟨hl,hg⟩:=Owns.get hr
  refine ⟨by simp [hl],fun t ht => ?_⟩
  cases t with
  | zero => exact ho
  | succ t => exact (hg t (by simpa using ht)).mono hle
 | [],_ :: _,_,h => h.elim
 | _ :: _,[],_,h => h.elim
theorem Owns.two {w : World} : ∀ {vs : List Value} {xs : List (List Int)} {lo : Nat},Owns w lo vs xs → ∀ s t,s < vs.length → t < vs.length → s ≠ t → (vAt vs s).ownBlock = none ∨ (vAt vs s).ownBlock ≠ (vAt vs t).ownBlock
 | [],[],_,_,s,t,hs,_,_ => by simp at hs
 | v :: vs,x :: xs,lo,⟨hi,hle,ho,hlt,hr⟩,s,t,hs,ht,hne => by
  have hg:=(Owns.get hr).2
  have key : ∀ t,t < vs.length → ∀ k,v.ownBlock = some k → (vAt vs t).ownBlock ≠ some k:=fun t ht k hk e => by
   have h1:=hlt k hk
   have h2:=((hg t ht).lt k e).1
   omega
  match s,t,hs,ht,hne with
  | 0,0,_,_,hne => exact absurd rfl hne
  | 0,t + 1,_,ht,_ =>
   show v.ownBlock = none ∨ v.ownBlock ≠ (vAt vs t).ownBlock
   cases hk : v.ownBlock with
   | none => exact .inl rfl
   | some k => exact .inr fun e => key t (by simpa using ht) k hk e.symm
  | s + 1,0,hs,_,_ =>
   show (vAt vs s).ownBlock = none ∨ (vAt vs s).ownBlock ≠ v.ownBlock
   cases hk : v.ownBlock with
   | none => cases (vAt vs s).ownBlock <;> simp
   | some k => exact .inr (key s (by simpa using hs) k hk)
  | s + 1,t + 1,hs,ht,hne => exact Owns.two hr s t (by simpa using hs) (by simpa using ht) (by omega)
 | [],_ :: _,_,h,_,_,_,_,_ => h.elim
 | _ :: _,[],_,h,_,_,_,_,_ => h.elim
theorem Owns.alloc {w : World} (o : Obj) : ∀ {vs : List Value} {xs : List (List Int)} {lo : Nat},Owns w lo vs xs → Owns (w.alloc o) lo vs xs
 | [],[],lo,h => by show lo ≤ (w.alloc o).heap.size; have : lo ≤ w.heap.size:=h; simp; omega
 | v :: vs,x :: xs,lo,⟨hi,hle,ho,hlt,hr⟩ => ⟨hi,hle,ho.alloc o,hlt,Owns.alloc o hr⟩
 | [],_ :: _,_,h => h.elim
 | _ :: _,[],_,h => h.elim
end Go.Proofs.YtjiadfblphdchaaGreatDoor
namespace Go.Proofs.YtjiadfblphdchaaGreatDoor
open Go.RowKit
set_option maxRecDepth 100000
theorem sizeInt1 : (Tryz.prog.info? 3).map (·.size) = some 1:=by kernel_rfl
theorem splice_take {α : Type} (C ys : List α) (off n : Nat) (h : off + ys.length ≤ n) (hn : n ≤ C.length) :
 (C.take off ++ ys ++ C.drop (off + ys.length)).take n = (C.take n).take off ++ ys ++ (C.take n).drop (off + ys.length):=by
 have hl : (C.take off ++ ys).length = off + ys.length:=by simp; omega
 rw [List.take_append,List.take_of_length_le (by omega),hl,List.drop_take,List.take_take,Nat.min_eq_left (by omega)]
/-- copy(d, u), d at place off of an owned slice. -/
theorem run_copyI {w : World} {B : Nat} {v u d : Value} {xs ys : List Int} (off : Nat) (ty : TypeId) (dp : Option Addr) (dLen dCap : Nat) (hown : OwnI B w v xs) (hu : IntsAt w u ys) (hd : d = .slice dp dLen dCap)
 (hdl : ys.length ≤ dLen) (hfit : off + ys.length ≤ xs.length) (hdp : 0 < ys.length → dp = some (valAt v off)) :
 ∃ w',(Builtin.copy_ #[22,22] ty #[d,u]).run Tryz.prog w = .ok (.int .i64 ys.length) w' ∧ OwnI B w' v (xs.take off ++ ys ++ xs.drop (off + ys.length)) ∧ Below B w w' ∧ w.grownBy w' v.ownBlock:=by
 subst hd
 obtain ⟨sp,sCap,rfl,h1,h2,h3,h4⟩:=hu
 by_cases h0 : ys.length = 0
 ·obtain rfl : ys = []:=List.eq_nil_of_length_eq_zero h0
  have hr:=run_copy_none (P:=Tryz.prog) w 22 22 ty 3 dp sp dLen dCap 0 sCap uInts sizeInt1 (by simp)
  exact ⟨w,hr,by simpa using hown,Below.refl _ _,World.grownBy.refl _ _⟩
 ·obtain rfl:=hdp (by omega)
  cases sp with
  | none => have:=h3 rfl; omega
  | some p =>
   rcases hown.2 with ⟨rfl,hn⟩ | ⟨g,cap,cur,rfl,hb,hg,hn,hm,hcs,ht⟩
   ·omega
   ·rw [valAt_row]
    have hsrc : ∀ j u,(ys.map (Value.int .i64))[j]? = some u → w.cell? (p.add j) = some u:=by
     intro j u hj
     have hjl : j < ys.length:=by have:=(List.getElem?_eq_some_iff.1 hj).1; simpa using this
     have:=h4 j hjl
     simp only [valAt] at this
     rw [this,← hj]; simp [hjl]
    have hcl : cur.toList.length = cap:=by rw [Array.length_toList,hcs]; omega
    have hr:=run_copy_row (P:=Tryz.prog) w 22 22 ty 3 g off dLen dCap p ys.length sCap cur 3 (ys.map (.int .i64)) uInts sizeInt1 hg (by simp; exact (Nat.min_eq_left hdl).symm) hsrc (by rw [hcs]; simp; omega) (ints_oneCell _ _)
    rw [show goInt (ys.map (Value.int .i64)).length = .int .i64 ys.length by rw [List.length_map]; rfl] at hr
    have hst : w.grownBy (w.setRow g (cur.toList.take off ++ ys.map (Value.int .i64) ++ cur.toList.drop (off + (ys.map (Value.int .i64)).length)).toArray) (some g) :=
     ⟨rfl,rfl,rfl,by simp,fun k _ hk => setRow_other w g k _ (fun e => hk (by simp [e]))⟩
    refine ⟨_,hr,?_,(Below.refl _ _).grown hst (by have:=(Array.getElem?_eq_some_iff.1 hg).1; omega) (by intro k hk; simp at hk; omega),hst⟩
    have hlen : (xs.take off ++ ys ++ xs.drop (off + ys.length)).length = xs.length:=by simp; omega
    refine ⟨by simp,.inr ⟨g,cap,_,by rw [hlen],hb,setRow_heap w g cur _ _ _ hg,by rw [hlen]; exact hn,hm,?_,?_⟩⟩
    ·simp only [List.size_toArray,List.length_append,List.length_take,List.length_drop,List.length_map,hcl]; omega
    ·rw [hlen]
     have e:=splice_take cur.toList (ys.map (Value.int .i64)) off xs.length (by simpa using hfit) (by omega)
     rw [Nat.mul_one] at ht ⊢
     rw [e,ht]
     simp [List.map_take,List.map_drop]
/-- copy(v, u), v owned and no shorter. -/
theorem run_copy0 {w : World} {B : Nat} {v u : Value} {xs ys : List Int} (ty : TypeId) (hown : OwnI B w v xs) (hu : IntsAt w u ys) (hfit : ys.length ≤ xs.length) :
 ∃ w',(Builtin.copy_ #[22,22] ty #[v,u]).run Tryz.prog w = .ok (.int .i64 ys.length) w' ∧ OwnI B w' v (ys ++ xs.drop ys.length) ∧ Below B w w' ∧ w.grownBy w' v.ownBlock:=by
 obtain ⟨a,cap,e,_⟩:=hown.at
 have:=run_copyI 0 ty a xs.length cap hown hu e hfit (by omega) (by
  intro h0
  rcases hown.2 with ⟨rfl,hn⟩ | ⟨g,cap',cur,rfl,_⟩
  ·omega
  ·simp at e; obtain ⟨rfl,-⟩:=e; rw [valAt_row])
 simpa using this
/-- A slice cut to its first h elements. -/
def preV (v : Value) (h : Nat) : Value:=match v with | .slice a _ c => .slice a h c | v => v
theorem preV_at (v : Value) (h i : Nat) : valAt (preV v h) i = valAt v i:=by
 cases v with
 | slice a n c => cases a <;> rfl
 | _ => rfl
theorem run_pre {a : Option Addr} {n c : Nat} (h : Nat) (hh : h ≤ c) (w : World) :
 (Instr.slice 22 (.slice a n c) none (some (.int .i64 h)) none).run Tryz.prog w = .ok (preV (.slice a n c) h) w:=by
 rw [run_slice_h w 22 a n c uIntsE .i64 h (by omega) (by omega),eInts,sInt]
 simp only [Result.andThen,sliced,preV]
 rw [Int.toNat_natCast]
 have e : Option.map (fun x => x.add 0) a = a:=by cases a <;> simp [Addr.add]
 simp [e]
theorem IntsAt.pre {w : World} {v : Value} {xs : List Int} (h : IntsAt w v xs) (k : Nat) (hk : k ≤ xs.length) : IntsAt w (preV v k) (xs.take k):=by
 obtain ⟨a,cap,rfl,h1,h2,h3,h4⟩:=h
 have hl : (xs.take k).length = k:=by simp; omega
 refine ⟨a,cap,by rw [hl]; rfl,by omega,h2,h3,fun i hi => ?_⟩
 rw [preV_at,h4 i (by omega)]
 simp
theorem OwnI.runPre {B : Nat} {w : World} {v : Value} {xs : List Int} (h : OwnI B w v xs) (k : Nat) (hk : k ≤ xs.length) (w' : World) :
 (Instr.slice 22 v none (some (.int .i64 k)) none).run Tryz.prog w' = .ok (preV v k) w':=by
 obtain ⟨a,cap,rfl,h1,_⟩:=h.at
 exact run_pre k (by omega) w'
theorem IntsAt.runPre {w : World} {v : Value} {xs : List Int} (h : IntsAt w v xs) (k : Nat) (hk : k ≤ xs.length) (w' : World) :
 (Instr.slice 22 v none (some (.int .i64 k)) none).run Tryz.prog w' = .ok (preV v k) w':=by
 obtain ⟨a,cap,rfl,h1,_⟩:=h
 exact run_pre k (by omega) w'
/-- Numbers lent: two marks lie in the room behind them. -/
def LentI (B : Nat) (w : World) (m : Value) (xs : List Int) : Prop:=∃ v,m = preV v xs.length ∧ OwnI B w v (xs ++ [7001,7002])
theorem LentI.at {B : Nat} {w : World} {m : Value} {xs : List Int} (h : LentI B w m xs) : IntsAt w m xs:=by
 obtain ⟨v,rfl,ho⟩:=h
 have:=ho.at.pre xs.length (by simp)
 rwa [List.take_left'] at this
 rfl
theorem LentI.below {B : Nat} {w w' : World} {m : Value} {xs : List Int} (h : LentI B w m xs) (hb : Below w.heap.size w w') : LentI B w' m xs:=by
 obtain ⟨v,e,ho⟩:=h
 exact ⟨v,e,ho.below hb⟩
/-- What is kept below a block number. -/
theorem OwnI.belowB {B B' : Nat} {w w' : World} {v : Value} {xs : List Int} (h : OwnI B w v xs) (hb : Below B' w w') (hlt : ∀ k,v.ownBlock = some k → k < B') : OwnI B w' v xs:=by
 refine ⟨h.1,?_⟩
 rcases h.2 with h2 | ⟨g,cap,cur,rfl,hB,hg,r⟩
 ·exact .inl h2
 ·exact .inr ⟨g,cap,cur,rfl,hB,by rw [hb.block g (hlt g rfl)]; exact hg,r⟩
theorem LentI.belowB {B B' : Nat} {w0 w w' : World} {m : Value} {xs : List Int} (h : LentI B w m xs) (h0 : LentI B w0 m xs) (hs : w0.heap.size ≤ B') (hb : Below B' w w') : LentI B w' m xs:=by
 obtain ⟨v,rfl,ho⟩:=h
 obtain ⟨v0,e0,ho0⟩:=h0
 refine ⟨v,rfl,ho.belowB hb fun k hk => ?_⟩
 have hbk : v0.ownBlock = v.ownBlock:=by
  obtain ⟨a,n,c,rfl⟩:=ho.at.shape
  obtain ⟨a',n',c',rfl⟩:=ho0.at.shape
  simp [preV] at e0
  obtain ⟨rfl,rfl⟩:=e0
  cases a <;> rfl
 have:=(ho0.lt k (hbk.trans hk)).2
 omega
theorem lent_any (v : Value) (xs : List Int) (w : World) (h : IntsAt w v xs) (hl : xs.length ≤ 17592186044414) :
 Calls Tryz.prog 32 #[v] w (Ret1 (fun x w' => LentI w.heap.size w' x xs) w):=by
 have hlen:=h.len
 replace h:=Lib.hid h
 go_enter Tryz.func32,Tryz.ntmps32
 go_wp2_with (at_make; refine wpl_make rfl _ _ rfl _ rfl rfl (by omega) (by omega) ?_)
 intro m w1 ho hb
 have hn : ((xs.length : Int) + 2).toNat = xs.length + 2:=by omega
 rw [hn] at ho
 clear hn
 obtain ⟨w2,hcp,ho2,hb2,_⟩:=run_copy0 3 ho (h.out.below hb) (by simp)
 have e1 : xs ++ (List.replicate (xs.length + 2) (0 : Int)).drop xs.length = xs ++ [0,0]:=by rw [List.drop_replicate,Nat.add_sub_cancel_left]; rfl
 rw [e1] at ho2
 clear e1
 have i1:=ho2.at.idx xs.length (by simp)
 have c1:=ho2.at.cell xs.length (by simp)
 have f1:=ho2.frz xs.length (by simp)
 have ho3:=ho2.set xs.length (by simp) 7001
 have hb3:=ho2.setBelow (hb.trans hb2) xs.length (by simp) (.int .i64 7001)
 have e2 : (xs ++ [0,0]).set xs.length 7001 = xs ++ [7001,0]:=by simp
 rw [e2] at ho3
 have i2 : ∀ w',(Instr.indexAt 22 m (.int .i64 ((xs.length : Int) + 1))).run Tryz.prog w' = .ok (.pointer (some (valAt m (xs.length + 1)))) w':=by
  intro w'; exact ho3.at.idx (xs.length + 1) (by simp) w'
 have c2:=ho3.at.cell (xs.length + 1) (by simp)
 have f2:=ho3.frz (xs.length + 1) (by simp)
 have ho4:=ho3.set (xs.length + 1) (by simp) 7002
 have hb4:=Lib.hid (ho3.setBelow hb3 (xs.length + 1) (by simp) (.int .i64 7002))
 have e3 : (xs ++ [7001,0]).set (xs.length + 1) 7002 = xs ++ [7001,7002]:=by simp
 rw [e3] at ho4
 have hre:=ho4.runPre xs.length (by simp)
 replace ho4:=Lib.hid ho4
 clear e2 e3 ho2 ho3 ho hb hb2 hb3
 go_wp2
 go_ret
 exact ⟨_,rfl,hb4.out,m,rfl,ho4.out⟩
theorem LentI.full {B : Nat} {w : World} {m : Value} {xs : List Int} (h : LentI B w m xs) :
 ∃ v,OwnI B w v (xs ++ [7001,7002]) ∧ ∀ w',(Instr.slice 22 m none (some (.int .i64 ((xs.length : Int) + 2))) none).run Tryz.prog w' = .ok v w':=by
 obtain ⟨v,rfl,ho⟩:=h
 refine ⟨v,ho,fun w' => ?_⟩
 obtain ⟨a,cap,rfl,h1,_⟩:=ho.at
 have:=run_pre (a:=a) (n:=xs.length) (c:=cap) (xs.length + 2) (by simpa using h1) w'
 have e : (xs ++ [7001,7002]).length = xs.length + 2:=by simp
 rw [e]
 exact this
theorem kept_any (B : Nat) (m l : Value) (xs : List Int) (w : World) (h : LentI B w m xs) (k : IntsAt w l xs) (hl : xs.length ≤ 17592186044414) :
 Calls Tryz.prog 41 #[m,l] w (RetB true w):=by
 have hlen:=k.len
 obtain ⟨v,ho,hfull⟩:=h.full
 have i1:=ho.at.idx xs.length (by simp)
 have c1:=ho.at.cell xs.length (by simp)
 have i2 : ∀ w',(Instr.indexAt 22 v (.int .i64 ((xs.length : Int) + 1))).run Tryz.prog w' = .ok (.pointer (some (valAt v (xs.length + 1)))) w':=by
  intro w'; exact ho.at.idx (xs.length + 1) (by simp) w'
 have c2:=ho.at.cell (xs.length + 1) (by simp)
 have e1 : (xs ++ [7001,7002])[xs.length]'(by simp) = 7001:=by simp
 have e2 : (xs ++ [7001,7002])[xs.length + 1]'(by simp) = 7002:=by simp
 rw [e1] at c1
 rw [e2] at c2
 clear ho e1 e2
 have hm:=Lib.hid h.at
 replace k:=Lib.hid k
 clear h
 go_enter Tryz.func41,Tryz.ntmps41
 go_wp2_with fail
 refine (ints_any m l xs xs _ hm.out k.out).mono ?_
 rintro e w' ⟨n,rfl,rfl⟩
 rw [show decide (xs = xs) = true by simp]
 go_wp2
 go_ret
 exact ⟨n,rfl,rfl⟩
/-- edenraw.Rules. -/
theorem rules_any (k R k' R' : Int) (a : Option Addr) (n c : Nat) (a' : Option Addr) (n' c' : Nat) (xs ys : List Int) (w : World) (h : IntsAt w (.slice a n c) xs) (h' : IntsAt w (.slice a' n' c') ys) :
 Calls Tryz.prog 17 #[.agg #[.int .i64 k,.int .i64 R,.slice a n c],.agg #[.int .i64 k',.int .i64 R',.slice a' n' c']] w
  (Ret1 (fun x _ => x = .bool (k == k' && (R == R' && decide (xs = ys)))) w):=by
 have hb0:=(Below.refl w.heap.size w).alloc (Nat.le_refl _) (.cells #[.int .i64 k,.int .i64 R,.slice a n c] 24)
 have hb1:=hb0.alloc (by simp) (.cells #[.int .i64 k',.int .i64 R',.slice a' n' c'] 24)
 have g:=Lib.hid (h.below hb1)
 have g':=Lib.hid (h'.below hb1)
 clear h h'
 cases e1 : (k == k')
 ·go_enter Tryz.func17,Tryz.ntmps17
  go_wp2
  go_ret
  exact ⟨_,rfl,hb1,rfl⟩
 ·cases e2 : (R == R')
  ·go_enter Tryz.func17,Tryz.ntmps17
   go_wp2
   go_ret
   exact ⟨_,rfl,hb1,rfl⟩
  ·go_enter Tryz.func17,Tryz.ntmps17
   go_wp2_with fail
   refine (ints_any _ _ xs ys _ g.out g'.out).mono ?_
   rintro e w' ⟨q,rfl,rfl⟩
   generalize hd : decide (xs = ys) = d
   replace hd:=Lib.hid hd
   go_wp2
   go_ret
   exact ⟨_,rfl,below_drewN hb1 q,(by rw [hd.out]; rfl)⟩
end Go.Proofs.YtjiadfblphdchaaGreatDoor
namespace Go.Proofs.YtjiadfblphdchaaGreatDoor
open Go.RowKit
set_option maxRecDepth 100000
end Go.Proofs.YtjiadfblphdchaaGreatDoor
namespace Go.Proofs.YtjiadfblphdchaaGreatDoor
open Go.RowKit
theorem check_k (r : Nat → Addr) (k R : Int) (v : Value) (w : World) (hg : Glob r w) (h : k < 1 ∨ 4 < k) :
 Calls Tryz.prog 22 #[.agg #[.int .i64 k,.int .i64 R,v]] w (Ret1 (fun x w' => ErrIs r w' (fresh sRule 0 1) x) w):=by
 have hg':=Lib.hid (hg.below ((Below.refl _ _).alloc (Nat.le_refl _) (.cells #[.int .i64 k,.int .i64 R,v] 24)))
 clear hg
 rcases h with h | h <;>
 (go_enter Tryz.func22,Tryz.ntmps22
  go_wp2_with fail
  refine (rule_wrong r _ _ _ hg'.out (by decide) (by decide)).mono ?_
  rintro e w' ⟨x,rfl,hb,he⟩
  go_wp2
  go_ret
  exact ⟨_,rfl,((Below.refl _ _).alloc (Nat.le_refl _) _).trans (hb.mono (by simp)),he⟩)
theorem check_r (r : Nat → Addr) (k R : Int) (v : Value) (w : World) (hg : Glob r w) (h1 : 1 ≤ k) (h4 : k ≤ 4) (h : R < 0 ∨ 3 < R) :
 Calls Tryz.prog 22 #[.agg #[.int .i64 k,.int .i64 R,v]] w (Ret1 (fun x w' => ErrIs r w' (fresh sRule 1 1) x) w):=by
 have hg':=Lib.hid (hg.below ((Below.refl _ _).alloc (Nat.le_refl _) (.cells #[.int .i64 k,.int .i64 R,v] 24)))
 clear hg
 go_enter Tryz.func22,Tryz.ntmps22
 go_wp2_with fail
 refine (size_bad r _ _ _ hg'.out (by omega)).mono ?_
 rintro e w1 ⟨x,y,rfl,hb,rfl,he⟩
 obtain ⟨T,a,rfl⟩:=he.some_shape
 clear he
 go_wp2_with fail
 refine (rule_wrong r _ _ _ (hg'.out.below hb) (by decide) (by decide)).mono ?_
 rintro e w' ⟨x,rfl,hb',he⟩
 go_wp2
 go_ret
 exact ⟨_,rfl,(((Below.refl _ _).alloc (Nat.le_refl _) _).trans (hb.mono (by simp))).trans (hb'.mono (by have:=hb.size; simp at this; omega)),he⟩
theorem check_len (r : Nat → Addr) (K R : Nat) (v : Value) (xs : List Int) (w : World) (hg : Glob r w) (h : IntsAt w v xs) (h1 : 1 ≤ K) (h4 : K ≤ 4) (h3 : R ≤ 3) (hl : xs.length ≠ pw K (2 * R + 1)) :
 Calls Tryz.prog 22 #[.agg #[.int .i64 K,.int .i64 R,v]] w (Ret1 (fun x w' => ErrIs r w' (fresh sRule 2 1) x) w):=by
 have hg':=Lib.hid (hg.below ((Below.refl _ _).alloc (Nat.le_refl _) (.cells #[.int .i64 K,.int .i64 R,v] 24)))
 clear hg
 have hlen:=h.len
 clear h
 have hne : ((xs.length : Int) != (pw K (2 * R + 1) : Int)) = true:=by simp; omega
 clear hl
 go_enter Tryz.func22,Tryz.ntmps22
 go_wp2_with fail
 refine (size_ok K R _ h1 h4 h3).mono ?_
 rintro e w1 ⟨rfl,rfl⟩
 go_wp2_with fail
 refine (rule_wrong r _ _ _ hg'.out (by decide) (by decide)).mono ?_
 rintro e w' ⟨x,rfl,hb',he⟩
 go_wp2
 go_ret
 exact ⟨_,rfl,((Below.refl _ _).alloc (Nat.le_refl _) _).trans (hb'.mono (by simp)),he⟩
theorem check_odd (r : Nat → Addr) (K R : Nat) (v : Value) (xs : List Int) (i : Nat) (w : World) (hg : Glob r w) (h : IntsAt w v xs) (h1 : 1 ≤ K) (h4 : K ≤ 4) (h3 : R ≤ 3) (hl : xs.length = pw K (2 * R + 1)) (hi : idxOf (odd1 K) xs = i) (hi' : i < xs.length) :
 Calls Tryz.prog 22 #[.agg #[.int .i64 K,.int .i64 R,v]] w (Ret1 (fun x w' => ErrIs r w' (fresh sRule (3 + i) 1) x) w):=by
 have hg':=Lib.hid (hg.below ((Below.refl _ _).alloc (Nat.le_refl _) (.cells #[.int .i64 K,.int .i64 R,v] 24)))
 clear hg
 have hm:=h.len_le
 have h':=Lib.hid (h.below ((Below.refl _ _).alloc (Nat.le_refl _) (.cells #[.int .i64 K,.int .i64 R,v] 24)))
 have hlen:=h.len
 clear h
 have hne : ((xs.length : Int) != (pw K (2 * R + 1) : Int)) = false:=by simp; omega
 clear hl
 replace hi:=Lib.hid hi
 go_enter Tryz.func22,Tryz.ntmps22
 go_wp2_with fail
 refine (size_ok K R _ h1 h4 h3).mono ?_
 rintro e w1 ⟨rfl,rfl⟩
 go_wp2_with fail
 refine (rule_odd K v xs _ h'.out).mono ?_
 rintro e w1 ⟨x,rfl,hb,rfl⟩
 rw [hi.out]
 have hlt : i < 9223372036854775807:=by omega
 have hb3 : (3 + (i : Int)) ≤ 9223372036854775807:=by
  have:=pw_le (i:=2 * R + 1) h1 h4 (by omega)
  have : ¬ ((xs.length : Int) != (pw K (2 * R + 1) : Int)) = true:=by rw [hne]; simp
  simp at this
  omega
 go_wp2_with fail
 refine (rule_wrong r _ _ _ (hg'.out.below hb) (by decide) (by decide)).mono ?_
 rintro e w' ⟨x,rfl,hb',he⟩
 go_wp2
 go_ret
 exact ⟨_,rfl,(((Below.refl _ _).alloc (Nat.le_refl _) _).trans (hb.mono (by simp))).trans (hb'.mono (by have:=hb.size; simp at this; omega)),he⟩
theorem check_ok (K R : Nat) (v : Value) (xs : List Int) (w : World) (h : IntsAt w v xs) (hr : RuleOk K R xs) :
 Calls Tryz.prog 22 #[.agg #[.int .i64 K,.int .i64 R,v]] w (Ret1 (fun x _ => x = .nilIface) w):=by
 obtain ⟨h1,h4,h3,hl,hs⟩:=hr
 have h':=Lib.hid (h.below ((Below.refl _ _).alloc (Nat.le_refl _) (.cells #[.int .i64 K,.int .i64 R,v] 24)))
 have hlen:=h.len
 clear h
 have hne : ((xs.length : Int) != (pw K (2 * R + 1) : Int)) = false:=by simp; omega
 clear hl
 replace hs:=Lib.hid hs
 go_enter Tryz.func22,Tryz.ntmps22
 go_wp2_with fail
 refine (size_ok K R _ h1 h4 h3).mono ?_
 rintro e w1 ⟨rfl,rfl⟩
 go_wp2_with fail
 refine (rule_odd K v xs _ h'.out).mono ?_
 rintro e w1 ⟨x,rfl,hb,rfl⟩
 rw [hs.out.odd]
 go_wp2
 go_ret
 exact ⟨_,rfl,(((Below.refl _ _).alloc (Nat.le_refl _) _).trans (hb.mono (by simp))),rfl⟩
/-- rule.Check at every rule. -/
theorem check_any (r : Nat → Addr) (k R : Int) (v : Value) (xs : List Int) (w : World) (hg : Glob r w) (h : IntsAt w v xs) :
 Calls Tryz.prog 22 #[.agg #[.int .i64 k,.int .i64 R,v]] w (Ret1 (fun x w' => ErrIs r w' (checkP k R xs) x) w):=by
 by_cases hk : k < 1 ∨ 4 < k
 ·rw [checkP,if_pos hk]; exact check_k r k R v w hg hk
 by_cases hr : R < 0 ∨ 3 < R
 ·rw [checkP,if_neg hk,if_pos hr]; exact check_r r k R v w hg (by omega) (by omega) hr
 obtain ⟨K,rfl⟩:=Int.eq_ofNat_of_zero_le (show 0 ≤ k by omega)
 obtain ⟨R,rfl⟩:=Int.eq_ofNat_of_zero_le (show 0 ≤ R by omega)
 by_cases hl : xs.length = pw K (2 * R + 1)
 ·rcases syms_or K xs with hs | ⟨i,hi,hlt⟩
  ·have hok : RuleOk K R xs:=⟨by omega,by omega,by omega,hl,hs⟩
   rw [hok.check]; exact check_ok K R v xs w h hok
  ·have : checkP K R xs = fresh sRule (3 + i) 1:=by
    rw [checkP,if_neg hk,if_neg hr,if_neg (by simp [hl]),if_neg (by omega),hi]
   rw [this]
   exact check_odd r K R v xs i w hg h (by omega) (by omega) (by omega) hl hi hlt
 ·have : checkP K R xs = fresh sRule 2 1:=by
   rw [checkP,if_neg hk,if_neg hr,if_pos (by simpa using hl)]
  rw [this]
  exact check_len r K R v xs w hg h (by omega) (by omega) (by omega) hl
end Go.Proofs.YtjiadfblphdchaaGreatDoor
