/-
  edenraw.Err in memory; walks: edenraw.Root, New, Under, (Err).Bad.
  Walk: edenraw.Under at an error.
  Walks: errors.Is and errors.As at a chain of Faults; the model's entries for internal/reflectlite at this program's types (after the kit's worked example Toyas).
  The model's entries for internal/reflectlite at a *api.Fault and at the address of a variable of that type (after the kit's worked example Toyas).
  Walk: errors.As at a Fault (after the kit's worked example Toyas).
  Walk: edenraw.Is at an error that is what it must be.
  Plain mathematics of layer 7: the symbol of a row at a place, pieces of rows, twins in a row.
  A law for a region that draws its order: the operations of its head in an order of our own, each load under a fact on the world that the head keeps; then the forced tail, one behind the other.
  Walk: the method fill of inverse.guess, by induction on the symbols that are still to come.
  Walks: slices.IndexFunc, package rule's first functions.
  Walks: Go's package slices at []int.
  Walks: package edenraw (what statements share).
  Walk: edenraw.Apart: lists that share no memory, their spare room neither.
  Several owned lists, each in blocks of its own: what Apart asks.
  Several rows of memory of one's own, under names, no two in one block: what a store, an append, a new row does to them.
-/
import Derived.Test.YtjiadfblphdchaaGreatDoorMVl1
import Derived.Deep.RegionLawGrows
import Derived.Deep.RegionHeld3
import Derived.LaidEql
import Derived.Stop.Asserts
import Derived.RowKitTokens
import Derived.Deep.LoopGhost
import Derived.StillTail
import Derived.Deep.DeepCutAuto
import Derived.BigQuiet
import Derived.Deep.QuietTactic
namespace Go.Proofs.YtjiadfblphdchaaGreatDoor
open Go.RowKit
set_option maxRecDepth 100000
theorem oneStrs : OneCell 35 9 (.string ⟨#[]⟩) 16:=⟨by kernel_rfl,by kernel_rfl,rfl,by decide,fun _ => by kernel_rfl⟩
/-- What an edenraw.Err is in memory. -/
def EAt (w : World) (t : PErr) (v : Value) : Prop :=
 match t with
 | none => v = .agg #[.int .i64 0,.slice none 0 0,.slice none 0 0]
 | some (n,l) => ∃ a1 n1 c1 a2 n2 c2,v = .agg #[.int .i64 n,.slice a1 n1 c1,.slice a2 n2 c2] ∧ ValsAt w (.slice a1 n1 c1) (l.map fun x => Value.string x.1) ∧ IntsAt w (.slice a2 n2 c2) (l.map (·.2))
theorem EAt.below {w w' : World} {t : PErr} {v : Value} (h : EAt w t v) (hb : Below w.heap.size w w') : EAt w' t v:=by
 match t,h with
 | none,h => exact h
 | some (n,l),⟨a1,n1,c1,a2,n2,c2,e,h1,h2⟩ => exact ⟨a1,n1,c1,a2,n2,c2,e,h1.below hb,h2.below hb⟩
/-- An edenraw.Err whose lists this call made, from block B on. -/
def EOwn (B : Nat) (w : World) (t : PErr) (v : Value) : Prop :=
 match t with
 | none => v = .agg #[.int .i64 0,.slice none 0 0,.slice none 0 0]
 | some (n,l) => ∃ a1 n1 c1 a2 n2 c2,v = .agg #[.int .i64 n,.slice a1 n1 c1,.slice a2 n2 c2] ∧ OwnV 9 B w (.slice a1 n1 c1) (l.map fun x => Value.string x.1) ∧ OwnV 3 B w (.slice a2 n2 c2) ((l.map (·.2)).map (Value.int .i64))
theorem OwnV.setBelowBase {E : TypeId} {B : Nat} {w : World} {v : Value} {vs : List Value} (h : OwnV E B w v vs) {a : Addr} (ha : a.block < B) (u : Value) : OwnV E B (w.setCell a u) v vs:=ownsRow_setCell_below h ha u
theorem EOwn.at {B : Nat} {w : World} {t : PErr} {v : Value} (h : EOwn B w t v) : EAt w t v:=by
 match t,h with
 | none,h => exact h
 | some (n,l),⟨a1,n1,c1,a2,n2,c2,e,h1,h2⟩ => exact ⟨a1,n1,c1,a2,n2,c2,e,h1.at,OwnI.at (OwnV.toI h2)⟩
theorem EOwn.mono {B B' : Nat} {w : World} {t : PErr} {v : Value} (h : EOwn B w t v) (hB : B' ≤ B) : EOwn B' w t v:=by
 match t,h with
 | none,h => exact h
 | some (n,l),⟨a1,n1,c1,a2,n2,c2,e,h1,h2⟩ => exact ⟨a1,n1,c1,a2,n2,c2,e,h1.mono hB,h2.mono hB⟩
theorem EOwn.below {B : Nat} {w w' : World} {t : PErr} {v : Value} (h : EOwn B w t v) (hb : Below w.heap.size w w') : EOwn B w' t v:=by
 match t,h with
 | none,h => exact h
 | some (n,l),⟨a1,n1,c1,a2,n2,c2,e,h1,h2⟩ => exact ⟨a1,n1,c1,a2,n2,c2,e,h1.below hb,h2.below hb⟩
theorem EOwn.set {B : Nat} {w : World} {t : PErr} {v : Value} (h : EOwn B w t v) {a : Addr} (ha : a.block < B) (u : Value) : EOwn B (w.setCell a u) t v:=by
 match t,h with
 | none,h => exact h
 | some (n,l),⟨a1,n1,c1,a2,n2,c2,e,h1,h2⟩ => exact ⟨a1,n1,c1,a2,n2,c2,e,h1.setBelowBase ha u,h2.setBelowBase ha u⟩
theorem EOwn.set3 {B b : Nat} {w : World} {t : PErr} {v : Value} (h : EOwn B w t v) (hb : b < B) (x y z : Value) : EOwn B (((w.setCell ⟨b,0,none⟩ x).setCell ⟨b,1,none⟩ y).setCell ⟨b,2,none⟩ z) t v :=
 ((h.set (a:=⟨b,0,none⟩) hb x).set (a:=⟨b,1,none⟩) hb y).set (a:=⟨b,2,none⟩) hb z
theorem Below.set3 {B b : Nat} {w0 w : World} (h : Below B w0 w) (hb : B ≤ b) (x y z : Value) : Below B w0 (((w.setCell ⟨b,0,none⟩ x).setCell ⟨b,1,none⟩ y).setCell ⟨b,2,none⟩ z) :=
 ((h.setCell (p:=⟨b,0,none⟩) hb x).setCell (p:=⟨b,1,none⟩) hb y).setCell (p:=⟨b,2,none⟩) hb z
theorem OwnV.lit {E : TypeId} (B : Nat) (w : World) (hB : B ≤ w.heap.size) (x : Value) : OwnV E B (w.alloc (.cells #[x] E)) (.slice (some ⟨w.heap.size,0,none⟩) 1 1) [x] :=
 World.ownsRow_lit (base:=B) (e:=E) (size:=1) w #[x] 1 hB (by unfold maxLen; omega) rfl
theorem EAt.shape {w : World} {t : PErr} {v : Value} (h : EAt w t v) : ∃ n a1 n1 c1 a2 n2 c2,v = .agg #[.int .i64 n,.slice a1 n1 c1,.slice a2 n2 c2]:=by
 match t,h with
 | none,h => exact ⟨0,none,0,0,none,0,0,h⟩
 | some (n,l),⟨a1,n1,c1,a2,n2,c2,e,_⟩ => exact ⟨n,a1,n1,c1,a2,n2,c2,e⟩
abbrev zErr : Value:=.agg #[.int .i64 0,.slice none 0 0,.slice none 0 0]
theorem EAt.none (w : World) : EAt w none zErr:=rfl
set_option maxHeartbeats 1000000 in
theorem raw_root (r : Nat → Addr) (n : Int) (w : World) (hg : Glob r w) (h1 : 1 ≤ n) (h2 : n ≤ 11) :
 Calls Tryz.prog 38 #[.int .i64 n] w fun e w' => e = .returned (rootV r n) ∧ w = w':=by
 obtain ⟨c1,c2,c3,c4,c5,c6,c7,c8,c9,c10,c11,_,_,_⟩:=hg
 have hn : n = 1 ∨ n = 2 ∨ n = 3 ∨ n = 4 ∨ n = 5 ∨ n = 6 ∨ n = 7 ∨ n = 8 ∨ n = 9 ∨ n = 10 ∨ n = 11:=by omega
 rcases hn with rfl | rfl | rfl | rfl | rfl | rfl | rfl | rfl | rfl | rfl | rfl <;>
 (clear h1 h2
  go_enter Tryz.func38,Tryz.ntmps38
  go_wp2
  go_ret
  exact ⟨rfl,rfl⟩)
theorem err_bad (n : Int) (a1 : Option Addr) (n1 c1 : Nat) (a2 : Option Addr) (n2 c2 : Nat) (w : World) :
 Calls Tryz.prog 24 #[.agg #[.int .i64 n,.slice a1 n1 c1,.slice a2 n2 c2]] w (Ret1 (fun x _ => x = .bool (n != 0)) w):=by
 go_enter Tryz.func24,Tryz.ntmps24
 go_wp2
 go_ret
 exact ⟨_,rfl,(Below.refl _ _).alloc (Nat.le_refl _) _,rfl⟩
set_option maxHeartbeats 800000 in
theorem raw_new (op : ByteArray) (at_ n : Int) (w : World) :
 Calls Tryz.prog 20 #[.string op,.int .i64 at_,.int .i64 n] w (Ret1 (fun x w' => EOwn w.heap.size w' (fresh op at_ n) x) w):=by
 go_enter Tryz.func20,Tryz.ntmps20
 go_wp2
 refine bodyPost_ret (v:=.agg #[.int .i64 n,.slice (some ⟨w.heap.size + 1,0,none⟩) 1 1,.slice (some ⟨w.heap.size + 1 + 1,0,none⟩) 1 1]) (by simp [results,Tryz.results20,go_sem]) rfl ⟨_,rfl,?_,?_⟩
 ·exact (((Below.refl _ _).alloc (Nat.le_refl _) _).alloc (by simp) _).alloc (by simp; omega) _
 ·have h1:=(OwnV.lit (E:=9) w.heap.size (w.alloc (.cells #[.int .i64 n,.slice (some ⟨w.heap.size + 1,0,none⟩) 1 1,.slice (some ⟨w.heap.size + 1 + 1,0,none⟩) 1 1] 37)) (by simp) (.string op)).alloc (.cells #[.int .i64 at_] 3)
  have h2:=OwnV.lit (E:=3) w.heap.size ((w.alloc (.cells #[.int .i64 n,.slice (some ⟨w.heap.size + 1,0,none⟩) 1 1,.slice (some ⟨w.heap.size + 1 + 1,0,none⟩) 1 1] 37)).alloc (.cells #[.string op] 9)) (by simp; omega) (.int .i64 at_)
  simp only [World.size_alloc] at h1 h2
  exact ⟨_,_,_,_,_,_,rfl,h1,h2⟩
theorem ValsAt.alloc {w : World} {v : Value} {vs : List Value} (h : ValsAt w v vs) (o : Obj) : ValsAt (w.alloc o) v vs:=h.below ((Below.refl _ _).alloc (Nat.le_refl _) _)
theorem ValsAt.drew {w : World} {v : Value} {vs : List Value} (h : ValsAt w v vs) : ValsAt w.drew v vs:=h
theorem ValsAt.split {w : World} {v : Value} {vs : List Value} (h : ValsAt w v vs) : (v = .slice none 0 0 ∧ vs = []) ∨ ∃ p cap,v = .slice (some p) vs.length cap ∧ ∀ j u,vs[j]? = some u → w.cell? (p.add j) = some u:=by
 obtain ⟨a,cap,rfl,h1,h2,h3,h4⟩:=h
 cases a with
 | none =>
  obtain rfl:=h3 rfl
  obtain rfl:=List.length_eq_zero_iff.1 (show vs.length = 0 by omega)
  exact .inl ⟨rfl,rfl⟩
 | some p =>
  refine .inr ⟨p,cap,rfl,fun j u hj => ?_⟩
  have hjl : j < vs.length:=(List.getElem?_eq_some_iff.1 hj).1
  have:=h4 j hjl
  simp only [valAt] at this
  rw [this,← hj]; simp [hjl]
theorem IntsAt.alloc {w : World} {v : Value} {xs : List Int} (h : IntsAt w v xs) (o : Obj) : IntsAt (w.alloc o) v xs:=h.below ((Below.refl _ _).alloc (Nat.le_refl _) _)
/-- append([]T{x}, ys...) in a region that draws. -/
theorem step_under {T E : TypeId} {z : Value} {bytes : Nat} (oc : OneCell T E z bytes) {ops : Array Oper} {o : Oper} {a : Act} {w : World} {K : Act → World → Prop} {Q : Exit → Act → World → Prop} {Ep : Prop}
 (hg : o.guard = none) (s x : Operand) (hop : o.op = Op.call { callee:=Callee.builtin Builtin.append,args:=#[s,x],argTypes:=#[T,T] })
 (b : Nat) (x0 : Value) (hs : a.eval s = .slice (some ⟨b,0,none⟩) 1 1) (hb : w.cell? ⟨b,0,none⟩ = some x0)
 (u : Value) (ys : List Value) (hx : a.eval x = u) (hu : ValsAt w u ys) (h0 : 0 < ys.length) (hl : ys.length ≤ 1000) (h1 : ∀ u ∈ ys,u.oneCell' = true)
 (hK : ∀ v' w',OwnV E w.heap.size w' v' (x0 :: ys) → Below w.heap.size w w' → K (a.put o.dst v') w') :
 if Region.wanted o (yielded ops a.tmps) = true then Oper.wp Tryz.prog o a w K Q else Ep:=by
 obtain ⟨i,hi,hz0,hz1,hz2⟩:=info_parts oc.hi
 rcases hu.split with ⟨_,rfl⟩ | ⟨p,cap,rfl,hc⟩
 ·simp at h0
 ·have hb':=oc.hb
  refine step_append_grows hg s x T hop E i z 1 bytes oc.ht hi hz0 hz1 hz2 (by rw [oc.hz]; rfl) (by decide) (some ⟨b,0,none⟩) 1 1 [x0] hs (fun h => by cases h) rfl
   (fun b' hb2 j u hj => by
     obtain rfl:=Option.some.inj hb2
     obtain ⟨hj1,hj2⟩:=List.getElem?_eq_some_iff.1 hj
     obtain rfl : j = 0:=by simpa using hj1
     simp at hj2; subst hj2
     exact hb) p ys.length cap ys hx (by simp) hc h1 (by omega) (by unfold maxLen; omega) (by
      calc (1 + ys.length) * bytes ≤ 1001 * 32:=Nat.mul_le_mul (by omega) hb'
       _ ≤ _:=by decide) ?_
  intro v' w' hown hgr
  have hv : OwnV E w.heap.size w' v' (x0 :: ys):=by
   unfold OwnV
   rw [show (x0 :: ys).length = 1 + ys.length by simp; omega]
   exact hown
  exact hK v' w' hv ((Below.refl _ _).grown hgr (Nat.le_refl _) (by intro k hk; cases hk))
theorem raw_under_nil (op : ByteArray) (at_ : Int) (w : World) :
 Calls Tryz.prog 35 #[.string op,.int .i64 at_,zErr] w (Ret1 (fun x w' => EOwn w.heap.size w' none x) w):=by
 go_enter Tryz.func35,Tryz.ntmps35
 go_wp2
 refine bodyPost_ret (v:=zErr) (by simp [results,Tryz.results35,go_sem]) rfl ⟨_,rfl,?_,rfl⟩
 exact ((Below.refl _ _).alloc (Nat.le_refl _) _).alloc (by simp) _
end Go.Proofs.YtjiadfblphdchaaGreatDoor
namespace Go.Proofs.YtjiadfblphdchaaGreatDoor
open Go.RowKit
set_option maxRecDepth 100000
theorem ValsAt.shape {w : World} {v : Value} {vs : List Value} (h : ValsAt w v vs) : ∃ a n c,v = .slice a n c:=by
 obtain ⟨a,cap,e,_⟩:=h; exact ⟨_,_,_,e⟩
theorem cell_keep {w w' : World} {b i : Nat} {x : Value} (hb : Below w.heap.size w w') (h : w.cell? ⟨b,i,none⟩ = some x) : w'.cell? ⟨b,i,none⟩ = some x :=
 (hb.cell (p:=⟨b,i,none⟩) (World.block_lt_of_cell? _ _ h)).trans h
theorem cell_alloc {w : World} {b i : Nat} {x : Value} (h : w.cell? ⟨b,i,none⟩ = some x) (o : Obj) : (w.alloc o).cell? ⟨b,i,none⟩ = some x:=cell_keep ((Below.refl _ _).alloc (Nat.le_refl _) _) h
theorem cell_new {w : World} {b : Nat} {x : Value} {T : TypeId} (hb : b = w.heap.size) : (w.alloc (.cells #[x] T)).cell? ⟨b,0,none⟩ = some x:=by subst hb; simp
theorem cell_drew {w : World} {b i : Nat} {x : Value} (h : w.cell? ⟨b,i,none⟩ = some x) : w.drew.cell? ⟨b,i,none⟩ = some x:=h
/-- Three cells of a variable of the call's own. -/
def Box3 (w : World) (b : Nat) (x0 x1 x2 : Value) : Prop:=(w.cell? ⟨b,0,none⟩ = some x0 ∧ w.cell? ⟨b,1,none⟩ = some x1 ∧ w.cell? ⟨b,2,none⟩ = some x2) ∧ w.frozen? ⟨b,0,none⟩ = false ∧ w.frozen? ⟨b,1,none⟩ = false ∧ w.frozen? ⟨b,2,none⟩ = false
theorem Box3.below {w w' : World} {b : Nat} {x0 x1 x2 : Value} (h : Box3 w b x0 x1 x2) (hb : Below w.heap.size w w') : Box3 w' b x0 x1 x2:=by
 obtain ⟨⟨h0,h1,h2⟩,f0,f1,f2⟩:=h
 have hlt:=World.block_lt_of_cell? _ _ h0
 exact ⟨⟨cell_keep hb h0,cell_keep hb h1,cell_keep hb h2⟩,(hb.frozen (p:=⟨b,0,none⟩) hlt).trans f0,(hb.frozen (p:=⟨b,1,none⟩) hlt).trans f1,(hb.frozen (p:=⟨b,2,none⟩) hlt).trans f2⟩
theorem Box3.alloc {w : World} {b : Nat} {x0 x1 x2 : Value} (h : Box3 w b x0 x1 x2) (o : Obj) : Box3 (w.alloc o) b x0 x1 x2:=h.below ((Below.refl _ _).alloc (Nat.le_refl _) _)
theorem Box3.drew {w : World} {b : Nat} {x0 x1 x2 : Value} (h : Box3 w b x0 x1 x2) : Box3 w.drew b x0 x1 x2:=h
theorem OwnV.drew {E : TypeId} {B : Nat} {w : World} {v : Value} {vs : List Value} (h : OwnV E B w v vs) : OwnV E B w.drew v vs:=h
theorem Below.allocL {w w' : World} (h : Below w.heap.size w w') (o : Obj) : Below w.heap.size w (w'.alloc o):=h.alloc h.size o
theorem Below.stepL {w1 w2 w3 : World} (h : Below w1.heap.size w1 w2) (k : Below w2.heap.size w2 w3) : Below w1.heap.size w1 w3:=h.trans (k.mono h.size)
theorem belowAlloc' (w : World) (o : Obj) : Below w.heap.size w (w.alloc o):=(Below.refl _ _).alloc (Nat.le_refl _) _
theorem Below.drewL {w w' : World} {n : Nat} (h : Below n w w') : Below n w w'.drew:=h.drew
set_option maxHeartbeats 1000000 in
theorem raw_under_some (op : ByteArray) (at_ : Int) (n : Int) (l : List (ByteArray × Int)) (v : Value) (w : World) (h : EAt w (some (n,l)) v) (hn : 1 ≤ n) (hl : 1 ≤ l.length) (hl2 : l.length ≤ 1000) :
 Calls Tryz.prog 35 #[.string op,.int .i64 at_,v] w (Ret1 (fun x w' => EOwn w.heap.size w' (under op at_ (some (n,l))) x) w):=by
 obtain ⟨a1,n1,c1,a2,n2,c2,rfl,hv,hi⟩:=h
 have b2:=(Below.refl w.heap.size w).alloc (Nat.le_refl _) (.cells #[.int .i64 n,.slice a1 n1 c1,.slice a2 n2 c2] 37) |>.alloc (by simp) (.cells #[.int .i64 0,.slice none 0 0,.slice none 0 0] 37)
 have hn0 : (n == 0) = false:=by rw [beq_eq_false_iff_ne]; omega
 have hvl : 0 < (l.map fun x => Value.string x.1).length:=by simp; omega
 have hvl2 : (l.map fun x => Value.string x.1).length ≤ 1000:=by simpa using hl2
 have hil : 0 < ((l.map (·.2)).map (Value.int .i64)).length:=by simp; omega
 have hil2 : ((l.map (·.2)).map (Value.int .i64)).length ≤ 1000:=by simpa using hl2
 have hv1 : Hid (∀ u ∈ (l.map fun x => Value.string x.1),u.oneCell' = true):=by intro u hu; obtain ⟨y,_,rfl⟩:=List.mem_map.1 hu; rfl
 have hi1 : Hid (∀ u ∈ ((l.map (·.2)).map (Value.int .i64)),u.oneCell' = true):=by intro u hu; obtain ⟨y,_,rfl⟩:=List.mem_map.1 hu; rfl
 replace hv:=Lib.hid (hv.below b2)
 replace hi:=Lib.hid (hi.below b2).vals
 have hpost : ∀ (a1 : Option Addr) (n1 c1 : Nat) (a2 : Option Addr) (n2 c2 : Nat) (w' : World),OwnV 9 (w.heap.size + 2) w' (.slice a1 n1 c1) (.string op :: l.map fun x => Value.string x.1) → OwnV 3 (w.heap.size + 2) w' (.slice a2 n2 c2) (.int .i64 at_ :: (l.map (·.2)).map (Value.int .i64)) → EOwn w.heap.size w' (under op at_ (some (n,l))) (.agg #[.int .i64 n,.slice a1 n1 c1,.slice a2 n2 c2]) :=
  fun a1 n1 c1 a2 n2 c2 w' h1 h2 => ⟨_,_,_,_,_,_,rfl,h1.mono (by omega),h2.mono (by omega)⟩
 replace hpost:=Lib.hid hpost
 generalize (l.map fun x => Value.string x.1) = LS at *
 generalize ((l.map (·.2)).map (Value.int .i64)) = LI at *
 go_enter Tryz.func35,Tryz.ntmps35
 go_wp2
 have yy : Box3 ((w.alloc (.cells #[.int .i64 n,.slice a1 n1 c1,.slice a2 n2 c2] 37)).alloc (.cells #[.int .i64 0,.slice none 0 0,.slice none 0 0] 37)) (w.heap.size + 1) (.int .i64 0) (.slice none 0 0) (.slice none 0 0):=by simp [Box3,go_sem]
 have z0 : ((w.alloc (.cells #[.int .i64 n,.slice a1 n1 c1,.slice a2 n2 c2] 37)).alloc (.cells #[.int .i64 0,.slice none 0 0,.slice none 0 0] 37)).cell? ⟨w.heap.size,0,none⟩ = some (.int .i64 n):=by simp
 have z1 : ((w.alloc (.cells #[.int .i64 n,.slice a1 n1 c1,.slice a2 n2 c2] 37)).alloc (.cells #[.int .i64 0,.slice none 0 0,.slice none 0 0] 37)).cell? ⟨w.heap.size,1,none⟩ = some (.slice a1 n1 c1):=by simp
 have z2 : ((w.alloc (.cells #[.int .i64 n,.slice a1 n1 c1,.slice a2 n2 c2] 37)).alloc (.cells #[.int .i64 0,.slice none 0 0,.slice none 0 0] 37)).cell? ⟨w.heap.size,2,none⟩ = some (.slice a2 n2 c2):=by simp
 obtain ⟨W,hW⟩ : ∃ W : World,W = ((w.alloc (.cells #[.int .i64 n,.slice a1 n1 c1,.slice a2 n2 c2] 37)).alloc (.cells #[.int .i64 0,.slice none 0 0,.slice none 0 0] 37)):=⟨_,rfl⟩
 have hWs : w.heap.size + 2 ≤ W.heap.size:=by rw [hW]; simp
 rw [← hW] at b2 hv hi yy z0 z1 z2 ⊢
 clear hW
 go_region_held3 (fun w' => w'.cell? ⟨w.heap.size,0,none⟩ = some (.int .i64 n) ∧ w'.cell? ⟨w.heap.size,1,none⟩ = some (.slice a1 n1 c1) ∧ w'.cell? ⟨w.heap.size,2,none⟩ = some (.slice a2 n2 c2))
  (first | exact ⟨z0,z1,z2⟩ | exact ⟨kS0,kS1,kS2⟩ | exact ⟨kI0,kI1,kI2⟩ | (simp [kI0,kI1,kI2,World.cell?_setCell_far]; done) | (simp [kS0,kS1,kS2,World.cell?_setCell_far]; done) | ((refine ⟨?_,?_,?_⟩) <;> (repeat (first | with_reducible exact z0 | with_reducible exact z1 | with_reducible exact z2 | with_reducible exact kS0 | with_reducible exact kS1 | with_reducible exact kS2 | with_reducible exact kI0 | with_reducible exact kI1 | with_reducible exact kI2 | with_reducible refine cell_drew ?_ | with_reducible refine cell_alloc ?_ _))))
  (first
  | (refine step_under oneStrs rfl _ _ rfl _ (.string op) rfl ?_ (.slice a1 n1 c1) LS rfl ?_ hvl hvl2 hv1.out ?_
     ·repeat (first | with_reducible refine cell_drew ?_ | with_reducible refine cell_new (by simp; done) | with_reducible refine cell_alloc ?_ _ | with_reducible refine cell_keep hbI ?_)
     ·repeat (first | with_reducible exact hv.out | with_reducible refine ValsAt.drew ?_ | with_reducible refine ValsAt.alloc ?_ _ | with_reducible refine ValsAt.below ?_ hbI)
     intro vS wS hS hbS
     obtain ⟨sa,sn,sc,rfl⟩:=hS.shape
     have eS : Below W.heap.size W wS:=Below.stepL (by repeat (first | with_reducible exact Below.refl _ _ | with_reducible refine Below.drewL ?_ | with_reducible refine Below.allocL ?_ _)) hbS
     have mS : OwnV 9 (w.heap.size + 2) wS (.slice sa sn sc) (.string op :: LS):=hS.mono (by simp; omega)
     have kS0 : wS.cell? ⟨w.heap.size,0,none⟩ = some (.int .i64 n):=cell_keep hbS (by repeat (first | with_reducible exact z0 | with_reducible exact kI0 | with_reducible refine cell_drew ?_ | with_reducible refine cell_alloc ?_ _))
     have kS1 : wS.cell? ⟨w.heap.size,1,none⟩ = some (.slice a1 n1 c1):=cell_keep hbS (by repeat (first | with_reducible exact z1 | with_reducible exact kI1 | with_reducible refine cell_drew ?_ | with_reducible refine cell_alloc ?_ _))
     have kS2 : wS.cell? ⟨w.heap.size,2,none⟩ = some (.slice a2 n2 c2):=cell_keep hbS (by repeat (first | with_reducible exact z2 | with_reducible exact kI2 | with_reducible refine cell_drew ?_ | with_reducible refine cell_alloc ?_ _))
     have yS : Box3 wS (w.heap.size + 1) (.int .i64 0) (.slice none 0 0) (.slice none 0 0):=Box3.below (by repeat (first | with_reducible exact yy | with_reducible exact yI | with_reducible refine Box3.drew ?_ | with_reducible refine Box3.alloc ?_ _)) hbS
     have yS':=yS
     obtain ⟨⟨qS0,qS1,qS2⟩,gS0,gS1,gS2⟩:=yS')
  | (refine step_under oneInts rfl _ _ rfl _ (.int .i64 at_) rfl ?_ (.slice a2 n2 c2) LI rfl ?_ hil hil2 hi1.out ?_
     ·repeat (first | with_reducible refine cell_drew ?_ | with_reducible refine cell_new (by simp; done) | with_reducible refine cell_alloc ?_ _ | with_reducible refine cell_keep hbS ?_)
     ·repeat (first | with_reducible exact hi.out | with_reducible refine ValsAt.drew ?_ | with_reducible refine ValsAt.alloc ?_ _ | with_reducible refine ValsAt.below ?_ hbS)
     intro vI wI hI hbI
     obtain ⟨ia,im,ic,rfl⟩:=hI.shape
     have eI : Below W.heap.size W wI:=Below.stepL (by repeat (first | with_reducible exact eS | with_reducible refine Below.drewL ?_ | with_reducible refine Below.allocL ?_ _)) hbI
     have mI : OwnV 3 (w.heap.size + 2) wI (.slice ia im ic) (.int .i64 at_ :: LI):=hI.mono (by have:=eS.size; simp; omega)
     have mS' : OwnV 9 (w.heap.size + 2) wI (.slice sa sn sc) (.string op :: LS):=OwnV.below (by repeat (first | with_reducible exact mS | with_reducible refine OwnV.drew ?_ | with_reducible refine OwnV.alloc ?_ _)) hbI
     have kI0 : wI.cell? ⟨w.heap.size,0,none⟩ = some (.int .i64 n):=cell_keep hbI (by repeat (first | with_reducible exact z0 | with_reducible exact kS0 | with_reducible refine cell_drew ?_ | with_reducible refine cell_alloc ?_ _))
     have kI1 : wI.cell? ⟨w.heap.size,1,none⟩ = some (.slice a1 n1 c1):=cell_keep hbI (by repeat (first | with_reducible exact z1 | with_reducible exact kS1 | with_reducible refine cell_drew ?_ | with_reducible refine cell_alloc ?_ _))
     have kI2 : wI.cell? ⟨w.heap.size,2,none⟩ = some (.slice a2 n2 c2):=cell_keep hbI (by repeat (first | with_reducible exact z2 | with_reducible exact kS2 | with_reducible refine cell_drew ?_ | with_reducible refine cell_alloc ?_ _))
     have yI : Box3 wI (w.heap.size + 1) (.int .i64 0) (.slice none 0 0) (.slice none 0 0):=Box3.below (by repeat (first | with_reducible exact yy | with_reducible exact yS | with_reducible refine Box3.drew ?_ | with_reducible refine Box3.alloc ?_ _)) hbI
     have yI':=yI
     obtain ⟨⟨qI0,qI1,qI2⟩,gI0,gI1,gI2⟩:=yI'))
 all_goals
  have hE:=Lib.hid (hpost.out sa sn sc ia im ic _ (((mS'.setBelowBase (a:=⟨w.heap.size + 1,0,none⟩) (by simp) (.int .i64 n)).setBelowBase (a:=⟨w.heap.size + 1,1,none⟩) (by simp) (.slice sa sn sc)).setBelowBase (a:=⟨w.heap.size + 1,2,none⟩) (by simp) (.slice ia im ic)) (((mI.setBelowBase (a:=⟨w.heap.size + 1,0,none⟩) (by simp) (.int .i64 n)).setBelowBase (a:=⟨w.heap.size + 1,1,none⟩) (by simp) (.slice sa sn sc)).setBelowBase (a:=⟨w.heap.size + 1,2,none⟩) (by simp) (.slice ia im ic)))
  have hB:=Lib.hid ((((b2.trans (eI.mono b2.size)).setCell (p:=⟨w.heap.size + 1,0,none⟩) (by simp) (.int .i64 n)).setCell (p:=⟨w.heap.size + 1,1,none⟩) (by simp) (.slice sa sn sc)).setCell (p:=⟨w.heap.size + 1,2,none⟩) (by simp) (.slice ia im ic))
  clear mS mS' mI eS eI kS0 kS1 kS2 kI0 kI1 kI2 yS qS0 qS1 qS2 gS0 gS1 gS2 hS hI hbS hbI
  go_wp2
  exact bodyPost_ret (v:=.agg #[.int .i64 n,.slice sa sn sc,.slice ia im ic]) (by simp [results,Tryz.results35,go_sem,qI0,qI1,qI2]) rfl ⟨_,rfl,hB.out,hE.out⟩
end Go.Proofs.YtjiadfblphdchaaGreatDoor
namespace Go.Proofs.YtjiadfblphdchaaGreatDoor
open Go.RowKit Go.Extern.Stop Go.Stop Go.Extern
set_option maxRecDepth 100000
namespace Errs
theorem typeOfE (v : Value) (w : World) : (ReflectliteType.typeOf #[.iface 255 v]).run Tryz.prog w = .ok (.iface 161 (.agg #[.pointer (some ⟨17,255,none⟩)])) w:=by kernel_rfl
theorem comparableE (w : World) : ((ReflectliteType.method fun t => do Rtype.noPackHeld "Comparable" t; (fun a => Value.bool a.comparable) <$> typeInfo t) #[.agg #[.pointer (some ⟨17, 255, none⟩)]]).run Tryz.prog w = .ok (.bool true) w := by kernel_rfl
theorem methodComparable (v : Value) (w : World) : (Go.method 388 161 v "Comparable").run Tryz.prog w = .ok (214, v) w := by kernel_rfl
theorem compE : (Tryz.prog.info? 255).map (·.comparable) = some true:=by kernel_rfl
theorem sizeE : (Tryz.prog.info? 276).map (·.size) = some 1:=by kernel_rfl
theorem uErr : Tryz.prog.underlying 28 = some (.interface #[("Error", 256)]) := by kernel_rfl
theorem uES : Tryz.prog.underlying 255 = some (.pointer 276):=by kernel_rfl
theorem uIs : Tryz.prog.underlying 163 = some (.interface #[("Is", 165)]) := by kernel_rfl
theorem uUnw : Tryz.prog.underlying 166 = some (.interface #[("Unwrap", 167)]) := by kernel_rfl
theorem noIsF (v : Value) (xT : TypeId) (w : World) : (Instr.typeAssert (.iface 68 v) xT 163 true).run Tryz.prog w = .ok (.tuple #[.nilIface,.bool false]) w:=run_typeAssert_lacksB uIs (by kernel_rfl) (by kernel_rfl) v xT w
theorem hasUnwrapF (v : Value) (xT : TypeId) (w : World) : (Instr.typeAssert (.iface 68 v) xT 166 true).run Tryz.prog w = .ok (.tuple #[.iface 68 v,.bool true]) w:=run_typeAssert_hasB uUnw (by kernel_rfl) v xT w
theorem methodUnwrap (v : Value) (w : World) : (Go.method 388 68 v "Unwrap").run Tryz.prog w = .ok (208, v) w := by kernel_rfl
theorem unwrap_any (p : Nat) (u : Value) (w : World) (h : w.cell? ⟨p,2,none⟩ = some u) :
 Calls Tryz.prog 208 #[.pointer (some ⟨p,0,none⟩)] w fun e w' => e = .returned u ∧ w = w':=by
 go_enter Tryz.func208,Tryz.ntmps208
 go_wp2
 go_ret
 exact ⟨rfl,rfl⟩
set_option maxHeartbeats 800000 in
theorem is_loop (r : Nat → Addr) (n : Int) (l : List (ByteArray × Int)) (v : Value) (w : World) (h : ErrAt r w n l v) :
 Calls Tryz.prog 70 #[v,rootV r n,.bool true] w fun e w' => e = .returned (.bool true) ∧ w = w':=by
 obtain ⟨i,hi,hcmp⟩:=Option.map_eq_some_iff.1 compE
 obtain ⟨j,hj,hjs⟩:=Option.map_eq_some_iff.1 sizeE
 have heq:=run_eql_iface_ptr_same (P:=Tryz.prog) w (r n.toNat) uErr uES hi hcmp hj
 have nF:=noIsF
 have uF:=hasUnwrapF
 have mU:=methodUnwrap
 clear hi hcmp hj hjs
 replace h:=Lib.hid h
 go_enter Tryz.func70,Tryz.ntmps70
 go_wp2
 go_loopg [0] l.length (fun k u wr => wr = w ∧ ∃ l',l'.length = k ∧ ErrAt r w n l' u)
 case atStart => exact ⟨rfl,l,rfl,h.out⟩
 case round =>
  obtain ⟨rfl,l',hl',hu⟩:=hrel
  match l',hl',hu with
  | [],hl',hu =>
   obtain rfl : _ = rootV r n:=hu
   clear hl'
   go_wp2
   go_ret
   exact ⟨rfl,rfl⟩
  | (op,at_) :: rest,hl',hu =>
   obtain ⟨p,u',rfl,c0,c1,c2,hrest⟩:=hu
   obtain ⟨T,a,rfl⟩:=hrest.shape
   have hty:=run_eql_iface_types (P:=Tryz.prog) 68 255 (.pointer (some ⟨p,0,none⟩)) (.pointer (some (r n.toNat))) uErr (by decide) wr
   replace hrest:=Lib.hid hrest
   replace hl':=Lib.hid hl'
   go_wp2_with (go_at_call 208; refine (unwrap_any p _ _ c2).mono ?_; rintro e w' ⟨rfl,rfl⟩)
   go_roundg rest.length
   case measure => have:=hl'.out; simp at this; omega
   case rel => exact ⟨rfl,rest,rfl,hrest.out⟩
/-- errors.Is at a chain of Faults and the error that it ends in. -/
theorem is_any (r : Nat → Addr) (n : Int) (l : List (ByteArray × Int)) (v : Value) (w : World) (h : ErrAt r w n l v) :
 Calls Tryz.prog 37 #[v,rootV r n] w fun e w' => e = .returned (.bool true) ∧ w = w':=by
 have h8:=@run_callFunc_extern Tryz.prog 69 _ Extern.ReflectliteType.typeOf Tryz.func69 (by kernel_rfl) (by kernel_rfl) (by kernel_rfl) (by kernel_rfl)
 have h32 := @run_callFunc_extern Tryz.prog 214 _ (Extern.ReflectliteType.method fun t => do Extern.Rtype.noPackHeld "Comparable" t; pure (.bool (← typeInfo t).comparable)) Tryz.func214 (by kernel_rfl) (by kernel_rfl) (by kernel_rfl) (by kernel_rfl)
 have tT:=typeOfE
 have cT:=comparableE
 have mR:=methodComparable
 obtain ⟨T,a,rfl⟩:=h.shape
 replace h:=Lib.hid h
 go_enter Tryz.func37,Tryz.ntmps37
 go_wp2_with fail
 refine (is_loop r n l _ _ h.out).mono ?_
 rintro e w' ⟨rfl,rfl⟩
 go_wp2
 go_ret
 exact ⟨rfl,rfl⟩
end Errs
end Go.Proofs.YtjiadfblphdchaaGreatDoor
namespace Go.Proofs.YtjiadfblphdchaaGreatDoor
open Go.RowKit Go.Extern.Stop Go.Stop Go.Extern
set_option maxRecDepth 100000
namespace Errs
/-! errors.As at a Fault: the target a *api.Fault variable. -/
theorem uF : Tryz.prog.underlying 68 = some (.pointer 72):=by kernel_rfl
theorem valueOfFF (t : Addr) (w : World) : (ReflectliteValue.unpack (.iface 70 (.pointer (some t)))).run Tryz.prog w
 = .ok (.agg #[.pointer (some ⟨17,70,none⟩),.pointer (some ⟨w.heap.size,0,none⟩),.int .u64 150]) (w.alloc (.cells #[.pointer (some t)] 70)):=by kernel_rfl
theorem typeFF (a : Addr) (w : World) : (ReflectliteValue.methodAny (ReflectliteValue.valueError "reflectlite.Value.Type" 0) (fun t _ _ _ => ReflectliteType.toType t) #[.agg #[.pointer (some ⟨17, 70, none⟩), .pointer (some a), .int .u64 150]]).run Tryz.prog w
 = .ok (.iface 161 (.agg #[.pointer (some ⟨17,70,none⟩)])) w:=by kernel_rfl
theorem methodKind (h : Value) (w : World) : (Go.method 388 161 (.agg #[h]) "Kind").run Tryz.prog w = .ok (204, h) w := by kernel_rfl
theorem kindFF (w : World) : ((ReflectliteType.abiMethod fun t => (fun a : Nat => Value.int IntKind.u8 (a : Int)) <$> Rtype.kind t) #[.pointer (some ⟨17,70,none⟩)]).run Tryz.prog w = .ok (.int .u8 22) w:=by kernel_rfl
theorem kindF (w : World) : ((ReflectliteType.abiMethod fun t => (fun a : Nat => Value.int IntKind.u8 (a : Int)) <$> Rtype.kind t) #[.pointer (some ⟨17,68,none⟩)]).run Tryz.prog w = .ok (.int .u8 22) w:=by kernel_rfl
theorem rlm (z : Sem Value) (f : TypeId → Addr → Nat → Nat → Sem Value) (v : Value) :
 ReflectliteValue.method z f #[v] = (do match ← ReflectliteValue.parts v with | none => z | some (t,a,fl) => f t a fl (fl % 32)):=rfl
theorem partsFF (a : Addr) (w : World) : (ReflectliteValue.parts (.agg #[.pointer (some ⟨17,70,none⟩),.pointer (some a),.int .u64 150])).run Tryz.prog w = .ok (some (70,a,150)) w:=by kernel_rfl
theorem isNilFF (a p : Addr) (W : World) (ha : W.cell? a = some (.pointer (some p))) :
 (ReflectliteValue.method (ReflectliteValue.valueError "reflectlite.Value.IsNil" 0) ReflectliteValue.isNil #[.agg #[.pointer (some ⟨17, 70, none⟩), .pointer (some a), .int .u64 150]]).run Tryz.prog W = .ok (.bool false) W := by
 rw [rlm]
 simp only [Sem.run_bind,partsFF,Result.andThen]
 simp [ReflectliteValue.isNil,loadVar,isAgg,underlying,ha,Result.andThen]
theorem methodElem (h : Value) (w : World) : (Go.method 388 161 (.agg #[h]) "Elem").run Tryz.prog w = .ok (215, .agg #[h]) w := by kernel_rfl
theorem methodImplements (h : Value) (w : World) : (Go.method 388 161 (.agg #[h]) "Implements").run Tryz.prog w = .ok (216, .agg #[h]) w := by kernel_rfl
theorem methodAssignableTo (h : Value) (w : World) : (Go.method 388 161 (.agg #[h]) "AssignableTo").run Tryz.prog w = .ok (213, .agg #[h]) w := by kernel_rfl
theorem elemFF (w : World) : (ReflectliteType.method ReflectliteType.elem #[.agg #[.pointer (some ⟨17,70,none⟩)]]).run Tryz.prog w = .ok (.iface 161 (.agg #[.pointer (some ⟨17,68,none⟩)])) w:=by kernel_rfl
theorem implementsF (w : World) : (ReflectliteType.relation "Implements" ReflectliteType.implements_ #[.agg #[.pointer (some ⟨17, 68, none⟩)], .iface 161 (.agg #[.pointer (some ⟨17, 28, none⟩)])]).run Tryz.prog w = .ok (.bool true) w := by kernel_rfl
theorem typeOfF (v : Value) (w : World) : (ReflectliteType.typeOf #[.iface 68 v]).run Tryz.prog w = .ok (.iface 161 (.agg #[.pointer (some ⟨17,68,none⟩)])) w:=by kernel_rfl
theorem assignableF (w : World) : (ReflectliteType.relation "AssignableTo" ReflectliteType.assignableTo #[.agg #[.pointer (some ⟨17, 68, none⟩)], .iface 161 (.agg #[.pointer (some ⟨17, 68, none⟩)])]).run Tryz.prog w = .ok (.bool true) w := by kernel_rfl
theorem valueOfF (e : Addr) (w : World) : (ReflectliteValue.unpack (.iface 68 (.pointer (some e)))).run Tryz.prog w
 = .ok (.agg #[.pointer (some ⟨17,68,none⟩),.pointer (some ⟨w.heap.size,0,none⟩),.int .u64 150]) (w.alloc (.cells #[.pointer (some e)] 68)):=by kernel_rfl
theorem elemOfFF (w : World) : (Rtype.elem? 70).run Tryz.prog w = .ok (some 68) w:=by kernel_rfl
theorem mkF (p : Addr) (w : World) : (ReflectliteValue.mk 68 p ReflectliteValue.flagAddr).run Tryz.prog w = .ok (.agg #[.pointer (some ⟨17,68,none⟩),.pointer (some p),.int .u64 406]) w:=by kernel_rfl
theorem elemVFF (a p : Addr) (W : World) (ha : W.cell? a = some (.pointer (some p))) :
 (ReflectliteValue.method (ReflectliteValue.valueError "reflectlite.Value.Elem" 0) ReflectliteValue.elem #[.agg #[.pointer (some ⟨17, 70, none⟩), .pointer (some a), .int .u64 150]]).run Tryz.prog W
   = .ok (.agg #[.pointer (some ⟨17,68,none⟩),.pointer (some p),.int .u64 406]) W:=by
 rw [rlm]
 simp only [Sem.run_bind,partsFF,Result.andThen]
 simp [ReflectliteValue.elem,loadVar,isAgg,underlying,ha,Result.andThen,elemOfFF,mkF]
theorem rls (v x : Value) : ReflectliteValue.set #[v,x] = (do
 let (some (dst,a,fl),some (src,b,_)):=(← ReflectliteValue.parts v,← ReflectliteValue.parts x)
  | unsupported (.noEntry "extern/(internal/reflectlite.Value).Set.zeroValue")
 if fl / ReflectliteValue.flagAddr % 2 == 0 then unsupported (.noEntry "extern/(internal/reflectlite.Value).Set.unaddressable")
 let val ← loadVar src b
 if ← Rtype.directlyAssignable dst src then storeVar dst a val
 else if ← Rtype.implements dst src then
  if (← Rtype.kind src) == 20 then
   match val with
   | .nilIface => unsupported (.noEntry "extern/reflectlite: a nil value of one interface type handed on as a value of another")
   | _ => storeVar dst a val
  else storeVar dst a (.iface src val)
 else panicString ("reflectlite.Set: value of type " ++ (← Rtype.spelt src) ++ " is not assignable to type " ++ (← Rtype.spelt dst))
 pure (.tuple #[])):=rfl
theorem partsFa (a : Addr) (w : World) : (ReflectliteValue.parts (.agg #[.pointer (some ⟨17,68,none⟩),.pointer (some a),.int .u64 406])).run Tryz.prog w = .ok (some (68,a,406)) w:=by kernel_rfl
theorem partsF (a : Addr) (w : World) : (ReflectliteValue.parts (.agg #[.pointer (some ⟨17,68,none⟩),.pointer (some a),.int .u64 150])).run Tryz.prog w = .ok (some (68,a,150)) w:=by kernel_rfl
theorem directF (w : World) : (Rtype.directlyAssignable 68 68).run Tryz.prog w = .ok true w:=by kernel_rfl
theorem setF (ta b e : Addr) (old : Value) (W : World) (hb : W.cell? b = some (.pointer (some e))) (ht : W.cell? ta = some old) (hf : W.frozen? ta = false) :
 (ReflectliteValue.set #[.agg #[.pointer (some ⟨17,68,none⟩),.pointer (some ta),.int .u64 406],.agg #[.pointer (some ⟨17,68,none⟩),.pointer (some b),.int .u64 150]]).run Tryz.prog W
   = .ok (.tuple #[]) (W.setCell ta (.pointer (some e))):=by
 rw [rls]
 simp only [Sem.run_bind,partsFa,partsF,Result.andThen]
 simp [ReflectliteValue.flagAddr,loadVar,isAgg,underlying,hb,Result.andThen,directF,storeVar,Value.cells,storeCells,Addr.add]
 rw [run_store Tryz.prog W ta _ _ (by rfl)]
 simp [ht,hf]
end Errs
end Go.Proofs.YtjiadfblphdchaaGreatDoor
namespace Go.Proofs.YtjiadfblphdchaaGreatDoor
open Go.RowKit Go.Extern.Stop Go.Stop Go.Extern
set_option maxRecDepth 100000
namespace Errs
set_option maxHeartbeats 4000000 in
theorem as_hit (e t : Addr) (old : Value) (w : World) (hg : w.cell? ⟨12,0,none⟩ = some (.iface 161 (.agg #[.pointer (some ⟨17,28,none⟩)]))) (ht0 : w.cell? t = some old) (hf0 : w.frozen? t = false) :
 Calls Tryz.prog 39 #[.iface 68 (.pointer (some e)),.iface 70 (.pointer (some t))] w fun ev w' => ev = .returned (.bool true) ∧ w' = ((((w.alloc (.cells #[.pointer (some t)] 70)).alloc (.cells #[.pointer (some ⟨17,70,none⟩),.pointer (some ⟨w.heap.size,0,none⟩),.int .u64 150] 115)).alloc (.cells #[.pointer (some ⟨17,70,none⟩),.pointer (some ⟨w.heap.size,0,none⟩),.int .u64 150] 115)).alloc (.cells #[.pointer (some e)] 68)).setCell t (.pointer (some e)):=by
 have h6:=@run_callFunc_extern Tryz.prog 71 _ (fun args => ReflectliteValue.unpack (args.getD 0 (.tuple #[]))) Tryz.func71 (by kernel_rfl) (by kernel_rfl) (by kernel_rfl) (by kernel_rfl)
 have h7 := @run_callFunc_extern Tryz.prog 72 _ (ReflectliteValue.methodAny (ReflectliteValue.valueError "reflectlite.Value.Type" 0) (fun t _ _ _ => ReflectliteType.toType t)) Tryz.func72 (by kernel_rfl) (by kernel_rfl) (by kernel_rfl) (by kernel_rfl)
 have h8 := @run_callFunc_extern Tryz.prog 73 _ (ReflectliteValue.method (ReflectliteValue.valueError "reflectlite.Value.IsNil" 0) ReflectliteValue.isNil) Tryz.func73 (by kernel_rfl) (by kernel_rfl) (by kernel_rfl) (by kernel_rfl)
 have h27:=@run_callFunc_extern Tryz.prog 204 _ (ReflectliteType.abiMethod fun t => do pure (.int .u8 (← Rtype.kind t))) Tryz.func204 (by kernel_rfl) (by kernel_rfl) (by kernel_rfl) (by kernel_rfl)
 have h37:=@run_callFunc_extern Tryz.prog 215 _ (ReflectliteType.method ReflectliteType.elem) Tryz.func215 (by kernel_rfl) (by kernel_rfl) (by kernel_rfl) (by kernel_rfl)
 have h38 := @run_callFunc_extern Tryz.prog 216 _ (ReflectliteType.relation "Implements" ReflectliteType.implements_) Tryz.func216 (by kernel_rfl) (by kernel_rfl) (by kernel_rfl) (by kernel_rfl)
 have h10:=@run_callFunc_extern Tryz.prog 69 _ ReflectliteType.typeOf Tryz.func69 (by kernel_rfl) (by kernel_rfl) (by kernel_rfl) (by kernel_rfl)
 have h35 := @run_callFunc_extern Tryz.prog 213 _ (ReflectliteType.relation "AssignableTo" ReflectliteType.assignableTo) Tryz.func213 (by kernel_rfl) (by kernel_rfl) (by kernel_rfl) (by kernel_rfl)
 have h11 := @run_callFunc_extern Tryz.prog 110 _ (ReflectliteValue.method (ReflectliteValue.valueError "reflectlite.Value.Elem" 0) ReflectliteValue.elem) Tryz.func110 (by kernel_rfl) (by kernel_rfl) (by kernel_rfl) (by kernel_rfl)
 have h12:=@run_callFunc_extern Tryz.prog 111 _ ReflectliteValue.set Tryz.func111 (by kernel_rfl) (by kernel_rfl) (by kernel_rfl) (by kernel_rfl)
 have tO:=typeOfF
 have mA:=methodAssignableTo
 have aF:=assignableF
 have vF:=valueOfF
 have f6:=valueOfFF
 have f7:=typeFF
 have mK:=methodKind
 have mE:=methodElem
 have mI:=methodImplements
 have kFF:=kindFF
 have kF:=kindF
 have eFF:=elemFF
 have iF:=implementsF
 have n8:=isNilFF ⟨w.heap.size,0,none⟩ t ((w.alloc (.cells #[.pointer (some t)] 70)).alloc (.cells #[.pointer (some ⟨17,70,none⟩),.pointer (some ⟨w.heap.size,0,none⟩),.int .u64 150] 115)) (by simp)
 have hlt : 12 < w.heap.size:=World.block_lt_of_cell? _ _ hg
 have hg2 : ((w.alloc (.cells #[.pointer (some t)] 70)).alloc (.cells #[.pointer (some ⟨17,70,none⟩),.pointer (some ⟨w.heap.size,0,none⟩),.int .u64 150] 115)).cell? ⟨12,0,none⟩ = some (.iface 161 (.agg #[.pointer (some ⟨17,28,none⟩)])):=by
  rw [World.cell?_alloc_lt _ _ ⟨12,0,none⟩ (by simp; omega),World.cell?_alloc_lt _ _ ⟨12,0,none⟩ hlt]; exact hg
 have htl : t.block < w.heap.size:=World.block_lt_of_cell? _ _ ht0
 have el:=elemVFF ⟨w.heap.size,0,none⟩ t (((w.alloc (.cells #[.pointer (some t)] 70)).alloc (.cells #[.pointer (some ⟨17,70,none⟩),.pointer (some ⟨w.heap.size,0,none⟩),.int .u64 150] 115)).alloc (.cells #[.pointer (some ⟨17,70,none⟩),.pointer (some ⟨w.heap.size,0,none⟩),.int .u64 150] 115)) (by rw [World.cell?_alloc_lt _ _ ⟨w.heap.size,0,none⟩ (by simp; omega)]; simp)
 have st:=setF t ⟨w.heap.size + 1 + 1 + 1,0,none⟩ e old ((((w.alloc (.cells #[.pointer (some t)] 70)).alloc (.cells #[.pointer (some ⟨17,70,none⟩),.pointer (some ⟨w.heap.size,0,none⟩),.int .u64 150] 115)).alloc (.cells #[.pointer (some ⟨17,70,none⟩),.pointer (some ⟨w.heap.size,0,none⟩),.int .u64 150] 115)).alloc (.cells #[.pointer (some e)] 68))
  (by rw [World.cell?_alloc_at _ _ _ _ (by simp)]; rfl)
  (by rw [World.cell?_alloc_lt _ _ t (by simp; omega),World.cell?_alloc_lt _ _ t (by simp; omega),World.cell?_alloc_lt _ _ t (by simp; omega),World.cell?_alloc_lt _ _ t htl]; exact ht0)
  (by rw [World.frozen?_alloc_old _ _ t (by simp; omega),World.frozen?_alloc_old _ _ t (by simp; omega),World.frozen?_alloc_old _ _ t (by simp; omega),World.frozen?_alloc_old _ _ t (Nat.ne_of_lt htl)]; exact hf0)
 go_enter Tryz.func39,Tryz.ntmps39
 go_wp2
 refine wp_loop_rounds 1 ?_
 rw [rounds_succ]
 go_wp2
 go_ret
 exact ⟨rfl,rfl⟩
/-- errors.As at a Fault and a variable of the call's own: the variable holds the Fault; nothing else that was there has changed. -/
theorem as_any (e t : Addr) (old : Value) (w : World) (hg : w.cell? ⟨12,0,none⟩ = some (.iface 161 (.agg #[.pointer (some ⟨17,28,none⟩)]))) (ht0 : w.cell? t = some old) (hf0 : w.frozen? t = false) :
 Calls Tryz.prog 39 #[.iface 68 (.pointer (some e)),.iface 70 (.pointer (some t))] w fun ev w' => ev = .returned (.bool true) ∧ ∃ w1,Below w.heap.size w w1 ∧ w' = w1.setCell t (.pointer (some e)) :=
 (as_hit e t old w hg ht0 hf0).mono fun _ _ ⟨h1,h2⟩ => ⟨h1,_,((((Below.refl _ _).alloc (Nat.le_refl _) _).alloc (by simp) _).alloc (by simp; omega) _).alloc (by simp; omega) _,h2⟩
end Errs
end Go.Proofs.YtjiadfblphdchaaGreatDoor
namespace Go.Proofs.YtjiadfblphdchaaGreatDoor
open Go.RowKit
set_option maxRecDepth 100000
/-- errors.errorType holds the handle of the type error. -/
def GlobE (w : World) : Prop:=w.cell? ⟨12,0,none⟩ = some (.iface 161 (.agg #[.pointer (some ⟨17,28,none⟩)]))
theorem GlobE.below {w w' : World} (h : GlobE w) (hb : Below w.heap.size w w') : GlobE w':=cell_keep hb h
/-- An error's number and length are as every error's. -/
def PErr.Fine (t : PErr) : Prop:=match t with | none => True | some (n,l) => 1 ≤ n ∧ n ≤ 11 ∧ l.length ≤ 1000
theorem takeD {P : Program} {ops : Array Oper} {Q : Exit → Act → World → Prop} {md : Region.Mode} {S : World → Prop} {i : Nat} {oi : Oper} {v : Value} {fuel : Nat} {listed : Array Bool} {a : Act} {w : World} (d : Option Tmp) (hi : ops[i]? = some oi) (hd : oi.dst = d)
 (hs : Region.noSelect ops = true) (hf : Region.free md ops listed i = true) (hr : (Region.ready md ops listed).contains i = true)
 (hQ : ∀ c a w,Q (.panic c) (a.put d v) w → Q (.panic c) a w) (hy : YieldsIf P ops S oi v a) (hS : S w)
 (h : wpAnyH P md ops Q S fuel (listed.setIfInBounds i true) (a.put d v) w) : wpAnyH P md ops Q S (fuel + 1) listed a w:=by
 subst hd
 exact wpAnyH_take hi hs hf hr hQ hy hS h
theorem takeA {P : Program} {ops : Array Oper} {Q : Exit → Act → World → Prop} {md : Region.Mode} {i : Nat} {oi : Oper} {v : Value} {fuel : Nat} {listed : Array Bool} {a : Act} {w : World} (d : Option Tmp) (hi : ops[i]? = some oi) (hd : oi.dst = d)
 (hs : Region.noSelect ops = true) (hf : Region.free md ops listed i = true) (hr : (Region.ready md ops listed).contains i = true)
 (hQ : ∀ c a w,Q (.panic c) (a.put d v) w → Q (.panic c) a w) (hy : Yields P ops oi v a)
 (h : wpAny P md ops Q fuel (listed.setIfInBounds i true) (a.put d v) w) : wpAny P md ops Q (fuel + 1) listed a w:=by
 subst hd
 exact wpAny_take hi hs hf hr hQ hy h
/-- takeD in one line: what comes up and the new state are reckoned. -/
theorem pqD {P : Program} {ops : Array Oper} {Q : Exit → Act → World → Prop} {md : Region.Mode} {S : World → Prop} {oi : Oper} {v : Value} {fuel : Nat} {listed : Array Bool} {a a' : Act} {w : World} (i : Nat) (d : Tmp) (hS : S w)
 (h : wpAnyH P md ops (NoPanic Q) S fuel (listed.setIfInBounds i true) a' w) (hi : ops[i]? = some oi:=by exact rfl) (hd : oi.dst = some d:=by exact rfl)
 (hs : Region.noSelect ops = true:=by kernel_rfl) (hf : Region.free md ops listed i = true:=by kernel_rfl) (hr : (Region.ready md ops listed).contains i = true:=by kernel_rfl)
 (hw : Region.wanted oi (yielded ops a.tmps) = true:=by rfl) (hy : ∀ W,S W → (execOp a.eval oi).run P W = .ok (.value v) W:=by intro W' hs; (try subst hs); go_simp; (try with_reducible rfl)) (ha : a.put (some d) v = a':=by simp only [pq]; exact rfl) :
 wpAnyH P md ops (NoPanic Q) S (fuel + 1) listed a w:=by
 subst ha; exact takeD (some d) hi hd hs hf hr (fun _ _ _ h => h) (.inl ⟨hw,hy⟩) hS h
/-- takeA in one line. -/
theorem pqA {P : Program} {ops : Array Oper} {Q : Exit → Act → World → Prop} {md : Region.Mode} {oi : Oper} {v : Value} {fuel : Nat} {listed : Array Bool} {a a' : Act} {w : World} (i : Nat) (d : Tmp)
 (h : wpAny P md ops (NoPanic Q) fuel (listed.setIfInBounds i true) a' w) (hi : ops[i]? = some oi:=by exact rfl) (hd : oi.dst = some d:=by exact rfl)
 (hs : Region.noSelect ops = true:=by kernel_rfl) (hf : Region.free md ops listed i = true:=by kernel_rfl) (hr : (Region.ready md ops listed).contains i = true:=by kernel_rfl)
 (hw : Region.wanted oi (yielded ops a.tmps) = true:=by rfl) (hy : ∀ W,(execOp a.eval oi).run P W = .ok (.value v) W:=by intro W'; go_simp; (try with_reducible rfl)) (ha : a.put (some d) v = a':=by simp only [pq]; exact rfl) :
 wpAny P md ops (NoPanic Q) (fuel + 1) listed a w:=by
 subst ha; exact takeA (some d) hi hd hs hf hr (fun _ _ _ h => h) (.inl ⟨hw,hy⟩) h
/-- errors.As at a Fault and a variable just laid: the variable holds the Fault; all that was there before it is as it was. -/
theorem as_keep (q : Addr) (wo wv w : World) (bv : Below wo.heap.size wo wv) (hw : w = wv.drew) (hG : GlobE wv) (zt : wv.cell? ⟨wo.heap.size,0,none⟩ = some (.pointer none)) (ft : wv.frozen? ⟨wo.heap.size,0,none⟩ = false) :
 Calls Tryz.prog 39 #[.iface 68 (.pointer (some q)),.iface 70 (.pointer (some ⟨wo.heap.size,0,none⟩))] w fun e w' => e = .returned (.bool true) ∧ w'.cell? ⟨wo.heap.size,0,none⟩ = some (.pointer (some q)) ∧ Below wo.heap.size wo w':=by
 subst hw
 refine (Errs.as_any q ⟨wo.heap.size,0,none⟩ (.pointer none) wv.drew hG zt ft).mono ?_
 rintro e w6 ⟨rfl,w5,hb5,rfl⟩
 have h5 : Below wv.heap.size wv w5:=((Below.refl wv.heap.size wv).drew).trans hb5
 refine ⟨rfl,World.cell?_setCell_same _ _ _ (cell_keep h5 zt),(Below.stepL bv h5).setCell (p:=⟨wo.heap.size,0,none⟩) (Nat.le_refl _) _⟩
theorem raw_is_none (w : World) :
 Calls Tryz.prog 16 #[.nilIface,zErr] w (Ret1 (fun x _ => x = .bool true) w):=by
 go_enter Tryz.func16,Tryz.ntmps16
 go_wp2
 go_ret
 exact ⟨_,rfl,belowAlloc' _ _,rfl⟩
set_option maxHeartbeats 1000000 in
theorem raw_is_some (r : Nat → Addr) (n : Int) (l : List (ByteArray × Int)) (v e : Value) (w : World) (hg : Glob r w) (hG : GlobE w) (hv : ErrAt r w n l v) (he : EAt w (some (n,l)) e) (h1 : 1 ≤ n) (h11 : n ≤ 11) (hl : l.length ≤ 1000) :
 Calls Tryz.prog 16 #[v,e] w (Ret1 (fun x _ => x = .bool true) w):=by
 obtain ⟨a1,n1,c1,a2,n2,c2,rfl,hs,hi⟩:=he
 have b0:=belowAlloc' w (.cells #[.int .i64 n,.slice a1 n1 c1,.slice a2 n2 c2] 37)
 have hn0 : (n == 0) = false:=by rw [beq_eq_false_iff_ne]; omega
 obtain ⟨T,p,rfl⟩:=hv.shape
 replace hv:=Lib.hid (hv.below b0)
 have hg0:=Lib.hid hg
 replace hg:=Lib.hid (hg.below b0)
 replace hG:=Lib.hid (hG.below b0)
 have hsl:=hs.len oneStrs
 rw [List.length_map] at hsl
 replace hs:=Lib.hid (hs.below b0)
 replace hi:=Lib.hid (hi.below b0)
 go_enter Tryz.func16,Tryz.ntmps16
 go_wp2_with fail
 refine (raw_root r n _ hg.out h1 h11).mono ?_
 rintro e w1 ⟨rfl,rfl⟩
 go_wp2_with fail
 refine (Errs.is_any r n l _ _ hv.out).mono ?_
 rintro e w1 ⟨rfl,rfl⟩
 have z : (w.alloc (.cells #[.int .i64 n,.slice a1 n1 c1,.slice a2 n2 c2] 37)).cell? ⟨w.heap.size,0,none⟩ = some (.int .i64 n) ∧ (w.alloc (.cells #[.int .i64 n,.slice a1 n1 c1,.slice a2 n2 c2] 37)).cell? ⟨w.heap.size,1,none⟩ = some (.slice a1 n1 c1) ∧ (w.alloc (.cells #[.int .i64 n,.slice a1 n1 c1,.slice a2 n2 c2] 37)).cell? ⟨w.heap.size,2,none⟩ = some (.slice a2 n2 c2):=by simp
 obtain ⟨W,hW⟩ : ∃ W : World,W = w.alloc (.cells #[.int .i64 n,.slice a1 n1 c1,.slice a2 n2 c2] 37):=⟨_,rfl⟩
 rw [← hW] at hv hg hG hs hi z b0 ⊢
 clear hW
 replace z:=Lib.hid z
 go_wp2
 go_loopw [0,5] (fun u i wr => ∃ k : Nat,k ≤ l.length ∧ i = .int .i64 k ∧ ErrAt r wr n (l.drop k) u ∧ Below W.heap.size W wr) (fun _ i _ => l.length - (intOf i).toNat)
 case atStart => exact ⟨0,by omega,rfl,hv.out,Below.refl _ _⟩
 case round =>
  obtain ⟨k,hk,rfl,hu,hB⟩:=hrel
  obtain ⟨wo,rfl⟩ : ∃ wo : World,wo = wr:=⟨_,rfl⟩
  obtain ⟨z0,z1,z2⟩:=keep3 hB z.out
  by_cases hkl : k < l.length
  ·have hd : l.drop k = l[k] :: l.drop (k + 1):=List.drop_eq_getElem_cons hkl
   rw [hd] at hu
   generalize hlk : l[k] = x at hu
   obtain ⟨op,at_⟩:=x
   obtain ⟨q,u',rfl,d0,d1,d2,hrest⟩:=hu
   have hs':=hs.out.below hB
   have hi':=hi.out.below hB
   have i1:=hs'.idx oneStrs k (by simpa using hkl)
   have e1:=hs'.cell k (by simpa using hkl)
   have i2:=hi'.idx k (by simpa using hkl)
   have e2:=hi'.cell k (by simpa using hkl)
   simp only [List.getElem_map,hlk] at e1 e2
   replace hd:=Lib.hid hd
   replace hlk:=Lib.hid hlk
   replace hrest:=Lib.hid hrest
   clear hs' hi'
   have gE:=Lib.hid (hG.out.below hB)
   generalize valAt (.slice a1 n1 c1) k = A1 at i1 e1
   generalize valAt (.slice a2 n2 c2) k = A2 at i2 e2
   have bv:=belowAlloc' wo (.cells #[.pointer none] 68)
   have y1:=cell_keep bv z1
   have y2:=cell_keep bv z2
   have g0:=cell_keep bv d0
   have g1:=cell_keep bv d1
   have s1:=(bv.cell (World.block_lt_of_cell? _ _ e1)).trans e1
   have s2:=(bv.cell (World.block_lt_of_cell? _ _ e2)).trans e2
   have zt : (wo.alloc (.cells #[.pointer none] 68)).cell? ⟨wo.heap.size,0,none⟩ = some (.pointer none):=by simp
   have ft : (wo.alloc (.cells #[.pointer none] 68)).frozen? ⟨wo.heap.size,0,none⟩ = false:=by simp
   have gv:=Lib.hid (gE.out.below bv)
   go_wp2
   obtain ⟨wv,hwv⟩ : ∃ W : World,W = wo.alloc (.cells #[.pointer none] 68):=⟨_,rfl⟩
   rw [← hwv] at bv y1 y2 g0 g1 s1 s2 zt ft gv ⊢
   clear hwv
   replace z0:=Lib.hid z0
   replace z1:=Lib.hid z1
   replace z2:=Lib.hid z2
   replace d0:=Lib.hid d0
   replace d1:=Lib.hid d1
   replace d2:=Lib.hid d2
   replace e1:=Lib.hid e1
   replace e2:=Lib.hid e2
   refine wp_region_noPanic ?_
   refine wp_region_any (by kernel_rfl) ?_
   change wpAny _ _ _ _ _ _ _ (World.drew _)
   refine pqA 0 29 ?_
   refine pqA 1 30 ?_
   refine wpAny_ready (rs:=[2]) (by kernel_rfl) (by simp) (AllReady.cons rfl (fun K hK => ?_) AllReady.nil)
   go_simp
   go_at_call 39
   refine (as_keep ⟨q,0,none⟩ wo wv _ bv rfl gv.out zt ft).mono ?_
   rintro e w6 ⟨rfl,p0,b6⟩
   refine hK _ _ ?_
   clear hK K y1 y2 g0 g1 s1 s2
   have p1:=cell_keep b6 z1.out
   have p2:=cell_keep b6 z2.out
   have p3:=cell_keep b6 d0.out
   have p4:=cell_keep b6 d1.out
   have p5:=(b6.cell (World.block_lt_of_cell? _ _ e1.out)).trans e1.out
   have p6:=(b6.cell (World.block_lt_of_cell? _ _ e2.out)).trans e2.out
   have p7:=cell_keep b6 d2.out
   refine wpAny_of_held (S:=fun w' => w' = w6) _ _ _ _ ?_
   refine pqD 3 32 rfl ?_
   refine pqD 4 33 rfl ?_
   refine pqD 5 34 rfl ?_
   refine pqD 6 35 rfl ?_
   refine pqD 7 36 rfl ?_
   refine pqD 8 37 rfl ?_
   refine pqD 9 38 rfl ?_
   refine pqD 10 39 rfl ?_
   refine pqD 11 40 rfl ?_
   refine pqD 12 41 rfl ?_
   refine pqD 13 42 rfl ?_
   refine pqD 14 43 rfl ?_
   refine pqD 15 44 rfl ?_
   refine pqD 16 45 rfl ?_
   refine pqD 17 46 rfl ?_
   refine pqD 18 47 rfl ?_
   refine pqD 19 48 rfl ?_
   refine pqD 20 49 rfl ?_
   refine pqD 21 50 rfl ?_
   refine pqD 22 51 rfl ?_
   refine pqD 23 52 rfl ?_
   refine pqD 24 53 rfl ?_
   refine pqD 25 54 rfl ?_
   refine pqD 26 55 rfl ?_
   refine pqD 27 56 rfl ?_
   refine pqD 28 57 rfl ?_
   refine pqD 29 58 rfl ?_
   refine pqD 30 59 rfl ?_
   refine pqD 31 60 rfl ?_
   refine wpAnyH_done (by kernel_rfl) ?_ _
   refine NoPanic.normal ?_
   have hr6:=Lib.hid (hrest.out.below b6)
   have hB6:=Lib.hid (Below.stepL hB b6)
   clear p1 p2 p3 p4 p5 p6
   go_wp2
   go_roundw
   case rel => exact ⟨k + 1,by omega,by go_num,hr6.out,hB6.out⟩
   case measure => simp [intOf]; omega
  ·obtain rfl : k = l.length:=by omega
   rw [List.drop_length] at hu
   obtain rfl : _ = rootV r n:=hu
   obtain ⟨i,hi,hcmp⟩:=Option.map_eq_some_iff.1 Errs.compE
   obtain ⟨j,hj,hjs⟩:=Option.map_eq_some_iff.1 Errs.sizeE
   have heq:=run_eql_iface_ptr_same (P:=Tryz.prog) wo (r n.toNat) Errs.uErr Errs.uES hi hcmp hj
   clear hi hcmp hj hjs
   have hgo:=Lib.hid (hg.out.below hB)
   have hBf:=Lib.hid (Below.stepL b0 hB)
   go_wp2_with fail
   refine (raw_root r n _ hgo.out h1 h11).mono ?_
   rintro e w1 ⟨rfl,rfl⟩
   go_wp2
   go_ret
   exact ⟨_,rfl,hBf.out,rfl⟩
/-- edenraw.Is at an error that is what it must be. -/
theorem raw_is (r : Nat → Addr) (t : PErr) (v e : Value) (w : World) (hg : Glob r w) (hG : GlobE w) (hv : ErrIs r w t v) (he : EAt w t e) (ht : t.Fine) :
 Calls Tryz.prog 16 #[v,e] w (Ret1 (fun x _ => x = .bool true) w):=by
 match t,hv,he,ht with
 | none,hv,he,_ =>
  obtain rfl:=ErrIs.none_eq hv
  obtain rfl : e = zErr:=he
  exact raw_is_none w
 | some (n,l),hv,he,⟨h1,h11,hl⟩ => exact raw_is_some r n l v e w hg hG hv he h1 h11 hl
/-- edenraw.Under at any error. -/
theorem raw_under (op : ByteArray) (at_ : Int) (t : PErr) (v : Value) (w : World) (h : EAt w t v) (ht : ∀ n l,t = some (n,l) → 1 ≤ n ∧ 1 ≤ l.length ∧ l.length ≤ 1000) :
 Calls Tryz.prog 35 #[.string op,.int .i64 at_,v] w (Ret1 (fun x w' => EOwn w.heap.size w' (under op at_ t) x) w):=by
 match t,h,ht with
 | none,h,_ =>
  obtain rfl : v = zErr:=h
  exact raw_under_nil op at_ w
 | some (n,l),h,ht =>
  obtain ⟨h1,h2,h3⟩:=ht n l rfl
  exact raw_under_some op at_ n l v w h h1 h2 h3
end Go.Proofs.YtjiadfblphdchaaGreatDoor
namespace Go.Proofs.YtjiadfblphdchaaGreatDoor
theorem emod_nat {a : Int} {n : Nat} (hn : 1 ≤ n) : ∃ m : Nat,m < n ∧ a % (n : Int) = m:=by
 have h1:=Int.emod_nonneg a (show (n : Int) ≠ 0 by omega)
 have h2:=Int.emod_lt_of_pos a (show (0 : Int) < n by omega)
 exact ⟨(a % (n : Int)).toNat,by omega,by omega⟩
theorem getD_syms {K : Int} {x : List Int} (h : Syms K x) {i : Nat} (hi : i < x.length) : 0 ≤ x.getD i 0 ∧ x.getD i 0 < K:=by
 have e : x.getD i 0 = x[i]:=by simp [List.getD,hi]
 rw [e]; exact h _ (List.getElem_mem hi)
end Go.Proofs.YtjiadfblphdchaaGreatDoor
namespace Go.Proofs.YtjiadfblphdchaaGreatDoor
section
variable {P : Program} {ops : Array Oper} {Q : Exit → Act → World → Prop} {md : Region.Mode} {S : World → Prop}
/-- Whatever order is picked from here on; behind an operation of the head the fact S holds. -/
def wpAnyT (P : Program) (md : Region.Mode) (ops : Array Oper) (Q : Exit → Act → World → Prop) (S : World → Prop) (n : Nat) : Nat → Array Bool → Act → World → Prop
 | 0,listed,a,w => Region.ready md ops listed = [] ∧ Q .normal a w
 | fuel + 1,listed,a,w =>
  (Region.ready md ops listed = [] → Q .normal a w) ∧
  ∀ i ∈ Region.ready md ops listed,wpOp P ops Q i (fun a' w' => (i < n → S w') ∧ wpAnyT P md ops Q S n fuel (listed.setIfInBounds i true) a' w') a w
theorem wpAny_of_T {n : Nat} : ∀ (fuel : Nat) (listed : Array Bool) (a : Act) (w : World),wpAnyT P md ops Q S n fuel listed a w → wpAny P md ops Q fuel listed a w
 | 0,_,_,_,h => h
 | fuel + 1,_,_,_,h => ⟨h.1,fun i hi => wpOp_mono (fun a' w' h' => wpAny_of_T fuel _ a' w' h'.2) (h.2 i hi)⟩
/-- Where the whole head has come up, it is a wpAny. -/
theorem wpAnyT_of {n : Nat} : ∀ (fuel : Nat) (listed : Array Bool) (a : Act) (w : World),(∀ j,j < n → listed.getD j true = true) → wpAny P md ops Q fuel listed a w → wpAnyT P md ops Q S n fuel listed a w
 | 0,_,_,_,_,h => h
 | fuel + 1,listed,a,w,hl,h => ⟨h.1,fun i hi => wpOp_mono (fun a' w' h' => ⟨fun hin => Bool.noConfusion ((hl i hin).symm.trans (mem_ready.1 hi).1),wpAnyT_of fuel _ a' w' (fun j hj => by
  by_cases hij : i = j
  ·subst hij
   rcases Nat.lt_or_ge i listed.size with h2 | h2
   ·simp [h2]
   ·rw [Array.getD_eq_getD_getElem?,Array.getElem?_eq_none (by simpa using h2)]; rfl
  ·rw [getD_set_ne true hij]; exact hl j hj) h'⟩) (h.2 i hi)⟩
theorem wpAnyT_first {n i : Nat} {oi : Oper} {v : Value} (hi : ops[i]? = some oi) (hsel : ∀ (j : Nat) (o : Oper) cs b,ops[j]? = some o → o.op ≠ .select cs b)
 (hs : Region.sinkB md ops n = true) (hc : Region.chainB md ops n = true) (hn : n < ops.size) (hin : i < n)
 (hQ : ∀ c a w,Q (.panic c) (a.put oi.dst v) w → Q (.panic c) a w) :
 ∀ (fuel : Nat) (listed : Array Bool) (a : Act) (w : World),HeadInv md ops n listed →
  (∀ j oj,ops[j]? = some oj → j ≠ i → listed.getD j true = false → (∀ e ∈ oj.after,Region.binds md e = true → e.on ≠ i) → oi.apart ops oj = true) →
  i ∈ Region.ready md ops listed → YieldsIf P ops S oi v a → S w →
  wpAnyT P md ops Q S n fuel (listed.setIfInBounds i true) (a.put oi.dst v) w → wpAnyT P md ops Q S n (fuel + 1) listed a w:=by
 intro fuel
 induction fuel with
 | zero =>
  intro listed a w inv _ hr hy hS H
  refine ⟨fun h => (by rw [h] at hr; cases hr),fun j hj => ?_⟩
  by_cases hji : j = i
  ·subst hji; exact hy.wpOp hi hS ⟨fun _ => hS,H⟩
  ·have:=ready_mono hj hji
   rw [H.1] at this
   cases this
 | succ fuel ih =>
  intro listed a w inv hfree hr hy hS H
  have hun:=(mem_ready.1 hr).1
  refine ⟨fun h => (by rw [h] at hr; cases hr),fun j hj => ?_⟩
  have hjn : j < n:=by
   rcases Nat.lt_or_ge j n with h | h
   ·exact h
   ·exact absurd hj (tail_waits hs hc hn inv _ i rfl hin hun j h)
  by_cases hji : j = i
  ·subst hji; exact hy.wpOp hi hS ⟨fun _ => hS,H⟩
  ·have h1:=H.2 j (ready_mono hj hji)
   obtain ⟨hjun,oj,hoj,hall⟩:=mem_ready.1 hj
   have hnot : ∀ e ∈ oj.after,Region.binds md e = true → e.on ≠ i:=fun e he hb heq => by
    have h1:=hall e he hb
    rw [heq,getD_both hun] at h1
    cases h1
   have h2:=wpOp_putIf hoj (hfree j oj hoj hji hjun hnot) (fun cs b => hsel i oi cs b hi) (fun cs b => hsel j oj cs b hoj) hQ hy h1
   have hfree' : ∀ k ok,ops[k]? = some ok → k ≠ i → (listed.setIfInBounds j true).getD k true = false →
    (∀ e ∈ ok.after,Region.binds md e = true → e.on ≠ i) → oi.apart ops ok = true:=fun k ok hk hki hun hno => by
    refine hfree k ok hk hki ?_ hno
    by_cases hjk : j = k
    ·subst hjk; exact hjun
    ·rw [getD_set_ne true hjk] at hun; exact hun
   refine wpOp_mono (fun a' w' h3 => ⟨fun _ => h3.2.1 hjn,ih (listed.setIfInBounds j true) a' w' (inv.set hj hjn) hfree' (ready_mono hr (Ne.symm hji)) h3.1 (h3.2.1 hjn) ?_⟩) h2
   rw [Array.setIfInBounds_comm _ _ hji]
   exact h3.2.2
/-- The head's operations in the plan's order: (k, true): number k yields a value under S; (k, false): number k alone can come up, whatever it does. -/
def wpHead (P : Program) (ops : Array Oper) (Q : Exit → Act → World → Prop) (S : World → Prop) (K : Act → World → Prop) : List (Nat × Bool) → Act → World → Prop
 | [],a,w => K a w
 | (k,true) :: l,a,w => ∃ o v,ops[k]? = some o ∧ YieldsIf P ops S o v a ∧ S w ∧ wpHead P ops Q S K l (a.put o.dst v) w
 | (k,false) :: l,a,w => wpOp P ops Q k (fun a' w' => S w' ∧ wpHead P ops Q S K l a' w') a w
def planB (md : Region.Mode) (ops : Array Oper) (n : Nat) : List (Nat × Bool) → Array Bool → Bool
 | [],listed => (List.range n).all (fun j => listed.getD j true) && Region.seqB md ops (ops.size - n) n listed
 | (k,true) :: l,listed => decide (k < n) && (Region.ready md ops listed).contains k && Region.free md ops listed k && planB md ops n l (listed.setIfInBounds k true)
 | (k,false) :: l,listed => decide (k < n) && decide (Region.ready md ops listed = [k]) && planB md ops n l (listed.setIfInBounds k true)
theorem wpAnyT_plan {n : Nat} {ol : List Oper} (hol : ops = ol.toArray) (hsel : Region.noSelect ops = true) (hs : Region.sinkB md ops n = true) (hc : Region.chainB md ops n = true) (hn : n < ops.size)
 (hQ : ∀ c a w,Q (.panic c) a w → False) :
 ∀ (l : List (Nat × Bool)) (listed : Array Bool) (a : Act) (w : World),HeadInv md ops n listed → planB md ops n l listed = true →
  wpHead P ops Q S (fun a' w' => wpList P ops Q (ol.drop n) a' w') l a w → wpAnyT P md ops Q S n (l.length + (ops.size - n)) listed a w
 | [],listed,a,w,inv,hB,h => by
  simp only [planB,Bool.and_eq_true] at hB
  have hl : ∀ j,j < n → listed.getD j true = true:=fun j hj => List.all_eq_true.1 hB.1 j (List.mem_range.2 hj)
  rw [List.length_nil,Nat.zero_add]
  refine wpAnyT_of _ _ _ _ hl ?_
  have hdl : (ol.drop n).length = ops.size - n:=by subst hol; simp
  rw [← hdl]
  refine wpAny_of_seq (ol.drop n) n listed a w (fun j => by subst hol; simp) ?_ h
  rw [hdl]; exact hB.2
 | (k,true) :: l,listed,a,w,inv,hB,h => by
  simp only [planB,Bool.and_eq_true,decide_eq_true_eq] at hB
  obtain ⟨⟨⟨hkn,hr⟩,hf⟩,hB'⟩:=hB
  obtain ⟨o,v,ho,hy,hS,h'⟩:=h
  have hr' : k ∈ Region.ready md ops listed:=by simpa using hr
  rw [show ((k,true) :: l).length + (ops.size - n) = (l.length + (ops.size - n)) + 1 by simp; omega]
  exact wpAnyT_first ho (Region.noSelect_spec hsel) hs hc hn hkn (fun c a w h => (hQ c _ w h).elim) _ listed a w inv (Region.free_spec ho hf) hr' hy hS
   (wpAnyT_plan hol hsel hs hc hn hQ l _ _ _ (inv.set hr' hkn) hB' h')
 | (k,false) :: l,listed,a,w,inv,hB,h => by
  simp only [planB,Bool.and_eq_true,decide_eq_true_eq] at hB
  obtain ⟨⟨hkn,hr⟩,hB'⟩:=hB
  rw [show ((k,false) :: l).length + (ops.size - n) = (l.length + (ops.size - n)) + 1 by simp; omega]
  refine ⟨fun h0 => (by rw [h0] at hr; cases hr),fun i hi => ?_⟩
  have hi':=hi
  rw [hr] at hi'
  obtain rfl : i = k:=by simpa using hi'
  exact wpOp_mono (fun a' w' h3 => ⟨fun _ => h3.1,wpAnyT_plan hol hsel hs hc hn hQ l _ a' w' (inv.set hi hkn) hB' h3.2⟩) h
/-- What is asked of the region and the plan. -/
def tailB (md : Region.Mode) (ops : Array Oper) (n : Nat) (plan : List (Nat × Bool)) : Bool :=
 Region.noSelect ops && decide (n < ops.size) && Region.sinkB md ops n && Region.chainB md ops n && decide (plan.length = n) && planB md ops n plan (Array.replicate ops.size false)
/-- **The law**: a region that draws its order, by a plan for its head; then its tail, one behind the other. -/
theorem wp_region_plan {id : Nat} {a : Act} {w : World} {l : List Oper} (S : World → Prop) (n : Nat) (plan : List (Nat × Bool)) (hm : P.follows .mixedOrders = true) (hB : tailB .any l.toArray n plan = true)
 (h : wpHead P l.toArray (NoPanic Q) S (fun a' w' => wpList P l.toArray (NoPanic Q) (l.drop n) a' w') plan a w.drew) : (Code.region id l.toArray true).wp P Q a w:=by
 simp only [tailB,Bool.and_eq_true,decide_eq_true_eq] at hB
 obtain ⟨⟨⟨⟨⟨hsel,hn⟩,hs⟩,hc⟩,hlen⟩,hp⟩:=hB
 refine wp_region_noPanic ?_
 refine wp_region_any hm ?_
 have inv0 : HeadInv .any l.toArray n (Array.replicate l.toArray.size false) :=
  ⟨by simp,fun j oj _ hl => (by rw [getD_replicate_false] at hl; cases hl),fun t _ ht => getD_in (by simpa using ht) (getD_replicate_false _ _)⟩
 have:=wpAnyT_plan (md:=.any) (Q:=NoPanic Q) (S:=S) rfl hsel hs hc hn (fun _ _ _ h => h) plan _ a _ inv0 hp h
 rw [hlen,show n + (l.toArray.size - n) = l.toArray.size by omega] at this
 exact wpAny_of_T _ _ _ _ this
/-- A step that yields. -/
theorem headY {K : Act → World → Prop} {k : Nat} {o : Oper} {v : Value} {l : List (Nat × Bool)} {a : Act} {w : World} (d : Option Tmp) (ho : ops[k]? = some o) (hd : o.dst = d)
 (hy : YieldsIf P ops S o v a) (hS : S w) (h : wpHead P ops Q S K l (a.put d v) w) : wpHead P ops Q S K ((k,true) :: l) a w:=by
 subst hd; exact ⟨o,v,ho,hy,hS,h⟩
/-- A step that does whatever it does. -/
theorem headC {K : Act → World → Prop} {k : Nat} {o : Oper} {l : List (Nat × Bool)} {a : Act} {w : World} (ho : ops[k]? = some o)
 (h : ∀ K' : Act → World → Prop,(∀ a w,S w → wpHead P ops Q S K l a w → K' a w) → if Region.wanted o (yielded ops a.tmps) = true then Oper.wp P o a w K' Q else K' (a.put o.dst undef) w) :
 wpHead P ops Q S K ((k,false) :: l) a w:=by
 show wpOp _ _ _ _ _ _ _
 unfold wpOp
 simp only [ho]
 have:=h (fun a' w' => S w' ∧ wpHead P ops Q S K l a' w') (fun a w h1 h2 => ⟨h1,h2⟩)
 split
 ·rename_i hw; rw [if_pos hw] at this; exact .inl this
 ·rename_i hw; rw [if_neg hw] at this; exact this
theorem head0 {K : Act → World → Prop} {a : Act} {w : World} (h : K a w) : wpHead P ops Q S K [] a w:=h
end
section
variable {P : Program} {ops : Array Oper} {Q : Exit → Act → World → Prop} {S : World → Prop}
/-- A step that yields, in one line: what it yields and the new state are reckoned. -/
theorem pqY {K : Act → World → Prop} {k : Nat} {o : Oper} {v : Value} {l : List (Nat × Bool)} {a a' : Act} {w : World} (d : Tmp) (hS : S w) (h : wpHead P ops Q S K l a' w) (ho : ops[k]? = some o:=by exact rfl) (hd : o.dst = some d:=by exact rfl)
 (hw : Region.wanted o (yielded ops a.tmps) = true:=by rfl) (hy : ∀ W,S W → (execOp a.eval o).run P W = .ok (.value v) W:=by intro W' hs; (try subst hs); go_simp; (try with_reducible rfl)) (ha : a.put (some d) v = a':=by simp only [pq]; exact rfl) :
 wpHead P ops Q S K ((k,true) :: l) a w:=by
 subst ha; exact headY (some d) ho hd (.inl ⟨hw,hy⟩) hS h
/-- A guarded step whose guard is not met. -/
theorem pqN {K : Act → World → Prop} {k : Nat} {o : Oper} {l : List (Nat × Bool)} {a a' : Act} {w : World} (d : Tmp) (hS : S w) (h : wpHead P ops Q S K l a' w) (ho : ops[k]? = some o:=by exact rfl) (hd : o.dst = some d:=by exact rfl)
 (hw : Region.wanted o (yielded ops a.tmps) = false:=by rfl) (ha : a.put (some d) undef = a':=by simp only [pq]; exact rfl) : wpHead P ops Q S K ((k,true) :: l) a w:=by
 subst ha; exact headY (some d) ho hd (.inr ⟨hw,rfl⟩) hS h
end
end Go.Proofs.YtjiadfblphdchaaGreatDoor
namespace Go.Proofs.YtjiadfblphdchaaGreatDoor
open Go.RowKit
set_option maxRecDepth 100000
/-- The five cells of a guess. -/
structure GBox (w : World) (G : Nat) (K R : Nat) (Tv : Value) (d : Nat) (tv : Value) : Prop where
 c0 : w.cell? ⟨G,0,none⟩ = some (.int .i64 K)
 c1 : w.cell? ⟨G,1,none⟩ = some (.int .i64 R)
 c2 : w.cell? ⟨G,2,none⟩ = some Tv
 c3 : w.cell? ⟨G,3,none⟩ = some (.int .i64 d)
 c4 : w.cell? ⟨G,4,none⟩ = some tv
theorem GBox.kept {w w' : World} {G tb K R d : Nat} {Tv tv : Value} (h : GBox w G K R Tv d tv) (hg : w.grownBy w' (some tb)) (hne : G ≠ tb) : GBox w' G K R Tv d tv:=by
 have k : ∀ {i x},w.cell? ⟨G,i,none⟩ = some x → w'.cell? ⟨G,i,none⟩ = some x:=fun {i x} hc => by
  rw [World.cell?_of_block (a:=⟨G,i,none⟩) (hg.block G (World.block_lt_of_cell? _ _ hc) (by simpa using hne))]; exact hc
 exact ⟨k h.c0,k h.c1,k h.c2,k h.c3,k h.c4⟩
theorem IntsAt.grown {w w' : World} {v : Value} {xs : List Int} {tb : Nat} (h : IntsAt w v xs) (hg : w.grownBy w' (some tb)) (hoff : ∀ i,i < xs.length → (valAt v i).block ≠ tb) : IntsAt w' v xs :=
 h.cells_eq fun i hi => World.cell?_of_block (hg.block _ (h.blk i hi) (by simpa using hoff i hi))
theorem setCell_grown {w : World} {v : Value} {i g n c : Nat} (hv : v = .slice (some ⟨g,0,none⟩) n c) (x : Value) : w.grownBy (w.setCell (valAt v i) x) (some g):=by
 subst hv
 rw [valAt_row]
 exact ⟨rfl,rfl,rfl,by simp [World.setCell],fun k _ hk => Below.heap_setCell _ _ _ _ (by simp at hk; omega)⟩
theorem drewN_grown (w : World) (n : Nat) (row : Option Nat) : w.grownBy (w.drewN n) row:=⟨rfl,rfl,rfl,Nat.le_refl _,fun _ _ _ => rfl⟩
set_option maxHeartbeats 3000000 in
theorem fill_any (K R d G tb tn tc B : Nat) (va : Option Addr) (vn vc : Nat) (T : List Int) (hr : RuleOk K R T) (hl : T.length ≤ 256) (hd : d ≤ 3) (hne : G ≠ tb) (hoff : ∀ i,i < T.length → (valAt (.slice va vn vc) i).block ≠ tb) :
 ∀ (f n front image middle : Nat) (w : World) (tab : List Int),n + f = 2 * (R + d) + 1 → FillOk K R T n front image → middle < K → GBox w G K R (.slice va vn vc) d (.slice (some ⟨tb,0,none⟩) tn tc) → IntsAt w (.slice va vn vc) T → OwnI B w (.slice (some ⟨tb,0,none⟩) tn tc) tab → tab.length = pw K (2 * d + 1) →
 Calls Tryz.prog 67 #[.pointer (some ⟨G,0,none⟩),.int .i64 front,.int .i64 image,.int .i64 middle,.int .i64 n] w fun e w' =>
  e = .returned (.bool (fillF K R (2 * (R + d) + 1) T f front image middle tab).1) ∧ OwnI B w' (.slice (some ⟨tb,0,none⟩) tn tc) (fillF K R (2 * (R + d) + 1) T f front image middle tab).2 ∧ w.grownBy w' (some tb):=by
 have hk1:=hr.k1
 have hk4:=hr.k4
 have hr3:=hr.r3
 intro f
 induction f with
 | zero =>
  intro n front image middle w tab hn hf hm hbox hT ho htl
  have him : image < tab.length:=by
   have:=hf.2
   rw [htl,show 2 * d + 1 = n - 2 * R by omega]; exact this
  have lT:=ho.at.len
  have iT:=fun w' => ho.at.idx image him w'
  have cT:=ho.at.cellD image him
  have fT:=ho.frz image him
  obtain ⟨y,hy⟩ : ∃ y,tab.getD image 0 = y:=⟨_,rfl⟩
  rw [hy] at cT
  have hset:=ho.set image him (middle : Int)
  have hgr:=setCell_grown (w:=w) (v:=.slice (some ⟨tb,0,none⟩) tn tc) (i:=image) rfl (.int .i64 (middle : Int))
  have hF : fillF K R (2 * (R + d) + 1) T 0 front image middle tab = if 0 ≤ y ∧ y ≠ (middle : Int) then (false,tab) else (true,tab.set image middle):=by unfold fillF; rw [hy]
  obtain ⟨p,hp⟩ : ∃ p,valAt (.slice (some ⟨tb,0,none⟩) tn tc) image = p:=⟨_,rfl⟩
  rw [hp] at iT cT fT hset hgr
  obtain ⟨z0,z1,z2,z3,z4⟩:=id hbox
  have hn1 : (2 : Int) * ((R : Int) + (d : Int)) + 1 = (n : Int):=by omega
  have hnn : ((n : Int) == (n : Int)) = true:=by simp
  replace hr:=Lib.hid hr
  replace hoff:=Lib.hid hoff
  replace hf:=Lib.hid hf
  replace hT:=Lib.hid hT
  replace ho:=Lib.hid ho
  replace hset:=Lib.hid hset
  replace hgr:=Lib.hid hgr
  replace hy:=Lib.hid hy
  replace hp:=Lib.hid hp
  replace hF:=Lib.hid hF
  replace hbox:=Lib.hid hbox
  replace htl:=Lib.hid htl
  by_cases hy0 : 0 ≤ y
  ·have d0 : decide ((0 : Int) ≤ y) = true:=decide_eq_true hy0
   by_cases hym : y = (middle : Int)
   ·have d1 : (y != (middle : Int)) = false:=by rw [hym]; simp
    rw [hF.out,if_neg (fun h => h.2 hym)]
    go_enter Tryz.func67,Tryz.ntmps67
    go_upto_region 1 with fail
    go_quiet (fail)
    go_wp2
    go_ret
    exact ⟨rfl,hset.out,hgr.out.trans (drewN_grown _ nq _)⟩
   ·have d1 : (y != (middle : Int)) = true:=by rw [bne_iff_ne]; exact hym
    rw [hF.out,if_pos ⟨hy0,hym⟩]
    go_enter Tryz.func67,Tryz.ntmps67
    go_upto_region 1 with fail
    go_quiet (fail)
    go_wp2
    go_ret
    exact ⟨rfl,ho.out,drewN_grown w nq _⟩
  ·have d0 : decide ((0 : Int) ≤ y) = false:=decide_eq_false hy0
   rw [hF.out,if_neg (fun h => hy0 h.1)]
   go_enter Tryz.func67,Tryz.ntmps67
   go_upto_region 1 with fail
   go_quiet (fail)
   go_wp2
   go_ret
   exact ⟨rfl,hset.out,hgr.out.trans (drewN_grown _ nq _)⟩
 | succ f ih =>
  intro n front image middle w tab hn hf hm hbox hT ho htl
  have lT:=hT.len
  obtain ⟨wd,hwd⟩ : ∃ wd,2 * (R + d) + 1 = wd:=⟨_,rfl⟩
  have hw1 : (2 : Int) * ((R : Int) + (d : Int)) + 1 = (wd : Int):=by omega
  have hnw : ((n : Int) == (wd : Int)) = false:=by rw [beq_eq_false_iff_ne]; omega
  have hh1 : (wd : Int).tdiv 2 = ((R + d : Nat) : Int):=by rw [Int.tdiv_eq_ediv_of_nonneg (by omega)]; omega
  have hh2 : (wd : Int) / 2 = ((R + d : Nat) : Int):=by omega
  have hnb : n ≤ 12:=by omega
  have hnsub : 2 * (R + d) + 1 - (f + 1) = n:=by omega
  have hhalf : (2 * (R + d) + 1) / 2 = R + d:=by omega
  obtain ⟨g,hg⟩ : ∃ g : Nat → List Int → Bool × List Int,g = fun s t => fillF K R (2 * (R + d) + 1) T f ((front * K + s) % (T.length / K)) (if 2 * R ≤ n then image * K + (T.getD (front * K + s) 0).toNat else image) (if n = R + d then s else middle) t:=⟨_,rfl⟩
  have hF : fillF K R (2 * (R + d) + 1) T (f + 1) front image middle tab = fillL g (List.range K) tab:=by
   rw [hg]
   conv => lhs; unfold fillF
   rw [hnsub,hhalf]
  rw [hF]
  have him : image < 16384:=Nat.lt_of_lt_of_le hf.2 (pw_le hk1 hk4 (by omega))
  have hTl : T.length / K ≤ 256:=Nat.le_trans (Nat.div_le_self _ _) hl
  have hf1:=hf.1
  have hfr : front < 256:=by omega
  obtain ⟨z0,z1,z2,z3,z4⟩:=id hbox
  obtain ⟨tl,htl2⟩ : ∃ tl,T.length = tl:=⟨_,rfl⟩
  rw [htl2] at lT hl
  obtain ⟨Lq,hLq⟩ : ∃ q,tl / K = q:=⟨_,rfl⟩
  rw [htl2,hLq] at hTl hf1
  have hLz : ¬ Lq = 0:=by omega
  have hLz2 : ((Lq : Int) == 0) = false:=by rw [beq_eq_false_iff_ne]; omega
  have hKz : ¬ K = 0:=by omega
  have hKz2 : ((K : Int) == 0) = false:=by rw [beq_eq_false_iff_ne]; omega
  have e1 : (tl : Int).tdiv (K : Int) = (Lq : Int):=by rw [Int.tdiv_eq_ediv_of_nonneg (by omega),← Int.natCast_ediv,hLq]
  have e2 : (tl : Int) / (K : Int) = (Lq : Int):=by rw [← Int.natCast_ediv,hLq]
  replace hr:=Lib.hid hr
  replace hoff:=Lib.hid hoff
  replace hf:=Lib.hid hf
  replace hT:=Lib.hid hT
  replace ho:=Lib.hid ho
  replace hF:=Lib.hid hF
  replace hg:=Lib.hid hg
  replace hbox:=Lib.hid hbox
  replace htl:=Lib.hid htl
  replace hwd:=Lib.hid hwd
  replace htl2:=Lib.hid htl2
  replace hLq:=Lib.hid hLq
  replace ih:=Lib.hid ih
  replace hhalf:=Lib.hid hhalf
  replace hnsub:=Lib.hid hnsub
  go_enter Tryz.func67,Tryz.ntmps67
  go_upto_region 1 with fail
  go_quiet (fail)
  go_wp2_with fail
  go_loopw [62] (fun iv wr => ∃ (s : Nat) (t : List Int),s ≤ K ∧ iv = .int .i64 s ∧ fillL g (List.range s) tab = (true,t) ∧ OwnI B wr (.slice (some ⟨tb,0,none⟩) tn tc) t ∧ w.grownBy wr (some tb)) (fun iv _ => K - (intOf iv).toNat)
  case atStart => exact ⟨0,tab,Nat.zero_le _,rfl,rfl,ho.out,drewN_grown w nq _⟩
  case round =>
   clear z0 z1 z2 z3 z4
   obtain ⟨s,t,hs,rfl,hft,hO,hG⟩:=hrel
   obtain ⟨wo,rfl⟩ : ∃ wo : World,wo = wr:=⟨_,rfl⟩
   by_cases hsK : s < K
   ·have ds : decide ((s : Int) < (K : Int)) = true:=decide_eq_true (by omega)
    obtain ⟨z0,z1,z2,z3,z4⟩:=hbox.out.kept hG hne
    have hTo:=hT.out.grown hG hoff.out
    have hwin:=hf.out.window hr.out hsK
    have hstep:=hf.out.step hr.out hsK
    have hgs : g s t = fillF K R (2 * (R + d) + 1) T f ((front * K + s) % (T.length / K)) (if 2 * R ≤ n then image * K + (T.getD (front * K + s) 0).toNat else image) (if n = R + d then s else middle) t:=by rw [hg.out]
    have htlen : t.length = pw K (2 * d + 1):=by
     have:=fillL_len (g:=g) (fun s t => by rw [hg.out]; exact fillF_len _ _ _ _ _ _ _ _ _) (List.range s) tab
     rw [hft] at this
     rw [← htl.out]; exact this
    have hxs:=getD_syms hr.out.syms hwin
    have iT:=fun w' => hTo.idx (front * K + s) hwin w'
    have cT:=hTo.cellD (front * K + s) hwin
    obtain ⟨x,hx⟩ : ∃ x,T.getD (front * K + s) 0 = x:=⟨_,rfl⟩
    rw [hx] at hxs cT hstep hgs
    obtain ⟨xn,rfl⟩ : ∃ m : Nat,x = (m : Int):=⟨x.toNat,by omega⟩
    rw [Int.toNat_natCast] at hstep hgs
    rw [htl2.out,hLq.out] at hstep hgs
    rw [htl2.out] at hwin
    obtain ⟨fk,hfk⟩ : ∃ q,front * K = q:=⟨_,rfl⟩
    have hfk1 : (front : Int) * (K : Int) = (fk : Int):=by rw [← hfk]; simp
    rw [hfk] at iT cT hwin hstep hgs hx
    obtain ⟨win,hwn⟩ : ∃ q,fk + s = q:=⟨_,rfl⟩
    have hwn1 : (fk : Int) + (s : Int) = (win : Int):=by omega
    rw [hwn] at iT cT hwin hstep hgs hx
    obtain ⟨wm,hwm⟩ : ∃ q,win % Lq = q:=⟨_,rfl⟩
    have hwml : wm < Lq:=by rw [← hwm]; exact Nat.mod_lt _ (by omega)
    have e3 : (win : Int).tmod (Lq : Int) = (wm : Int):=by rw [Int.tmod_eq_emod_of_nonneg (by omega),← Int.natCast_emod,hwm]
    have e4 : (win : Int) % (Lq : Int) = (wm : Int):=by rw [← Int.natCast_emod,hwm]
    rw [hwm] at hstep hgs
    have hik : image * K ≤ 16384 * 4:=Nat.mul_le_mul (by omega) hk4
    obtain ⟨ik,hikn⟩ : ∃ q,image * K = q:=⟨_,rfl⟩
    have hik1 : (image : Int) * (K : Int) = (ik : Int):=by rw [← hikn]; simp
    rw [hikn] at hstep hgs hik
    obtain ⟨px,hpx⟩ : ∃ p,valAt (.slice va vn vc) win = p:=⟨_,rfl⟩
    rw [hpx] at iT cT
    have hfkb : fk ≤ 1024:=by rw [← hfk]; exact Nat.le_trans (Nat.mul_le_mul (show front ≤ 256 by omega) hk4) (by decide)
    have hwinb : win ≤ 1028:=by omega
    have wL:=wrapK (x:=(Lq : Int)) (by omega) (by omega)
    have wn1:=wrapK (x:=(n : Int) + 1) (by omega) (by omega)
    replace hfk:=Lib.hid hfk
    replace hwn:=Lib.hid hwn
    replace hwm:=Lib.hid hwm
    replace hikn:=Lib.hid hikn
    replace hpx:=Lib.hid hpx
    replace hx:=Lib.hid hx
    replace hft:=Lib.hid hft
    replace hO:=Lib.hid hO
    replace hTo:=Lib.hid hTo
    replace htlen:=Lib.hid htlen
    by_cases hge : 2 * R ≤ n <;> by_cases hmid : n = R + d
    ·have hgs2 : g s t = fillF K R (2 * (R + d) + 1) T f wm (ik + xn) s t:=by rw [hgs,if_pos hge,if_pos hmid]
     have hst2 : FillOk K R T (n + 1) wm (ik + xn):=by rw [if_pos hge] at hstep; exact hstep
     have dg : decide ((2 : Int) * (R : Int) ≤ (n : Int)) = true:=decide_eq_true (by omega)
     have dm : ((n : Int) == ((R + d : Nat) : Int)) = true:=by rw [beq_iff_eq]; omega
     have e5 : ((n + 1 : Nat) : Int) = (n : Int) + 1:=rfl
     have e6 : (((ik + xn) : Nat) : Int) = (ik : Int) + (xn : Int):=Int.natCast_add _ _
     have hih : ∀ (W : World) (t : List Int),GBox W G K R (.slice va vn vc) d (.slice (some ⟨tb,0,none⟩) tn tc) → IntsAt W (.slice va vn vc) T → OwnI B W (.slice (some ⟨tb,0,none⟩) tn tc) t → t.length = pw K (2 * d + 1) →
      Calls Tryz.prog 67 #[.pointer (some ⟨G,0,none⟩),.int .i64 (wm : Int),.int .i64 ((ik : Int) + (xn : Int)),.int .i64 (s : Int),.int .i64 ((n : Int) + 1)] W fun e w' =>
       e = .returned (.bool (fillF K R (2 * (R + d) + 1) T f wm (ik + xn) s t).1) ∧ OwnI B w' (.slice (some ⟨tb,0,none⟩) tn tc) (fillF K R (2 * (R + d) + 1) T f wm (ik + xn) s t).2 ∧ W.grownBy w' (some tb):=fun W t a1 a2 a3 a4 => by
      have:=ih.out (n + 1) wm (ik + xn) s W t (by omega) hst2 (by omega) a1 a2 a3 a4
      rw [e5,e6] at this
      exact this
     clear e5 e6
     replace hmid:=Lib.hid hmid
     replace hgs:=Lib.hid hgs
     replace hgs2:=Lib.hid hgs2
     replace hst2:=Lib.hid hst2
     replace hstep:=Lib.hid hstep
     replace hih:=Lib.hid hih
     go_upto_region 13 with fail
     go_quiet (fail)
     go_upto_region 17 with fail
     refine wp_region_plan (fun w' => w'.cell? ⟨G,0,none⟩ = some (.int .i64 K) ∧ w'.cell? ⟨G,2,none⟩ = some (.slice va vn vc)) 20 [(0,true),(1,true),(2,true),(3,true),(4,true),(5,true),(6,true),(7,true),(8,true),(9,true),(10,true),(11,true),(12,true),(13,true),(14,true),(15,true),(16,true),(17,true),(18,true),(19,false)] (by kernel_rfl) (by kernel_rfl) ?_
     obtain ⟨W1,hW1⟩ : ∃ W' : World,(wo.drewN nq).drew = W':=⟨_,rfl⟩
     have hS1 : W1.cell? ⟨G,0,none⟩ = some (.int .i64 K) ∧ W1.cell? ⟨G,2,none⟩ = some (.slice va vn vc):=by rw [← hW1]; exact ⟨z0,z2⟩
     have hg1 : wo.grownBy W1 (some tb):=by rw [← hW1]; exact (drewN_grown wo nq _).trans (drewN_grown _ 1 _)
     have hO1 : OwnI B W1 (.slice (some ⟨tb,0,none⟩) tn tc) t:=by rw [← hW1]; exact hO.out
     rw [hW1]
     replace hW1:=Lib.hid hW1
     replace hO1:=Lib.hid hO1
     refine pqY 105 hS1 ?_
     refine pqY 106 hS1 ?_
     refine pqY 107 hS1 ?_
     refine pqY 108 hS1 ?_
     refine pqY 109 hS1 ?_
     refine pqY 110 hS1 ?_
     refine pqY 111 hS1 ?_
     refine pqY 112 hS1 ?_
     refine pqY 113 hS1 ?_
     refine pqY 114 hS1 ?_
     refine pqY 115 hS1 ?_
     refine pqY 116 hS1 ?_
     refine pqY 117 hS1 ?_
     refine pqY 118 hS1 ?_
     refine pqY 119 hS1 ?_
     refine pqY 120 hS1 ?_
     refine pqY 121 hS1 ?_
     refine pqY 122 hS1 ?_
     refine pqY 123 hS1 ?_
     refine headC rfl (fun KK hK => ?_)
     go_simp
     have hcall:=hih.out W1 t (hbox.out.kept (hG.trans hg1) hne) (hT.out.grown (hG.trans hg1) hoff.out) hO1.out htlen.out
     rw [← hgs2.out] at hcall
     refine hcall.mono ?_
     rintro e W2 ⟨rfl,hO2,hg2⟩
     have hG2:=(hG.trans hg1).trans hg2
     have hb2:=hbox.out.kept hG2 hne
     refine hK _ _ ⟨hb2.c0,hb2.c2⟩ ?_
     clear hK KK hS1
     refine head0 ?_
     simp only [List.drop_succ_cons,List.drop_zero]
     replace hO2:=Lib.hid hO2
     replace hb2:=Lib.hid hb2
     cases hb : (g s t).1 with
     | true =>
      have hsu:=fillL_succ hft.out
      have hpr : g s t = (true,(g s t).2):=Prod.ext hb rfl
      replace hsu:=Lib.hid hsu
      replace hpr:=Lib.hid hpr
      replace hb:=Lib.hid hb
      go_wp2
      refine NoPanic.normal ?_
      go_wp2
      go_roundw
      case measure => simp [intOf]; omega
      case rel => exact ⟨s + 1,(g s t).2,by omega,by go_num,by rw [hsu.out]; exact hpr.out,hO2.out,hG2⟩
     | false =>
      have hso:=fillL_stop hsK hft.out hb
      replace hb:=Lib.hid hb
      replace hso:=Lib.hid hso
      go_wp2
      refine NoPanic.normal ?_
      go_wp2
      go_ret
      exact ⟨by rw [hso.out,hb.out]; rfl,by rw [hso.out]; exact hO2.out,hG2⟩
    ·have hgs2 : g s t = fillF K R (2 * (R + d) + 1) T f wm (ik + xn) middle t:=by rw [hgs,if_pos hge,if_neg hmid]
     have hst2 : FillOk K R T (n + 1) wm (ik + xn):=by rw [if_pos hge] at hstep; exact hstep
     have dg : decide ((2 : Int) * (R : Int) ≤ (n : Int)) = true:=decide_eq_true (by omega)
     have dm : ((n : Int) == ((R + d : Nat) : Int)) = false:=by rw [beq_eq_false_iff_ne]; omega
     have e5 : ((n + 1 : Nat) : Int) = (n : Int) + 1:=rfl
     have e6 : (((ik + xn) : Nat) : Int) = (ik : Int) + (xn : Int):=Int.natCast_add _ _
     have hih : ∀ (W : World) (t : List Int),GBox W G K R (.slice va vn vc) d (.slice (some ⟨tb,0,none⟩) tn tc) → IntsAt W (.slice va vn vc) T → OwnI B W (.slice (some ⟨tb,0,none⟩) tn tc) t → t.length = pw K (2 * d + 1) →
      Calls Tryz.prog 67 #[.pointer (some ⟨G,0,none⟩),.int .i64 (wm : Int),.int .i64 ((ik : Int) + (xn : Int)),.int .i64 (middle : Int),.int .i64 ((n : Int) + 1)] W fun e w' =>
       e = .returned (.bool (fillF K R (2 * (R + d) + 1) T f wm (ik + xn) middle t).1) ∧ OwnI B w' (.slice (some ⟨tb,0,none⟩) tn tc) (fillF K R (2 * (R + d) + 1) T f wm (ik + xn) middle t).2 ∧ W.grownBy w' (some tb):=fun W t a1 a2 a3 a4 => by
      have:=ih.out (n + 1) wm (ik + xn) middle W t (by omega) hst2 (by omega) a1 a2 a3 a4
      rw [e5,e6] at this
      exact this
     clear e5 e6
     replace hmid:=Lib.hid hmid
     replace hgs:=Lib.hid hgs
     replace hgs2:=Lib.hid hgs2
     replace hst2:=Lib.hid hst2
     replace hstep:=Lib.hid hstep
     replace hih:=Lib.hid hih
     go_upto_region 13 with fail
     go_quiet (fail)
     go_upto_region 17 with fail
     refine wp_region_plan (fun w' => w'.cell? ⟨G,0,none⟩ = some (.int .i64 K) ∧ w'.cell? ⟨G,2,none⟩ = some (.slice va vn vc)) 20 [(0,true),(1,true),(2,true),(3,true),(4,true),(5,true),(6,true),(7,true),(8,true),(9,true),(10,true),(11,true),(12,true),(13,true),(14,true),(15,true),(16,true),(17,true),(18,true),(19,false)] (by kernel_rfl) (by kernel_rfl) ?_
     obtain ⟨W1,hW1⟩ : ∃ W' : World,(wo.drewN nq).drew = W':=⟨_,rfl⟩
     have hS1 : W1.cell? ⟨G,0,none⟩ = some (.int .i64 K) ∧ W1.cell? ⟨G,2,none⟩ = some (.slice va vn vc):=by rw [← hW1]; exact ⟨z0,z2⟩
     have hg1 : wo.grownBy W1 (some tb):=by rw [← hW1]; exact (drewN_grown wo nq _).trans (drewN_grown _ 1 _)
     have hO1 : OwnI B W1 (.slice (some ⟨tb,0,none⟩) tn tc) t:=by rw [← hW1]; exact hO.out
     rw [hW1]
     replace hW1:=Lib.hid hW1
     replace hO1:=Lib.hid hO1
     refine pqY 105 hS1 ?_
     refine pqY 106 hS1 ?_
     refine pqY 107 hS1 ?_
     refine pqY 108 hS1 ?_
     refine pqY 109 hS1 ?_
     refine pqY 110 hS1 ?_
     refine pqY 111 hS1 ?_
     refine pqY 112 hS1 ?_
     refine pqY 113 hS1 ?_
     refine pqY 114 hS1 ?_
     refine pqY 115 hS1 ?_
     refine pqY 116 hS1 ?_
     refine pqY 117 hS1 ?_
     refine pqY 118 hS1 ?_
     refine pqY 119 hS1 ?_
     refine pqY 120 hS1 ?_
     refine pqY 121 hS1 ?_
     refine pqY 122 hS1 ?_
     refine pqY 123 hS1 ?_
     refine headC rfl (fun KK hK => ?_)
     go_simp
     have hcall:=hih.out W1 t (hbox.out.kept (hG.trans hg1) hne) (hT.out.grown (hG.trans hg1) hoff.out) hO1.out htlen.out
     rw [← hgs2.out] at hcall
     refine hcall.mono ?_
     rintro e W2 ⟨rfl,hO2,hg2⟩
     have hG2:=(hG.trans hg1).trans hg2
     have hb2:=hbox.out.kept hG2 hne
     refine hK _ _ ⟨hb2.c0,hb2.c2⟩ ?_
     clear hK KK hS1
     refine head0 ?_
     simp only [List.drop_succ_cons,List.drop_zero]
     replace hO2:=Lib.hid hO2
     replace hb2:=Lib.hid hb2
     cases hb : (g s t).1 with
     | true =>
      have hsu:=fillL_succ hft.out
      have hpr : g s t = (true,(g s t).2):=Prod.ext hb rfl
      replace hsu:=Lib.hid hsu
      replace hpr:=Lib.hid hpr
      replace hb:=Lib.hid hb
      go_wp2
      refine NoPanic.normal ?_
      go_wp2
      go_roundw
      case measure => simp [intOf]; omega
      case rel => exact ⟨s + 1,(g s t).2,by omega,by go_num,by rw [hsu.out]; exact hpr.out,hO2.out,hG2⟩
     | false =>
      have hso:=fillL_stop hsK hft.out hb
      replace hb:=Lib.hid hb
      replace hso:=Lib.hid hso
      go_wp2
      refine NoPanic.normal ?_
      go_wp2
      go_ret
      exact ⟨by rw [hso.out,hb.out]; rfl,by rw [hso.out]; exact hO2.out,hG2⟩
    ·have hgs2 : g s t = fillF K R (2 * (R + d) + 1) T f wm image s t:=by rw [hgs,if_neg hge,if_pos hmid]
     have hst2 : FillOk K R T (n + 1) wm image:=by rw [if_neg hge] at hstep; exact hstep
     have dg : decide ((2 : Int) * (R : Int) ≤ (n : Int)) = false:=decide_eq_false (by omega)
     have dm : ((n : Int) == ((R + d : Nat) : Int)) = true:=by rw [beq_iff_eq]; omega
     have e5 : ((n + 1 : Nat) : Int) = (n : Int) + 1:=rfl
     have e6 : ((image : Nat) : Int) = (image : Int):=rfl
     have hih : ∀ (W : World) (t : List Int),GBox W G K R (.slice va vn vc) d (.slice (some ⟨tb,0,none⟩) tn tc) → IntsAt W (.slice va vn vc) T → OwnI B W (.slice (some ⟨tb,0,none⟩) tn tc) t → t.length = pw K (2 * d + 1) →
      Calls Tryz.prog 67 #[.pointer (some ⟨G,0,none⟩),.int .i64 (wm : Int),.int .i64 ((image : Int)),.int .i64 (s : Int),.int .i64 ((n : Int) + 1)] W fun e w' =>
       e = .returned (.bool (fillF K R (2 * (R + d) + 1) T f wm image s t).1) ∧ OwnI B w' (.slice (some ⟨tb,0,none⟩) tn tc) (fillF K R (2 * (R + d) + 1) T f wm image s t).2 ∧ W.grownBy w' (some tb):=fun W t a1 a2 a3 a4 => by
      have:=ih.out (n + 1) wm image s W t (by omega) hst2 (by omega) a1 a2 a3 a4
      rw [e5,e6] at this
      exact this
     clear e5 e6
     replace hmid:=Lib.hid hmid
     replace hgs:=Lib.hid hgs
     replace hgs2:=Lib.hid hgs2
     replace hst2:=Lib.hid hst2
     replace hstep:=Lib.hid hstep
     replace hih:=Lib.hid hih
     go_upto_region 17 with fail
     refine wp_region_plan (fun w' => w'.cell? ⟨G,0,none⟩ = some (.int .i64 K) ∧ w'.cell? ⟨G,2,none⟩ = some (.slice va vn vc)) 20 [(0,true),(1,true),(2,true),(3,true),(4,true),(5,true),(6,true),(7,true),(8,true),(9,true),(10,true),(11,true),(12,true),(13,true),(14,true),(15,true),(16,true),(17,true),(18,true),(19,false)] (by kernel_rfl) (by kernel_rfl) ?_
     obtain ⟨W1,hW1⟩ : ∃ W' : World,wo.drew = W':=⟨_,rfl⟩
     have hS1 : W1.cell? ⟨G,0,none⟩ = some (.int .i64 K) ∧ W1.cell? ⟨G,2,none⟩ = some (.slice va vn vc):=by rw [← hW1]; exact ⟨z0,z2⟩
     have hg1 : wo.grownBy W1 (some tb):=by rw [← hW1]; exact drewN_grown wo 1 _
     have hO1 : OwnI B W1 (.slice (some ⟨tb,0,none⟩) tn tc) t:=by rw [← hW1]; exact hO.out
     rw [hW1]
     replace hW1:=Lib.hid hW1
     replace hO1:=Lib.hid hO1
     refine pqY 105 hS1 ?_
     refine pqY 106 hS1 ?_
     refine pqY 107 hS1 ?_
     refine pqY 108 hS1 ?_
     refine pqY 109 hS1 ?_
     refine pqY 110 hS1 ?_
     refine pqY 111 hS1 ?_
     refine pqY 112 hS1 ?_
     refine pqY 113 hS1 ?_
     refine pqY 114 hS1 ?_
     refine pqY 115 hS1 ?_
     refine pqY 116 hS1 ?_
     refine pqY 117 hS1 ?_
     refine pqY 118 hS1 ?_
     refine pqY 119 hS1 ?_
     refine pqY 120 hS1 ?_
     refine pqY 121 hS1 ?_
     refine pqY 122 hS1 ?_
     refine pqY 123 hS1 ?_
     refine headC rfl (fun KK hK => ?_)
     go_simp
     have hcall:=hih.out W1 t (hbox.out.kept (hG.trans hg1) hne) (hT.out.grown (hG.trans hg1) hoff.out) hO1.out htlen.out
     rw [← hgs2.out] at hcall
     refine hcall.mono ?_
     rintro e W2 ⟨rfl,hO2,hg2⟩
     have hG2:=(hG.trans hg1).trans hg2
     have hb2:=hbox.out.kept hG2 hne
     refine hK _ _ ⟨hb2.c0,hb2.c2⟩ ?_
     clear hK KK hS1
     refine head0 ?_
     simp only [List.drop_succ_cons,List.drop_zero]
     replace hO2:=Lib.hid hO2
     replace hb2:=Lib.hid hb2
     cases hb : (g s t).1 with
     | true =>
      have hsu:=fillL_succ hft.out
      have hpr : g s t = (true,(g s t).2):=Prod.ext hb rfl
      replace hsu:=Lib.hid hsu
      replace hpr:=Lib.hid hpr
      replace hb:=Lib.hid hb
      go_wp2
      refine NoPanic.normal ?_
      go_wp2
      go_roundw
      case measure => simp [intOf]; omega
      case rel => exact ⟨s + 1,(g s t).2,by omega,by go_num,by rw [hsu.out]; exact hpr.out,hO2.out,hG2⟩
     | false =>
      have hso:=fillL_stop hsK hft.out hb
      replace hb:=Lib.hid hb
      replace hso:=Lib.hid hso
      go_wp2
      refine NoPanic.normal ?_
      go_wp2
      go_ret
      exact ⟨by rw [hso.out,hb.out]; rfl,by rw [hso.out]; exact hO2.out,hG2⟩
    ·have hgs2 : g s t = fillF K R (2 * (R + d) + 1) T f wm image middle t:=by rw [hgs,if_neg hge,if_neg hmid]
     have hst2 : FillOk K R T (n + 1) wm image:=by rw [if_neg hge] at hstep; exact hstep
     have dg : decide ((2 : Int) * (R : Int) ≤ (n : Int)) = false:=decide_eq_false (by omega)
     have dm : ((n : Int) == ((R + d : Nat) : Int)) = false:=by rw [beq_eq_false_iff_ne]; omega
     have e5 : ((n + 1 : Nat) : Int) = (n : Int) + 1:=rfl
     have e6 : ((image : Nat) : Int) = (image : Int):=rfl
     have hih : ∀ (W : World) (t : List Int),GBox W G K R (.slice va vn vc) d (.slice (some ⟨tb,0,none⟩) tn tc) → IntsAt W (.slice va vn vc) T → OwnI B W (.slice (some ⟨tb,0,none⟩) tn tc) t → t.length = pw K (2 * d + 1) →
      Calls Tryz.prog 67 #[.pointer (some ⟨G,0,none⟩),.int .i64 (wm : Int),.int .i64 ((image : Int)),.int .i64 (middle : Int),.int .i64 ((n : Int) + 1)] W fun e w' =>
       e = .returned (.bool (fillF K R (2 * (R + d) + 1) T f wm image middle t).1) ∧ OwnI B w' (.slice (some ⟨tb,0,none⟩) tn tc) (fillF K R (2 * (R + d) + 1) T f wm image middle t).2 ∧ W.grownBy w' (some tb):=fun W t a1 a2 a3 a4 => by
      have:=ih.out (n + 1) wm image middle W t (by omega) hst2 (by omega) a1 a2 a3 a4
      rw [e5,e6] at this
      exact this
     clear e5 e6
     replace hmid:=Lib.hid hmid
     replace hgs:=Lib.hid hgs
     replace hgs2:=Lib.hid hgs2
     replace hst2:=Lib.hid hst2
     replace hstep:=Lib.hid hstep
     replace hih:=Lib.hid hih
     go_upto_region 17 with fail
     refine wp_region_plan (fun w' => w'.cell? ⟨G,0,none⟩ = some (.int .i64 K) ∧ w'.cell? ⟨G,2,none⟩ = some (.slice va vn vc)) 20 [(0,true),(1,true),(2,true),(3,true),(4,true),(5,true),(6,true),(7,true),(8,true),(9,true),(10,true),(11,true),(12,true),(13,true),(14,true),(15,true),(16,true),(17,true),(18,true),(19,false)] (by kernel_rfl) (by kernel_rfl) ?_
     obtain ⟨W1,hW1⟩ : ∃ W' : World,wo.drew = W':=⟨_,rfl⟩
     have hS1 : W1.cell? ⟨G,0,none⟩ = some (.int .i64 K) ∧ W1.cell? ⟨G,2,none⟩ = some (.slice va vn vc):=by rw [← hW1]; exact ⟨z0,z2⟩
     have hg1 : wo.grownBy W1 (some tb):=by rw [← hW1]; exact drewN_grown wo 1 _
     have hO1 : OwnI B W1 (.slice (some ⟨tb,0,none⟩) tn tc) t:=by rw [← hW1]; exact hO.out
     rw [hW1]
     replace hW1:=Lib.hid hW1
     replace hO1:=Lib.hid hO1
     refine pqY 105 hS1 ?_
     refine pqY 106 hS1 ?_
     refine pqY 107 hS1 ?_
     refine pqY 108 hS1 ?_
     refine pqY 109 hS1 ?_
     refine pqY 110 hS1 ?_
     refine pqY 111 hS1 ?_
     refine pqY 112 hS1 ?_
     refine pqY 113 hS1 ?_
     refine pqY 114 hS1 ?_
     refine pqY 115 hS1 ?_
     refine pqY 116 hS1 ?_
     refine pqY 117 hS1 ?_
     refine pqY 118 hS1 ?_
     refine pqY 119 hS1 ?_
     refine pqY 120 hS1 ?_
     refine pqY 121 hS1 ?_
     refine pqY 122 hS1 ?_
     refine pqY 123 hS1 ?_
     refine headC rfl (fun KK hK => ?_)
     go_simp
     have hcall:=hih.out W1 t (hbox.out.kept (hG.trans hg1) hne) (hT.out.grown (hG.trans hg1) hoff.out) hO1.out htlen.out
     rw [← hgs2.out] at hcall
     refine hcall.mono ?_
     rintro e W2 ⟨rfl,hO2,hg2⟩
     have hG2:=(hG.trans hg1).trans hg2
     have hb2:=hbox.out.kept hG2 hne
     refine hK _ _ ⟨hb2.c0,hb2.c2⟩ ?_
     clear hK KK hS1
     refine head0 ?_
     simp only [List.drop_succ_cons,List.drop_zero]
     replace hO2:=Lib.hid hO2
     replace hb2:=Lib.hid hb2
     cases hb : (g s t).1 with
     | true =>
      have hsu:=fillL_succ hft.out
      have hpr : g s t = (true,(g s t).2):=Prod.ext hb rfl
      replace hsu:=Lib.hid hsu
      replace hpr:=Lib.hid hpr
      replace hb:=Lib.hid hb
      go_wp2
      refine NoPanic.normal ?_
      go_wp2
      go_roundw
      case measure => simp [intOf]; omega
      case rel => exact ⟨s + 1,(g s t).2,by omega,by go_num,by rw [hsu.out]; exact hpr.out,hO2.out,hG2⟩
     | false =>
      have hso:=fillL_stop hsK hft.out hb
      replace hb:=Lib.hid hb
      replace hso:=Lib.hid hso
      go_wp2
      refine NoPanic.normal ?_
      go_wp2
      go_ret
      exact ⟨by rw [hso.out,hb.out]; rfl,by rw [hso.out]; exact hO2.out,hG2⟩
   ·obtain rfl : s = K:=by omega
    have ds : decide ((s : Int) < (s : Int)) = false:=decide_eq_false (by omega)
    replace hft:=Lib.hid hft
    replace hO:=Lib.hid hO
    go_wp2
    go_ret
    exact ⟨by rw [hft.out]; rfl,by rw [hft.out]; exact hO.out,hG⟩
end Go.Proofs.YtjiadfblphdchaaGreatDoor
namespace Go.Proofs.YtjiadfblphdchaaGreatDoor
open Go.RowKit
/-- slices.IndexFunc at a function value that only looks. -/
theorem indexFunc_any (v b : Value) (F : Nat) (xs : List Int) (p : Int → Bool) (w : World) (h : IntsAt w v xs)
 (eg : ∀ args w,(callFunc F args).run Tryz.prog w = .ok (.enter F args) w)
 (hF : ∀ x : Int,x ∈ xs → Calls Tryz.prog F #[.int .i64 x,b] w fun e w' => e = .returned (.bool (p x)) ∧ w = w') :
 Calls Tryz.prog 94 #[v,.func (.func F) #[] #[b]] w fun e w' => e = .returned (.int .i64 (idxOf p xs)) ∧ w = w':=by
 have hlen:=h.len
 have hm:=h.len_le
 go_enter Tryz.func94,Tryz.ntmps94
 go_wp2
 go_loop [8] (fun i => ∃ k : Nat,k ≤ xs.length ∧ i = .int .i64 k ∧ ∀ j (hj : j < xs.length),j < k → p xs[j] = false) (fun i => xs.length - (intOf i).toNat)
 case atStart => exact ⟨0,by omega,rfl,by omega⟩
 case round =>
  obtain ⟨k,hk,rfl,hp⟩:=hrel
  replace hp:=Lib.hid hp
  by_cases hlt : k < xs.length
  ·have hi:=h.idx k hlt
   have hc:=h.cell k hlt
   have hf:=Lib.hid (hF xs[k] (by simp))
   clear hF
   go_wp2_with fail
   refine hf.out.mono ?_
   rintro e w' ⟨rfl,rfl⟩
   cases hpk : p xs[k]
   ·have HP:=Lib.hid hpk
    go_wp2
    go_round
    case rel =>
     refine ⟨k+1,by omega,by go_num,?_⟩
     intro j hj hjk
     by_cases e : j = k
     ·subst e; exact HP.out
     ·exact hp.out j hj (by omega)
    case measure => simp [intOf]; omega
   ·have HP:=Lib.hid hpk
    go_wp2
    go_ret
    exact ⟨ret_int (idxOf_at k hlt HP.out fun j hj h => hp.out j hj h).symm,rfl⟩
  ·go_wp2
   go_ret
   refine ⟨ret_int (idxOf_neg fun x hx => ?_).symm,rfl⟩
   obtain ⟨j,hj,rfl⟩:=List.mem_iff_getElem.1 hx
   exact hp.out j hj (by omega)
theorem rule_wrong (r : Nat → Addr) (at_ n : Int) (w : World) (hg : Glob r w) (h1 : 1 ≤ n) (h2 : n ≤ 11) :
 Calls Tryz.prog 31 #[.int .i64 at_,.int .i64 n] w (Ret1 (fun v w' => ErrIs r w' (fresh sRule at_ n) v) w):=by
 go_enter Tryz.func31,Tryz.ntmps31
 go_wp2_with fail
 refine (new_any r _ at_ n w hg h1 h2).mono ?_
 rintro e w' ⟨v,rfl,hb,he⟩
 go_wp2
 go_ret
 exact ⟨_,rfl,hb,he⟩
theorem rule_odd1 (x k : Int) (b : Addr) (w : World) (hb : w.cell? b = some (.int .i64 k)) :
 Calls Tryz.prog 95 #[.int .i64 x,.pointer (some b)] w fun e w' => e = .returned (.bool (odd1 k x)) ∧ w = w':=by
 by_cases h : x < 0
 ·have e : odd1 k x = true:=by simp [odd1,h]
  rw [e]
  go_enter Tryz.func95,Tryz.ntmps95
  go_wp2
  go_ret
  exact ⟨rfl,rfl⟩
 ·have e : odd1 k x = decide (k ≤ x):=by simp [odd1,h]
  rw [e]
  go_enter Tryz.func95,Tryz.ntmps95
  go_wp2
  go_ret
  exact ⟨ret_bool (by simp),rfl⟩
theorem eg_rule_odd1 (args : Array Value) (w : World) : (callFunc 95 args).run Tryz.prog w = .ok (.enter 95 args) w:=by kernel_rfl
theorem rule_odd (k : Int) (v : Value) (xs : List Int) (w : World) (h : IntsAt w v xs) :
 Calls Tryz.prog 50 #[.int .i64 k,v] w (Ret1 (fun x _ => x = .int .i64 (idxOf (odd1 k) xs)) w):=by
 have h':=Lib.hid h
 clear h
 go_enter Tryz.func50,Tryz.ntmps50
 go_wp2_with fail
 refine (indexFunc_any v _ 95 xs (odd1 k) _ (h'.out.below ((Below.refl _ _).alloc (Nat.le_refl _) _)) eg_rule_odd1 (fun x _ => rule_odd1 x k _ _ (by simp))).mono ?_
 rintro e w' ⟨rfl,rfl⟩
 go_wp2
 go_ret
 exact ⟨_,rfl,(Below.refl _ _).alloc (Nat.le_refl _) _,rfl⟩
theorem size_ok (K R : Nat) (w : World) (h1 : 1 ≤ K) (h4 : K ≤ 4) (h3 : R ≤ 3) :
 Calls Tryz.prog 49 #[.int .i64 K,.int .i64 R] w fun e w' => e = .returned (.tuple #[.int .i64 (pw K (2 * R + 1)),.nilIface]) ∧ w = w':=by
 go_enter Tryz.func49,Tryz.ntmps49
 go_wp2
 go_loop [6,25] (fun n i => ∃ k : Nat,k ≤ 2 * R ∧ i = .int .i64 k ∧ n = .int .i64 (pw K (k + 1))) (fun _ i => 2 * R - (intOf i).toNat)
 case atStart => exact ⟨0,by omega,rfl,by rw [pw_one]⟩
 case round =>
  obtain ⟨k,hk,rfl,rfl⟩:=hrel
  by_cases hlt : k < 2 * R
  ·have hb:=pw_le (i:=k + 1 + 1) h1 h4 (by omega)
   have hs : ((pw K (k + 1 + 1) : Nat) : Int) = (pw K (k + 1) : Int) * (K : Int):=by rw [pw_succ]; simp
   have hb1 : 0 ≤ (pw K (k + 1) : Int) * (K : Int):=by rw [← hs]; omega
   have hb2 : (pw K (k + 1) : Int) * (K : Int) ≤ 16384:=by rw [← hs]; omega
   replace hs:=Lib.hid hs
   go_wp2
   go_round
   case rel => exact ⟨k + 1,by omega,by go_num,by rw [hs.out]⟩
   case measure => simp [intOf]; omega
  ·obtain rfl : k = 2 * R:=by omega
   go_wp2
   go_ret2
   exact ⟨rfl,rfl⟩
theorem size_bad (r : Nat → Addr) (k R : Int) (w : World) (hg : Glob r w) (h : k < 1 ∨ 4 < k ∨ R < 0 ∨ 3 < R) :
 Calls Tryz.prog 49 #[.int .i64 k,.int .i64 R] w (Ret2 (fun x y w' => x = .int .i64 0 ∧ ErrIs r w' (fresh sRule 0 3) y) w):=by
 have hg':=Lib.hid hg
 clear hg
 by_cases h1 : k < 1
 ·clear h
  go_enter Tryz.func49,Tryz.ntmps49
  go_wp2_with fail
  refine (rule_wrong r _ _ w hg'.out (by decide) (by decide)).mono ?_
  rintro e w' ⟨v,rfl,hb,he⟩
  go_wp2
  go_ret2
  exact ⟨_,_,rfl,hb,rfl,he⟩
 by_cases h2 : 4 < k
 ·clear h
  go_enter Tryz.func49,Tryz.ntmps49
  go_wp2_with fail
  refine (rule_wrong r _ _ w hg'.out (by decide) (by decide)).mono ?_
  rintro e w' ⟨v,rfl,hb,he⟩
  go_wp2
  go_ret2
  exact ⟨_,_,rfl,hb,rfl,he⟩
 by_cases h3 : R < 0
 ·clear h
  go_enter Tryz.func49,Tryz.ntmps49
  go_wp2_with fail
  refine (rule_wrong r _ _ w hg'.out (by decide) (by decide)).mono ?_
  rintro e w' ⟨v,rfl,hb,he⟩
  go_wp2
  go_ret2
  exact ⟨_,_,rfl,hb,rfl,he⟩
 have h4 : 3 < R:=by omega
 clear h
 go_enter Tryz.func49,Tryz.ntmps49
 go_wp2_with fail
 refine (rule_wrong r _ _ w hg'.out (by decide) (by decide)).mono ?_
 rintro e w' ⟨v,rfl,hb,he⟩
 go_wp2
 go_ret2
 exact ⟨_,_,rfl,hb,rfl,he⟩
end Go.Proofs.YtjiadfblphdchaaGreatDoor
namespace Go.Proofs.YtjiadfblphdchaaGreatDoor
open Go.RowKit
set_option maxRecDepth 100000
/-- A call returns a bool; only draws were made. -/
def RetB (b : Bool) (w : World) (e : Ending) (w' : World) : Prop:=∃ n : Nat,e = .returned (.bool b) ∧ w' = w.drewN n
theorem RetB.below {b : Bool} {w w' : World} {e : Ending} (h : RetB b w e w') : e = .returned (.bool b) ∧ Below w.heap.size w w':=by
 obtain ⟨n,he,rfl⟩:=h
 exact ⟨he,below_drewN (Below.refl _ _) n⟩
/-- A []int is nil and empty, or it has an address. -/
theorem IntsAt.split {w : World} {v : Value} {xs : List Int} (h : IntsAt w v xs) : (v = .slice none 0 0 ∧ xs = []) ∨ ∃ p cap,v = .slice (some p) xs.length cap:=by
 obtain ⟨a,cap,rfl,h1,h2,h3,h4⟩:=h
 cases a with
 | none =>
  obtain rfl:=h3 rfl
  obtain rfl:=List.length_eq_zero_iff.1 (show xs.length = 0 by omega)
  exact .inl ⟨rfl,rfl⟩
 | some p => exact .inr ⟨p,cap,rfl⟩
theorem clone_any (v : Value) (xs : List Int) (w : World) (h : IntsAt w v xs) (hl : xs.length ≤ 17592186044416) :
 Calls Tryz.prog 125 #[v] w (Ret1 (fun x w' => OwnI w.heap.size w' x xs) w):=by
 rcases h.split with ⟨rfl,rfl⟩ | ⟨p,cap,rfl⟩
 ·have hn:=fun w' => Lib.run_eql_slice_nil (P:=Tryz.prog) w' _ _ none 0 0 0 0 uInts
  clear h
  go_enter Tryz.func125,Tryz.ntmps125
  go_wp2
  go_ret
  exact ⟨_,rfl,Below.refl _ _,OwnI.nil _ _⟩
 ·have hn:=fun w' => Lib.run_eql_slice_nil (P:=Tryz.prog) w' _ _ (some p) xs.length cap 0 0 uInts
  have h':=Lib.hid h
  clear h
  go_enter Tryz.func125,Tryz.ntmps125
  go_wp2_with (at_builtin; refine wpl_append rfl _ _ rfl w.heap.size _ _ [] xs (OwnI.lit _ _ (Nat.le_refl _) [] (by decide) #[] rfl 0 rfl) (h'.out.below ((Below.refl _ _).alloc (Nat.le_refl _) _)) rfl rfl (by simpa using hl) (by simp) ?_)
  intro v' w' ho hb _ _
  go_wp2
  go_ret
  exact ⟨_,rfl,((Below.refl _ _).alloc (Nat.le_refl _) _).trans hb,by simpa using ho⟩
end Go.Proofs.YtjiadfblphdchaaGreatDoor
namespace Go.Proofs.YtjiadfblphdchaaGreatDoor
open Go.RowKit
set_option maxRecDepth 100000
theorem ints_len (v u : Value) (xs ys : List Int) (w : World) (h : IntsAt w v xs) (k : IntsAt w u ys) (hne : xs.length ≠ ys.length) :
 Calls Tryz.prog 40 #[v,u] w (RetB false w):=by
 have h1:=h.len
 have h2:=k.len
 have hd : ((xs.length : Int) != (ys.length : Int)) = true:=by simp; omega
 clear h k hne
 go_enter Tryz.func40,Tryz.ntmps40
 go_wp2
 go_ret
 exact ⟨0,rfl,rfl⟩
theorem ints_any (v u : Value) (xs ys : List Int) (w : World) (h : IntsAt w v xs) (k : IntsAt w u ys) :
 Calls Tryz.prog 40 #[v,u] w (RetB (decide (xs = ys)) w):=by
 by_cases hl : xs.length = ys.length
 case neg =>
  rw [show decide (xs = ys) = false by simp; intro e; exact hl (by rw [e])]
  exact ints_len v u xs ys w h k hl
 have h1:=h.len
 have h2:=k.len
 have hm:=h.len_le
 have hd : ((xs.length : Int) != (ys.length : Int)) = false:=by simp; omega
 have hl':=Lib.hid hl
 have hlt' : xs.length ≤ ys.length:=by omega
 clear hl
 go_enter Tryz.func40,Tryz.ntmps40
 go_wp2
 go_loopw [5] (fun i wr => (∃ j : Nat,j ≤ xs.length ∧ i = .int .i64 j ∧ ∀ t (h1 : t < xs.length) (h2 : t < ys.length),t < j → xs[t] = ys[t]) ∧ ∃ n,wr = w.drewN n) (fun i _ => xs.length - (intOf i).toNat)
 case atStart => exact ⟨⟨0,by omega,rfl,by intro t _ _ h; omega⟩,0,rfl⟩
 case round =>
  obtain ⟨⟨j,hj,rfl,hp⟩,n,rfl⟩:=hrel
  replace hp:=Lib.hid hp
  by_cases hlt : j < xs.length
  ·have i1:=h.idx j hlt
   have i2:=k.idx j (by omega)
   have c1 : w.cell? (valAt v j) = some (.int .i64 xs[j]):=h.cell j hlt
   have c2 : w.cell? (valAt u j) = some (.int .i64 ys[j]):=k.cell j (by omega)
   clear h k
   by_cases he : xs[j] = ys[j]
   ·have hq : (xs[j] != ys[j]) = false:=by simp [he]
    have hE:=Lib.hid he
    clear he
    generalize hx : xs[j] = x at c1 hq
    generalize hy : ys[j] = y at c2 hq
    clear hx hy
    go_wp2
    go_quiet (fail)
    go_wp2
    go_roundw
    case rel =>
     refine ⟨⟨j + 1,by omega,by go_num,?_⟩,_,rfl⟩
     intro t h1 h2 ht
     by_cases e : t = j
     ·subst e; exact hE.out
     ·exact hp.out t h1 h2 (by omega)
    case measure => simp [intOf]; omega
   ·have hq : (xs[j] != ys[j]) = true:=by simp [he]
    have hE:=Lib.hid he
    clear he
    generalize hx : xs[j] = x at c1 hq
    generalize hy : ys[j] = y at c2 hq
    clear hx hy
    go_wp2
    go_quiet (fail)
    go_wp2
    go_ret
    refine ⟨_,ret_bool ?_,World.drewN_drewN ..⟩
    symm
    rw [decide_eq_false_iff_not]
    intro e
    exact hE.out (by subst e; rfl)
  ·go_wp2
   go_ret
   refine ⟨_,ret_bool ?_,rfl⟩
   symm
   rw [decide_eq_true_iff]
   exact List.ext_getElem hl'.out fun t h1 h2 => hp.out t h1 h2 (by omega)
end Go.Proofs.YtjiadfblphdchaaGreatDoor
namespace Go.Proofs.YtjiadfblphdchaaGreatDoor
open Go.RowKit
set_option maxRecDepth 100000
/-- The marks. -/
def mkA (t : Nat) : Int:=-2 * (t : Int) - 1
def mkB (t : Nat) : Int:=-2 * (t : Int) - 2
/-- The lists of a list. -/
def vAt (vs : List Value) (t : Nat) : Value:=vs.getD t undef
theorem ValsAt.cellV {w : World} {v : Value} {vs : List Value} (h : ValsAt w v vs) (i : Nat) (hi : i < vs.length) : w.cell? (valAt v i) = some (vAt vs i):=by
 rw [h.cell i hi]; simp [vAt,List.getD,hi]
/-- No two share memory, and none with the list that holds them. -/
structure Parted (lv : Value) (vs : List Value) : Prop where
 two : ∀ s t,s < vs.length → t < vs.length → s ≠ t → (vAt vs s).ownBlock = none ∨ (vAt vs s).ownBlock ≠ (vAt vs t).ownBlock
 top : ∀ i t,i < vs.length → t < vs.length → (vAt vs t).ownBlock ≠ some (valAt lv i).block
theorem ValsAt.grown {w w' : World} {row : Option Nat} {v : Value} {vs : List Value} (h : ValsAt w v vs) (hg : w.grownBy w' row) (hne : ∀ i,i < vs.length → row ≠ some (valAt v i).block) : ValsAt w' v vs :=
 h.cells_eq fun i hi => World.cell?_of_block (hg.block _ (h.blk i hi) (fun e => hne i hi e.symm))
/-- What list t reads once all are written over; and once it is grown. -/
def rA (X : Nat → List Int) (t : Nat) : List Int:=List.replicate (X t).length (mkA t)
def rB (X : Nat → List Int) (t : Nat) (j : Nat) : List Int:=rA X t ++ List.replicate j (mkB t)
theorem rB_zero (X : Nat → List Int) (t : Nat) : rB X t 0 = rA X t:=by simp [rB]
theorem rB_succ (X : Nat → List Int) (t j : Nat) : rB X t (j + 1) = rB X t j ++ [mkB t]:=by simp [rB,List.replicate_succ']
theorem grownBy_trans' {a b c : World} {row row' : Option Nat} (h : a.grownBy b row) (k : b.grownBy c row') (hr : ∀ i,row' = some i → a.heap.size ≤ i) : a.grownBy c row :=
 ⟨k.os.trans h.os,k.tape.trans h.tape,k.output.trans h.output,Nat.le_trans h.size k.size,fun i hi hne => (k.block i (Nat.lt_of_lt_of_le hi h.size) (fun e => by have:=hr i e.symm; omega)).trans (h.block i hi hne)⟩
theorem OwnI.front {B : Nat} {w w' : World} {v v' : Value} {xs ys : List Int} (h : OwnI B w v xs) (h' : OwnI B w' v' (xs ++ ys)) (hb : roomOf v' = roomOf v) : OwnI B w' v xs :=
 OwnV.toI (OwnV.front h.toV (by simpa using h'.toV) hb)
theorem ownBlock_eq {B B' : Nat} {w w' : World} {v v' : Value} {xs ys : List Int} (h : OwnI B w v xs) (h' : OwnI B' w' v' ys) (hr : roomOf v' = roomOf v) : v'.ownBlock = v.ownBlock:=by
 obtain ⟨a,n,c,e⟩:=h.at.shape
 obtain ⟨a',n',c',e'⟩:=h'.at.shape
 exact ownBlock_of_room e e' hr
/-- While list k grows. -/
structure Grows (B : Nat) (X : Nat → List Int) (k : Nat) (v : Value) (wi : World) (q : Nat) (g : Value) (wr : World) : Prop where
 own : OwnI B wr g (rB X k q)
 old : OwnI B wr v (rA X k)
 step : wi.grownBy wr v.ownBlock
 lt : ∀ b,v.ownBlock = some b → b < wi.heap.size
 at_ : (roomOf g = roomOf v) ∨ ∃ b,g.ownBlock = some b ∧ wi.heap.size ≤ b
theorem Grows.start {B : Nat} {X : Nat → List Int} {k : Nat} {v : Value} {wi : World} (h : OwnI B wi v (rA X k)) : Grows B X k v wi 0 v wi :=
 ⟨by rw [rB_zero]; exact h,h,World.grownBy.refl _ _,fun b hb => (h.lt b hb).2,.inl rfl⟩
theorem Grows.next {B : Nat} {X : Nat → List Int} {k : Nat} {v : Value} {wi : World} {q : Nat} {g : Value} {wr : World} (h : Grows B X k v wi q g wr) {g' : Value} {w' : World}
 (ho : OwnI B w' g' (rB X k q ++ [mkB k])) (ha : (roomOf g' = roomOf g ∧ wr.grownBy w' g.ownBlock) ∨ (∃ b,g'.ownBlock = some b ∧ wr.heap.size ≤ b ∧ wr.grownBy w' none)) : Grows B X k v wi (q + 1) g' w':=by
 rw [← rB_succ] at ho
 have hsz:=h.step.size
 rcases ha with ⟨hr,hg⟩ | ⟨b,hb,hlt,hg⟩
 ·rcases h.at_ with hat | ⟨b0,hb0,hlt0⟩
  ·have e:=ownBlock_eq h.old h.own hat
   rw [e] at hg
   exact ⟨ho,OwnI.front h.old (ys:=List.replicate (q + 1) (mkB k)) ho (hr.trans hat),h.step.trans hg,h.lt,.inl (hr.trans hat)⟩
  ·have e:=ownBlock_eq h.own ho hr
   have hne : v.ownBlock = none ∨ v.ownBlock ≠ g.ownBlock:=by
    cases hv : v.ownBlock with
    | none => exact .inl rfl
    | some kv =>
     right
     rw [hb0]
     intro e2
     simp at e2
     have:=h.lt kv hv
     omega
   exact ⟨ho,h.old.kept hg hne,grownBy_trans' h.step hg (fun i hi => by rw [hb0] at hi; simp at hi; omega),h.lt,.inr ⟨b0,by rw [e]; exact hb0,hlt0⟩⟩
 ·exact ⟨ho,h.old.kept hg (by cases hv : v.ownBlock <;> simp),grownBy_trans' h.step hg (by intro i hi; cases hi),h.lt,.inr ⟨b,hb,by omega⟩⟩
/-- What holds of the grown lists up to k. -/
structure Grown (B : Nat) (X : Nat → List Int) (vs : List Value) (gv : Value) (k : Nat) (gl : List Value) (wr : World) : Prop where
 own : ∀ t,t < k → OwnI B wr (vAt gl t) (rB X t 40)
 far : ∀ t s,t < k → s < vs.length → s ≠ t → (vAt vs s).ownBlock = none ∨ (vAt gl t).ownBlock ≠ (vAt vs s).ownBlock
 top : ∀ t,t < k → (vAt gl t).ownBlock ≠ gv.ownBlock
theorem ne_or {x row : Option Nat} (h : row = none ∨ x ≠ row) : x = none ∨ x ≠ row:=by
 rcases h with rfl | h
 ·cases x <;> simp
 ·exact .inr h
theorem Grows.gv {B kg : Nat} {X : Nat → List Int} {k : Nat} {v g gv : Value} {wi wr : World} {gl : List Value} {q : Nat} (h : Grows B X k v wi q g wr) (hgo : OwnV 22 kg wi gv gl) (hne : gv.ownBlock ≠ v.ownBlock ∨ v.ownBlock = none) : OwnV 22 kg wr gv gl :=
 hgo.kept h.step (ne_or hne.symm)
end Go.Proofs.YtjiadfblphdchaaGreatDoor
namespace Go.Proofs.YtjiadfblphdchaaGreatDoor
open Go.RowKit
theorem Below.step {w1 w2 w3 : World} (h : Below w1.heap.size w1 w2) (k : Below w2.heap.size w2 w3) : Below w1.heap.size w1 w3:=h.trans (k.mono h.size)
theorem belowAlloc (w : World) (o : Obj) : Below w.heap.size w (w.alloc o):=(Below.refl _ _).alloc (Nat.le_refl _) _
/-- Lists of their own, from block lo on, one behind the other. -/
def Owns (w : World) : Nat → List Value → List (List Int) → Prop
 | lo,[],[] => lo ≤ w.heap.size
 | lo,v :: vs,x :: xs => ∃ hi,lo ≤ hi ∧ OwnI lo w v x ∧ (∀ k,v.ownBlock = some k → k < hi) ∧ Owns w hi vs xs
 | _,_,_ => False
theorem Owns.get {w : World} : ∀ {vs : List Value} {xs : List (List Int)} {lo : Nat},Owns w lo vs xs → vs.length = xs.length ∧ ∀ t,t < vs.length → OwnI lo w (vAt vs t) (xs.getD t [])
 | [],[],_,_ => ⟨rfl,by intro t h; simp at h⟩
 | v :: vs,x :: xs,lo,⟨hi,hle,ho,_,hr⟩ => by
  obtain ⟨hl,hg⟩:=Owns.get hr
  refine ⟨by simp [hl],fun t ht => ?_⟩
  cases t with
  | zero => exact ho
  | succ t => exact (hg t (by simpa using ht)).mono hle
 | [],_ :: _,_,h => h.elim
 | _ :: _,[],_,h => h.elim
theorem Owns.two {w : World} : ∀ {vs : List Value} {xs : List (List Int)} {lo : Nat},Owns w lo vs xs → ∀ s t,s < vs.length → t < vs.length → s ≠ t → (vAt vs s).ownBlock = none ∨ (vAt vs s).ownBlock ≠ (vAt vs t).ownBlock
 | [],[],_,_,s,t,hs,_,_ => by simp at hs
 | v :: vs,x :: xs,lo,⟨hi,hle,ho,hlt,hr⟩,s,t,hs,ht,hne => by
  have hg:=(Owns.get hr).2
  have key : ∀ t,t < vs.length → ∀ k,v.ownBlock = some k → (vAt vs t).ownBlock ≠ some k:=fun t ht k hk e => by
   have h1:=hlt k hk
   have h2:=((hg t ht).lt k e).1
   omega
  match s,t,hs,ht,hne with
  | 0,0,_,_,hne => exact absurd rfl hne
  | 0,t + 1,_,ht,_ =>
   show v.ownBlock = none ∨ v.ownBlock ≠ (vAt vs t).ownBlock
   cases hk : v.ownBlock with
   | none => exact .inl rfl
   | some k => exact .inr fun e => key t (by simpa using ht) k hk e.symm
  | s + 1,0,hs,_,_ =>
   show (vAt vs s).ownBlock = none ∨ (vAt vs s).ownBlock ≠ v.ownBlock
   cases hk : v.ownBlock with
   | none => cases (vAt vs s).ownBlock <;> simp
   | some k => exact .inr (key s (by simpa using hs) k hk)
  | s + 1,t + 1,hs,ht,hne => exact Owns.two hr s t (by simpa using hs) (by simpa using ht) (by omega)
 | [],_ :: _,_,h,_,_,_,_,_ => h.elim
 | _ :: _,[],_,h,_,_,_,_,_ => h.elim
theorem Owns.alloc {w : World} (o : Obj) : ∀ {vs : List Value} {xs : List (List Int)} {lo : Nat},Owns w lo vs xs → Owns (w.alloc o) lo vs xs
 | [],[],lo,h => by show lo ≤ (w.alloc o).heap.size; have : lo ≤ w.heap.size:=h; simp; omega
 | v :: vs,x :: xs,lo,⟨hi,hle,ho,hlt,hr⟩ => ⟨hi,hle,ho.alloc o,hlt,Owns.alloc o hr⟩
 | [],_ :: _,_,h => h.elim
 | _ :: _,[],_,h => h.elim
end Go.Proofs.YtjiadfblphdchaaGreatDoor
namespace Go.Proofs.YtjiadfblphdchaaGreatDoor
open Go.RowKit
/-- A row: its elements' type, how many cells each has, the slice value, how many elements, the cells. -/
structure Row where
 E : TypeId
 size : Nat
 v : Value
 n : Nat
 xs : List Value
def Row.own (B : Nat) (w : World) (r : Row) : Prop:=w.ownsRow B r.E r.size r.v r.n r.xs
abbrev Names:=Nat × Nat → Option Row
/-- The rows lie where they lie, no two in one block. -/
def Rows (B : Nat) (w : World) (f : Names) : Prop :=
 (∀ i r,f i = some r → r.own B w) ∧ (∀ i j r s,f i = some r → f j = some s → i ≠ j → r.v.ownBlock = none ∨ r.v.ownBlock ≠ s.v.ownBlock)
def upd (f : Names) (i : Nat × Nat) (r : Option Row) : Names:=fun j => if j = i then r else f j
theorem upd_same (f : Names) (i : Nat × Nat) (r : Option Row) : upd f i r i = r:=by simp [upd]
theorem upd_ne (f : Names) {i j : Nat × Nat} (r : Option Row) (h : j ≠ i) : upd f i r j = f j:=by simp [upd,h]
theorem Rows.below {B : Nat} {w w' : World} {f : Names} (h : Rows B w f) (hb : Below w.heap.size w w') : Rows B w' f :=
 ⟨fun i r hi => by
   have ho:=h.1 i r hi
   refine ⟨ho.1,?_⟩
   rcases ho.2 with h2 | ⟨g,cap,cur,e,hB,hg,rest⟩
   ·exact .inl h2
   ·exact .inr ⟨g,cap,cur,e,hB,by rw [hb.block g (Array.getElem?_eq_some_iff.1 hg).1]; exact hg,rest⟩,h.2⟩
theorem Rows.drop {B : Nat} {w : World} {f : Names} (h : Rows B w f) (i : Nat × Nat) : Rows B w (upd f i none) :=
 ⟨fun j r hj => by
   by_cases e : j = i
   ·subst e; rw [upd_same] at hj; cases hj
   ·rw [upd_ne _ _ e] at hj; exact h.1 j r hj,fun j k r s hj hk hne => by
   by_cases e : j = i
   ·subst e; rw [upd_same] at hj; cases hj
   by_cases e' : k = i
   ·subst e'; rw [upd_same] at hk; cases hk
   rw [upd_ne _ _ e] at hj
   rw [upd_ne _ _ e'] at hk
   exact h.2 j k r s hj hk hne⟩
theorem Rows.lt {B : Nat} {w : World} {f : Names} (h : Rows B w f) {i : Nat × Nat} {r : Row} (hi : f i = some r) : ∀ k,r.v.ownBlock = some k → B ≤ k ∧ k < w.heap.size:=World.ownsRow.lt (h.1 i r hi)
/-- What was done in row i alone: the row is now r'; it lies where it lay, or in a new block. -/
theorem Rows.grown {B : Nat} {w w' : World} {f : Names} {i : Nat × Nat} {r r' : Row} (h : Rows B w f) (hi : f i = some r) (hg : w.grownBy w' r.v.ownBlock) (ho : r'.own B w') (hb : r'.v.ownBlock = r.v.ownBlock ∨ ∃ k,r'.v.ownBlock = some k ∧ w.heap.size ≤ k) :
 Rows B w' (upd f i (some r')):=by
 have far : ∀ j s,f j = some s → j ≠ i → s.v.ownBlock = none ∨ s.v.ownBlock ≠ r'.v.ownBlock:=fun j s hj hne => by
  rcases hb with e | ⟨k,e,hk⟩
  ·rw [e]; exact h.2 j i s r hj hi hne
  ·cases hs : s.v.ownBlock with
   | none => exact .inl rfl
   | some m =>
    have:=(h.lt hj m hs).2
    right; rw [e]; intro e2; injection e2 with e2; omega
 refine ⟨fun j s hj => ?_,fun j k s t hj hk hne => ?_⟩
 ·by_cases e : j = i
  ·subst e; rw [upd_same] at hj; cases hj; exact ho
  ·rw [upd_ne _ _ e] at hj
   exact World.ownsRow.kept (h.1 j s hj) hg (h.2 j i s r hj hi e)
 ·by_cases e : j = i
  ·subst e
   rw [upd_same] at hj; cases hj
   rw [upd_ne _ _ (Ne.symm hne)] at hk
   rcases far k t hk (Ne.symm hne) with e2 | e2
   ·cases hr : r'.v.ownBlock with
    | none => exact .inl rfl
    | some m => right; rw [e2]; simp
   ·exact .inr (Ne.symm e2)
  ·rw [upd_ne _ _ e] at hj
   by_cases e' : k = i
   ·subst e'; rw [upd_same] at hk; cases hk
    exact far j s hj e
   ·rw [upd_ne _ _ e'] at hk
    exact h.2 j k s t hj hk hne
/-- A new row, in a new block (or nil). -/
theorem Rows.fresh {B : Nat} {w w' : World} {f : Names} {i : Nat × Nat} {r' : Row} (h : Rows B w f) (hg : w.grownBy w' none) (ho : r'.own B w') (hb : ∀ k,r'.v.ownBlock = some k → w.heap.size ≤ k) :
 Rows B w' (upd f i (some r')):=by
 refine ⟨fun j s hj => ?_,fun j k s t hj hk hne => ?_⟩
 ·by_cases e : j = i
  ·subst e; rw [upd_same] at hj; cases hj; exact ho
  ·rw [upd_ne _ _ e] at hj
   exact World.ownsRow.kept (h.1 j s hj) hg (by cases s.v.ownBlock <;> simp)
 ·by_cases e : j = i
  ·subst e
   rw [upd_same] at hj; cases hj
   rw [upd_ne _ _ (Ne.symm hne)] at hk
   cases hr : r'.v.ownBlock with
   | none => exact .inl rfl
   | some m =>
    right; intro e2
    have h1:=hb m hr
    have h2:=(h.lt hk m e2.symm).2
    omega
  ·rw [upd_ne _ _ e] at hj
   by_cases e' : k = i
   ·subst e'; rw [upd_same] at hk; cases hk
    cases hs : s.v.ownBlock with
    | none => exact .inl rfl
    | some m =>
     right; intro e2
     have h1:=hb m e2.symm
     have h2:=(h.lt hj m hs).2
     omega
   ·rw [upd_ne _ _ e'] at hk
    exact h.2 j k s t hj hk hne
theorem below_grows {w w' : World} (h : Below w.heap.size w w') (row : Option Nat) : w.grownBy w' row:=⟨h.os,h.tape,h.output,h.size,fun k hk _ => h.block k hk⟩
/-- A new row, made by a call that keeps what was. -/
theorem Rows.add {B : Nat} {w w' : World} {f : Names} {i : Nat × Nat} {r' : Row} (h : Rows B w f) (hb : Below w.heap.size w w') (ho : r'.own B w') (hn : ∀ k,r'.v.ownBlock = some k → w.heap.size ≤ k) : Rows B w' (upd f i (some r')) :=
 h.fresh (below_grows hb none) ho hn
/-- The block of a row that is not nil. -/
theorem Row.own.shape {B : Nat} {w : World} {r : Row} (h : r.own B w) (hn : 0 < r.n) : ∃ g cap,r.v = .slice (some ⟨g,0,none⟩) r.n cap ∧ B ≤ g:=by
 rcases h.2 with ⟨_,h0⟩ | ⟨g,cap,cur,e,hB,_⟩
 ·omega
 ·exact ⟨g,cap,e,hB⟩
/-- A store into cell k of row i. -/
theorem Rows.set {B : Nat} {w : World} {f : Names} {i : Nat × Nat} {r : Row} (h : Rows B w f) (hi : f i = some r) {g cap : Nat} (hv : r.v = .slice (some ⟨g,0,none⟩) r.n cap) (k : Nat) (y : Value) :
 Rows B (w.setCell ⟨g,k,none⟩ y) (upd f i (some { r with xs:=r.xs.set k y })):=by
 have ho:=h.1 i r hi
 unfold Row.own at ho
 rw [hv] at ho
 have hs:=World.ownsRow.stored ho k y
 refine h.grown hi (by rw [hv]; exact hs.2) ?_ (.inl rfl)
 unfold Row.own
 rw [hv]
 exact hs.1
theorem Rows.cell {B : Nat} {w : World} {f : Names} {i : Nat × Nat} {r : Row} (h : Rows B w f) (hi : f i = some r) {g cap : Nat} (hv : r.v = .slice (some ⟨g,0,none⟩) r.n cap) (k : Nat) (hk : k < r.n * r.size) : w.cell? ⟨g,k,none⟩ = r.xs[k]?:=by
 have ho:=h.1 i r hi
 unfold Row.own at ho
 rw [hv] at ho
 exact ho.cellAt k hk
theorem Rows.frozen {B : Nat} {w : World} {f : Names} {i : Nat × Nat} {r : Row} (h : Rows B w f) (hi : f i = some r) {g cap : Nat} (hv : r.v = .slice (some ⟨g,0,none⟩) r.n cap) (k : Nat) : w.frozen? ⟨g,k,none⟩ = false:=by
 have ho:=h.1 i r hi
 unfold Row.own at ho
 rw [hv] at ho
 exact ho.frozenAt k
theorem Rows.congr {B : Nat} {w : World} {f f' : Names} (h : Rows B w f) (e : ∀ i,f' i = f i) : Rows B w f':=by
 rw [show f' = f from funext e]; exact h
theorem Rows.drew {B : Nat} {w : World} {f : Names} (h : Rows B w f) : Rows B w.drew f:=h
theorem Rows.drewN {B : Nat} {w : World} {f : Names} (h : Rows B w f) (n : Nat) : Rows B (w.drewN n) f:=h
/-- A row of ints, of whatever one-cell values. -/
abbrev rowI (v : Value) (xs : List Int) : Row:=⟨3,1,v,xs.length,xs.map (Value.int .i64)⟩
abbrev rowV (E : TypeId) (v : Value) (vs : List Value) : Row:=⟨E,1,v,vs.length,vs⟩
theorem Rows.ownI {B : Nat} {w : World} {f : Names} {i : Nat × Nat} {v : Value} {xs : List Int} (h : Rows B w f) (hi : f i = some (rowI v xs)) : OwnI B w v xs:=h.1 i _ hi
theorem Rows.ownV {B : Nat} {w : World} {f : Names} {i : Nat × Nat} {E : TypeId} {v : Value} {vs : List Value} (h : Rows B w f) (hi : f i = some (rowV E v vs)) : OwnV E B w v vs:=h.1 i _ hi
/-- A store into element k of a row of ints. -/
theorem Rows.setI {B : Nat} {w : World} {f : Names} {i : Nat × Nat} {v : Value} {xs : List Int} (h : Rows B w f) (hi : f i = some (rowI v xs)) (k : Nat) (hk : k < xs.length) (y : Int) :
 Rows B (w.setCell (valAt v k) (.int .i64 y)) (upd f i (some (rowI v (xs.set k y)))):=by
 have ho:=h.ownI hi
 have hs:=ho.set k hk y
 refine h.grown hi ?_ hs (.inl rfl)
 have:=ho.toV.setGrown k (by simpa using hk) (.int .i64 y)
 exact this
theorem Rows.setV {B : Nat} {w : World} {f : Names} {i : Nat × Nat} {E : TypeId} {v : Value} {vs : List Value} (h : Rows B w f) (hi : f i = some (rowV E v vs)) (k : Nat) (hk : k < vs.length) (y : Value) :
 Rows B (w.setCell (valAt v k) y) (upd f i (some (rowV E v (vs.set k y)))):=by
 have ho:=h.ownV hi
 refine h.grown hi (ho.setGrown k hk y) ?_ (.inl rfl)
 have:=ho.set k hk y
 unfold Row.own
 exact this
end Go.Proofs.YtjiadfblphdchaaGreatDoor
