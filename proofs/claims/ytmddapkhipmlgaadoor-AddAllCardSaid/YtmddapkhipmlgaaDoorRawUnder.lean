/-
  Walk: edenraw.Under at an error.
-/
import Derived.Test.YtmddapkhipmlgaaDoorRawErr
namespace Go.Proofs.YtmddapkhipmlgaaDoor
open Go.RowKit
set_option maxRecDepth 100000

theorem ValsAt.shape {w : World} {v : Value} {vs : List Value} (h : ValsAt w v vs) : ∃ a n c, v = .slice a n c := by
  obtain ⟨a, cap, e, _⟩ := h; exact ⟨_, _, _, e⟩
theorem cell_keep {w w' : World} {b i : Nat} {x : Value} (hb : Below w.heap.size w w') (h : w.cell? ⟨b, i, none⟩ = some x) : w'.cell? ⟨b, i, none⟩ = some x :=
  (hb.cell (p := ⟨b, i, none⟩) (World.block_lt_of_cell? _ _ h)).trans h
theorem cell_alloc {w : World} {b i : Nat} {x : Value} (h : w.cell? ⟨b, i, none⟩ = some x) (o : Obj) : (w.alloc o).cell? ⟨b, i, none⟩ = some x := cell_keep ((Below.refl _ _).alloc (Nat.le_refl _) _) h
theorem cell_new {w : World} {b : Nat} {x : Value} {T : TypeId} (hb : b = w.heap.size) : (w.alloc (.cells #[x] T)).cell? ⟨b, 0, none⟩ = some x := by subst hb; simp
theorem cell_drew {w : World} {b i : Nat} {x : Value} (h : w.cell? ⟨b, i, none⟩ = some x) : w.drew.cell? ⟨b, i, none⟩ = some x := h

/-- Three cells of a variable of the call's own. -/
def Box3 (w : World) (b : Nat) (x0 x1 x2 : Value) : Prop := (w.cell? ⟨b, 0, none⟩ = some x0 ∧ w.cell? ⟨b, 1, none⟩ = some x1 ∧ w.cell? ⟨b, 2, none⟩ = some x2) ∧ w.frozen? ⟨b, 0, none⟩ = false ∧ w.frozen? ⟨b, 1, none⟩ = false ∧ w.frozen? ⟨b, 2, none⟩ = false
theorem Box3.below {w w' : World} {b : Nat} {x0 x1 x2 : Value} (h : Box3 w b x0 x1 x2) (hb : Below w.heap.size w w') : Box3 w' b x0 x1 x2 := by
  obtain ⟨⟨h0, h1, h2⟩, f0, f1, f2⟩ := h
  have hlt := World.block_lt_of_cell? _ _ h0
  exact ⟨⟨cell_keep hb h0, cell_keep hb h1, cell_keep hb h2⟩, (hb.frozen (p := ⟨b, 0, none⟩) hlt).trans f0, (hb.frozen (p := ⟨b, 1, none⟩) hlt).trans f1, (hb.frozen (p := ⟨b, 2, none⟩) hlt).trans f2⟩
theorem Box3.alloc {w : World} {b : Nat} {x0 x1 x2 : Value} (h : Box3 w b x0 x1 x2) (o : Obj) : Box3 (w.alloc o) b x0 x1 x2 := h.below ((Below.refl _ _).alloc (Nat.le_refl _) _)
theorem Box3.drew {w : World} {b : Nat} {x0 x1 x2 : Value} (h : Box3 w b x0 x1 x2) : Box3 w.drew b x0 x1 x2 := h
theorem OwnV.drew {E : TypeId} {B : Nat} {w : World} {v : Value} {vs : List Value} (h : OwnV E B w v vs) : OwnV E B w.drew v vs := h
theorem Below.allocL {w w' : World} (h : Below w.heap.size w w') (o : Obj) : Below w.heap.size w (w'.alloc o) := h.alloc h.size o
theorem Below.stepL {w1 w2 w3 : World} (h : Below w1.heap.size w1 w2) (k : Below w2.heap.size w2 w3) : Below w1.heap.size w1 w3 := h.trans (k.mono h.size)
theorem belowAlloc' (w : World) (o : Obj) : Below w.heap.size w (w.alloc o) := (Below.refl _ _).alloc (Nat.le_refl _) _
theorem Below.drewL {w w' : World} {n : Nat} (h : Below n w w') : Below n w w'.drew := h.drew

set_option maxHeartbeats 1000000 in
theorem raw_under_some (op : ByteArray) (at_ : Int) (n : Int) (l : List (ByteArray × Int)) (v : Value) (w : World) (h : EAt w (some (n, l)) v) (hn : 1 ≤ n) (hl : 1 ≤ l.length) (hl2 : l.length ≤ 1000) :
    Calls Tryd.prog 73 #[.string op, .int .i64 at_, v] w (Ret1 (fun x w' => EOwn w.heap.size w' (under op at_ (some (n, l))) x) w) := by
  obtain ⟨a1, n1, c1, a2, n2, c2, rfl, hv, hi⟩ := h
  have b2 := (Below.refl w.heap.size w).alloc (Nat.le_refl _) (.cells #[.int .i64 n, .slice a1 n1 c1, .slice a2 n2 c2] 55) |>.alloc (by simp) (.cells #[.int .i64 0, .slice none 0 0, .slice none 0 0] 55)
  have hn0 : (n == 0) = false := by rw [beq_eq_false_iff_ne]; omega
  have hvl : 0 < (l.map fun x => Value.string x.1).length := by simp; omega
  have hvl2 : (l.map fun x => Value.string x.1).length ≤ 1000 := by simpa using hl2
  have hil : 0 < ((l.map (·.2)).map (Value.int .i64)).length := by simp; omega
  have hil2 : ((l.map (·.2)).map (Value.int .i64)).length ≤ 1000 := by simpa using hl2
  have hv1 : Hid (∀ u ∈ (l.map fun x => Value.string x.1), u.oneCell' = true) := by intro u hu; obtain ⟨y, _, rfl⟩ := List.mem_map.1 hu; rfl
  have hi1 : Hid (∀ u ∈ ((l.map (·.2)).map (Value.int .i64)), u.oneCell' = true) := by intro u hu; obtain ⟨y, _, rfl⟩ := List.mem_map.1 hu; rfl
  replace hv := Lib.hid (hv.below b2)
  replace hi := Lib.hid (hi.below b2).vals
  have hpost : ∀ (a1 : Option Addr) (n1 c1 : Nat) (a2 : Option Addr) (n2 c2 : Nat) (w' : World), OwnV 9 (w.heap.size + 2) w' (.slice a1 n1 c1) (.string op :: l.map fun x => Value.string x.1) → OwnV 3 (w.heap.size + 2) w' (.slice a2 n2 c2) (.int .i64 at_ :: (l.map (·.2)).map (Value.int .i64)) → EOwn w.heap.size w' (under op at_ (some (n, l))) (.agg #[.int .i64 n, .slice a1 n1 c1, .slice a2 n2 c2]) :=
    fun a1 n1 c1 a2 n2 c2 w' h1 h2 => ⟨_, _, _, _, _, _, rfl, h1.mono (by omega), h2.mono (by omega)⟩
  replace hpost := Lib.hid hpost
  generalize (l.map fun x => Value.string x.1) = LS at *
  generalize ((l.map (·.2)).map (Value.int .i64)) = LI at *
  go_enter Tryd.func73, Tryd.ntmps73
  go_wp2
  have yy : Box3 ((w.alloc (.cells #[.int .i64 n, .slice a1 n1 c1, .slice a2 n2 c2] 55)).alloc (.cells #[.int .i64 0, .slice none 0 0, .slice none 0 0] 55)) (w.heap.size + 1) (.int .i64 0) (.slice none 0 0) (.slice none 0 0) := by simp [Box3, go_sem]
  have z0 : ((w.alloc (.cells #[.int .i64 n, .slice a1 n1 c1, .slice a2 n2 c2] 55)).alloc (.cells #[.int .i64 0, .slice none 0 0, .slice none 0 0] 55)).cell? ⟨w.heap.size, 0, none⟩ = some (.int .i64 n) := by simp
  have z1 : ((w.alloc (.cells #[.int .i64 n, .slice a1 n1 c1, .slice a2 n2 c2] 55)).alloc (.cells #[.int .i64 0, .slice none 0 0, .slice none 0 0] 55)).cell? ⟨w.heap.size, 1, none⟩ = some (.slice a1 n1 c1) := by simp
  have z2 : ((w.alloc (.cells #[.int .i64 n, .slice a1 n1 c1, .slice a2 n2 c2] 55)).alloc (.cells #[.int .i64 0, .slice none 0 0, .slice none 0 0] 55)).cell? ⟨w.heap.size, 2, none⟩ = some (.slice a2 n2 c2) := by simp
  obtain ⟨W, hW⟩ : ∃ W : World, W = ((w.alloc (.cells #[.int .i64 n, .slice a1 n1 c1, .slice a2 n2 c2] 55)).alloc (.cells #[.int .i64 0, .slice none 0 0, .slice none 0 0] 55)) := ⟨_, rfl⟩
  have hWs : w.heap.size + 2 ≤ W.heap.size := by rw [hW]; simp
  rw [← hW] at b2 hv hi yy z0 z1 z2 ⊢
  clear hW
  go_region_held3 (fun w' => w'.cell? ⟨w.heap.size, 0, none⟩ = some (.int .i64 n) ∧ w'.cell? ⟨w.heap.size, 1, none⟩ = some (.slice a1 n1 c1) ∧ w'.cell? ⟨w.heap.size, 2, none⟩ = some (.slice a2 n2 c2))
    (first | exact ⟨z0, z1, z2⟩ | exact ⟨kS0, kS1, kS2⟩ | exact ⟨kI0, kI1, kI2⟩ | (simp [kI0, kI1, kI2, World.cell?_setCell_far]; done) | (simp [kS0, kS1, kS2, World.cell?_setCell_far]; done) | ((refine ⟨?_, ?_, ?_⟩) <;> (repeat (first | with_reducible exact z0 | with_reducible exact z1 | with_reducible exact z2 | with_reducible exact kS0 | with_reducible exact kS1 | with_reducible exact kS2 | with_reducible exact kI0 | with_reducible exact kI1 | with_reducible exact kI2 | with_reducible refine cell_drew ?_ | with_reducible refine cell_alloc ?_ _))))
    (first
    | (refine step_under oneStrs rfl _ _ rfl _ (.string op) rfl ?_ (.slice a1 n1 c1) LS rfl ?_ hvl hvl2 hv1.out ?_
       · repeat (first | with_reducible refine cell_drew ?_ | with_reducible refine cell_new (by simp; done) | with_reducible refine cell_alloc ?_ _ | with_reducible refine cell_keep hbI ?_)
       · repeat (first | with_reducible exact hv.out | with_reducible refine ValsAt.drew ?_ | with_reducible refine ValsAt.alloc ?_ _ | with_reducible refine ValsAt.below ?_ hbI)
       intro vS wS hS hbS
       obtain ⟨sa, sn, sc, rfl⟩ := hS.shape
       have eS : Below W.heap.size W wS := Below.stepL (by repeat (first | with_reducible exact Below.refl _ _ | with_reducible refine Below.drewL ?_ | with_reducible refine Below.allocL ?_ _)) hbS
       have mS : OwnV 9 (w.heap.size + 2) wS (.slice sa sn sc) (.string op :: LS) := hS.mono (by simp; omega)
       have kS0 : wS.cell? ⟨w.heap.size, 0, none⟩ = some (.int .i64 n) := cell_keep hbS (by repeat (first | with_reducible exact z0 | with_reducible exact kI0 | with_reducible refine cell_drew ?_ | with_reducible refine cell_alloc ?_ _))
       have kS1 : wS.cell? ⟨w.heap.size, 1, none⟩ = some (.slice a1 n1 c1) := cell_keep hbS (by repeat (first | with_reducible exact z1 | with_reducible exact kI1 | with_reducible refine cell_drew ?_ | with_reducible refine cell_alloc ?_ _))
       have kS2 : wS.cell? ⟨w.heap.size, 2, none⟩ = some (.slice a2 n2 c2) := cell_keep hbS (by repeat (first | with_reducible exact z2 | with_reducible exact kI2 | with_reducible refine cell_drew ?_ | with_reducible refine cell_alloc ?_ _))
       have yS : Box3 wS (w.heap.size + 1) (.int .i64 0) (.slice none 0 0) (.slice none 0 0) := Box3.below (by repeat (first | with_reducible exact yy | with_reducible exact yI | with_reducible refine Box3.drew ?_ | with_reducible refine Box3.alloc ?_ _)) hbS
       have yS' := yS
       obtain ⟨⟨qS0, qS1, qS2⟩, gS0, gS1, gS2⟩ := yS')
    | (refine step_under oneInts rfl _ _ rfl _ (.int .i64 at_) rfl ?_ (.slice a2 n2 c2) LI rfl ?_ hil hil2 hi1.out ?_
       · repeat (first | with_reducible refine cell_drew ?_ | with_reducible refine cell_new (by simp; done) | with_reducible refine cell_alloc ?_ _ | with_reducible refine cell_keep hbS ?_)
       · repeat (first | with_reducible exact hi.out | with_reducible refine ValsAt.drew ?_ | with_reducible refine ValsAt.alloc ?_ _ | with_reducible refine ValsAt.below ?_ hbS)
       intro vI wI hI hbI
       obtain ⟨ia, im, ic, rfl⟩ := hI.shape
       have eI : Below W.heap.size W wI := Below.stepL (by repeat (first | with_reducible exact eS | with_reducible refine Below.drewL ?_ | with_reducible refine Below.allocL ?_ _)) hbI
       have mI : OwnV 3 (w.heap.size + 2) wI (.slice ia im ic) (.int .i64 at_ :: LI) := hI.mono (by have := eS.size; simp; omega)
       have mS' : OwnV 9 (w.heap.size + 2) wI (.slice sa sn sc) (.string op :: LS) := OwnV.below (by repeat (first | with_reducible exact mS | with_reducible refine OwnV.drew ?_ | with_reducible refine OwnV.alloc ?_ _)) hbI
       have kI0 : wI.cell? ⟨w.heap.size, 0, none⟩ = some (.int .i64 n) := cell_keep hbI (by repeat (first | with_reducible exact z0 | with_reducible exact kS0 | with_reducible refine cell_drew ?_ | with_reducible refine cell_alloc ?_ _))
       have kI1 : wI.cell? ⟨w.heap.size, 1, none⟩ = some (.slice a1 n1 c1) := cell_keep hbI (by repeat (first | with_reducible exact z1 | with_reducible exact kS1 | with_reducible refine cell_drew ?_ | with_reducible refine cell_alloc ?_ _))
       have kI2 : wI.cell? ⟨w.heap.size, 2, none⟩ = some (.slice a2 n2 c2) := cell_keep hbI (by repeat (first | with_reducible exact z2 | with_reducible exact kS2 | with_reducible refine cell_drew ?_ | with_reducible refine cell_alloc ?_ _))
       have yI : Box3 wI (w.heap.size + 1) (.int .i64 0) (.slice none 0 0) (.slice none 0 0) := Box3.below (by repeat (first | with_reducible exact yy | with_reducible exact yS | with_reducible refine Box3.drew ?_ | with_reducible refine Box3.alloc ?_ _)) hbI
       have yI' := yI
       obtain ⟨⟨qI0, qI1, qI2⟩, gI0, gI1, gI2⟩ := yI'))
  all_goals
    have hE := Lib.hid (hpost.out sa sn sc ia im ic _ (((mS'.setBelowBase (a := ⟨w.heap.size + 1, 0, none⟩) (by simp) (.int .i64 n)).setBelowBase (a := ⟨w.heap.size + 1, 1, none⟩) (by simp) (.slice sa sn sc)).setBelowBase (a := ⟨w.heap.size + 1, 2, none⟩) (by simp) (.slice ia im ic)) (((mI.setBelowBase (a := ⟨w.heap.size + 1, 0, none⟩) (by simp) (.int .i64 n)).setBelowBase (a := ⟨w.heap.size + 1, 1, none⟩) (by simp) (.slice sa sn sc)).setBelowBase (a := ⟨w.heap.size + 1, 2, none⟩) (by simp) (.slice ia im ic)))
    have hB := Lib.hid ((((b2.trans (eI.mono b2.size)).setCell (p := ⟨w.heap.size + 1, 0, none⟩) (by simp) (.int .i64 n)).setCell (p := ⟨w.heap.size + 1, 1, none⟩) (by simp) (.slice sa sn sc)).setCell (p := ⟨w.heap.size + 1, 2, none⟩) (by simp) (.slice ia im ic))
    clear mS mS' mI eS eI kS0 kS1 kS2 kI0 kI1 kI2 yS qS0 qS1 qS2 gS0 gS1 gS2 hS hI hbS hbI
    go_wp2
    exact bodyPost_ret (v := .agg #[.int .i64 n, .slice sa sn sc, .slice ia im ic]) (by simp [results, Tryd.results73, go_sem, qI0, qI1, qI2]) rfl ⟨_, rfl, hB.out, hE.out⟩
end Go.Proofs.YtmddapkhipmlgaaDoor
