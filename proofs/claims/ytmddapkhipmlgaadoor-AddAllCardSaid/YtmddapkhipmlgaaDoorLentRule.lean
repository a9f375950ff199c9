/-
  Walks: edenraw.LentRule, KeptRule.
-/
import Derived.Test.YtmddapkhipmlgaaDoorLent
import Derived.Test.YtmddapkhipmlgaaDoorRefMake
import Derived.Deep.RegionHeld3
namespace Go.Proofs.YtmddapkhipmlgaaDoor
open Go.RowKit
set_option maxRecDepth 100000

theorem LentI.setBelow {B : Nat} {w : World} {m : Value} {xs : List Int} (h : LentI B w m xs) {a : Addr} (ha : a.block < B) (u : Value) : LentI B (w.setCell a u) m xs := by
  obtain ⟨v, e, ho⟩ := h
  exact ⟨v, e, ho.setBelowBase ha u⟩
theorem LentI.mono {B B' : Nat} {w : World} {m : Value} {xs : List Int} (h : LentI B w m xs) (hB : B' ≤ B) : LentI B' w m xs := by
  obtain ⟨v, e, ho⟩ := h
  exact ⟨v, e, ho.mono hB⟩

theorem lentRule_any (k R : Int) (va : Option Addr) (vn vc : Nat) (T : List Int) (w : World) (h : IntsAt w (.slice va vn vc) T) (hl : T.length ≤ 17592186044414) :
    Calls Tryd.prog 30 #[.agg #[.int .i64 k, .int .i64 R, .slice va vn vc]] w (Ret1 (fun x w' => ∃ a n c, x = .agg #[.int .i64 k, .int .i64 R, .slice a n c] ∧ LentI w.heap.size w' (.slice a n c) T) w) := by
  have b0 := Below.step (belowAlloc w (.cells #[.int .i64 k, .int .i64 R, .slice va vn vc] 24)) (belowAlloc _ (.cells #[.int .i64 0, .int .i64 0, .slice none 0 0] 24))
  have q6 : Box3 ((w.alloc (.cells #[.int .i64 k, .int .i64 R, .slice va vn vc] 24)).alloc (.cells #[.int .i64 0, .int .i64 0, .slice none 0 0] 24)) w.heap.size (.int .i64 k) (.int .i64 R) (.slice va vn vc) := by simp [Box3, go_sem]
  have q7 : Box3 ((w.alloc (.cells #[.int .i64 k, .int .i64 R, .slice va vn vc] 24)).alloc (.cells #[.int .i64 0, .int .i64 0, .slice none 0 0] 24)) (w.heap.size + 1) (.int .i64 0) (.int .i64 0) (.slice none 0 0) := by simp [Box3, go_sem]
  replace h := Lib.hid (h.below b0)
  go_enter Tryd.func30, Tryd.ntmps30
  go_wp2
  have hWs : w.heap.size + 2 ≤ ((w.alloc (.cells #[.int .i64 k, .int .i64 R, .slice va vn vc] 24)).alloc (.cells #[.int .i64 0, .int .i64 0, .slice none 0 0] 24)).heap.size := by simp
  obtain ⟨W, hW⟩ : ∃ W : World, W = ((w.alloc (.cells #[.int .i64 k, .int .i64 R, .slice va vn vc] 24)).alloc (.cells #[.int .i64 0, .int .i64 0, .slice none 0 0] 24)) := ⟨_, rfl⟩
  rw [← hW] at b0 q6 q7 h hWs ⊢
  clear hW
  have q6' := q6
  obtain ⟨⟨z0, z1, z2⟩, -, -, -⟩ := q6'
  go_region_held3 (fun w' => w'.cell? ⟨w.heap.size, 0, none⟩ = some (.int .i64 k) ∧ w'.cell? ⟨w.heap.size, 1, none⟩ = some (.int .i64 R) ∧ w'.cell? ⟨w.heap.size, 2, none⟩ = some (.slice va vn vc)) (first | exact ⟨z0, z1, z2⟩ | exact ⟨s0, s1, s2⟩ | (simp [s0, s1, s2, World.cell?_setCell_far]; done))
    (first | (go_at_call 13; refine (lent_any (.slice va vn vc) T _ ?_ hl).mono ?_
              · exact h.out.drew
              rintro e w1 ⟨x, rfl, b1, hx⟩
              have b1' : Below W.heap.size W w1 := (Below.refl W.heap.size W).drew.trans b1
              obtain ⟨a, n, c, rfl⟩ := hx.at.shape
              have s0 := cell_keep b1' z0
              have s1 := cell_keep b1' z1
              have s2 := cell_keep b1' z2
              have q7n := q7.below b1'
              obtain ⟨⟨y0, y1, y2⟩, g0, g1, g2⟩ := q7n))
  have hE := Lib.hid (((hx.setBelow (a := ⟨w.heap.size + 1, 0, none⟩) (show w.heap.size + 1 < W.heap.size by omega) (.int .i64 k)).setBelow (a := ⟨w.heap.size + 1, 1, none⟩) (show w.heap.size + 1 < W.heap.size by omega) (.int .i64 R)).setBelow (a := ⟨w.heap.size + 1, 2, none⟩) (show w.heap.size + 1 < W.heap.size by omega) (.slice a n c))
  have hBf := Lib.hid (below_set3 (Below.stepL b0 b1') (Nat.le_succ w.heap.size) (.int .i64 k) (.int .i64 R) (.slice a n c))
  clear hx b1 b1'
  go_wp2
  exact bodyPost_ret (v := .agg #[.int .i64 k, .int .i64 R, .slice a n c]) (by simp [results, Tryd.results30, go_sem, y0, y1, y2]) rfl ⟨_, rfl, hBf.out, a, n, c, rfl, hE.out.mono (show w.heap.size ≤ W.heap.size by omega)⟩

/-- edenraw.KeptRule at a lent rule. -/
theorem keptRule_any (B : Nat) (k R : Int) (a : Option Addr) (n c : Nat) (va : Option Addr) (vn vc : Nat) (T : List Int) (w : World) (h : LentI B w (.slice a n c) T) (h' : IntsAt w (.slice va vn vc) T) (hl : T.length ≤ 17592186044414) :
    Calls Tryd.prog 39 #[.agg #[.int .i64 k, .int .i64 R, .slice a n c], .agg #[.int .i64 k, .int .i64 R, .slice va vn vc]] w (Ret1 (fun x _ => x = .bool true) w) := by
  have b0 := Below.step (belowAlloc w (.cells #[.int .i64 k, .int .i64 R, .slice a n c] 24)) (belowAlloc _ (.cells #[.int .i64 k, .int .i64 R, .slice va vn vc] 24))
  replace h := Lib.hid (h.below b0)
  replace h' := Lib.hid (h'.below b0)
  have e1 : (k == k) = true := by simp
  have e2 : (R == R) = true := by simp
  go_enter Tryd.func39, Tryd.ntmps39
  go_wp2_with fail
  refine (kept_any B _ _ T _ h.out h'.out hl).mono ?_
  rintro e w1 h1
  obtain ⟨rfl, b1⟩ := h1.below
  have hB := Lib.hid (Below.step b0 b1)
  clear h1
  go_wp2
  go_ret
  exact ⟨_, rfl, hB.out, rfl⟩
end Go.Proofs.YtmddapkhipmlgaaDoor
