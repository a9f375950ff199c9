/-
  Walks: edenlaw19.awake.
-/
import Derived.Test.YtmddapkhipmlgaaDoorRight
import Derived.Test.YtmddapkhipmlgaaDoorLeft
import Derived.Test.YtmddapkhipmlgaaDoorRaw
namespace Go.Proofs.YtmddapkhipmlgaaDoor
open Go.RowKit
set_option maxRecDepth 100000

def tab19 : List Int := [0, 1, 0, 1, 1, 0, 1, 0]

set_option maxHeartbeats 1000000 in
theorem awake19 (r : Nat → Addr) (w : World) (hg : Glob r w) : Calls Tryd.prog 20 #[] w (Ret1 (fun x _ => x = .bool true) w) := by
  replace hg := Lib.hid hg
  have hrok : RuleOk 2 1 tab19 := ⟨by decide, by decide, by decide, by decide, by intro x hx; simp [tab19] at hx; omega⟩
  have hu1 : unlikeP 2 tab19 1 = true := by decide +kernel
  have hu4 : unlikeP 2 tab19 (tab19.length / 2) = true := by decide +kernel
  have hchk : checkM 2 1 [1, 0, 1] [0, 0] = none := by decide +kernel
  have hres : [0, 0] ++ rightP 2 tab19 (numW 2 [0, 0]) [1, 0, 1] = [0, 0, 1, 0, 0] := by decide +kernel
  replace hrok := Lib.hid hrok
  replace hu1 := Lib.hid hu1
  replace hu4 := Lib.hid hu4
  replace hchk := Lib.hid hchk
  replace hres := Lib.hid hres
  go_enter Tryd.func20, Tryd.ntmps20
  go_wp2_with fail
  have hT0 := (OwnI.lit 0 w (Nat.zero_le _) tab19 (by decide) #[.int .i64 0, .int .i64 1, .int .i64 0, .int .i64 1, .int .i64 1, .int .i64 0, .int .i64 1, .int .i64 0] rfl 8 rfl).at
  have hT := hT0.below (belowAlloc _ (.cells #[.int .i64 2, .int .i64 1, .slice (some ⟨w.heap.size, 0, none⟩) 8 8] 24))
  have hb0 := Below.step (belowAlloc w (.cells #[.int .i64 0, .int .i64 1, .int .i64 0, .int .i64 1, .int .i64 1, .int .i64 0, .int .i64 1, .int .i64 0] 3)) (belowAlloc _ (.cells #[.int .i64 2, .int .i64 1, .slice (some ⟨w.heap.size, 0, none⟩) 8 8] 24))
  refine (sides_ok 2 1 _ _ _ tab19 _ hT hrok.out).mono ?_
  rintro e w1 ⟨x, y, z, rfl, hb, rfl, rfl, rfl⟩
  rw [hu1.out, hu4.out]
  obtain ⟨z0, z1, z2, -, -, -⟩ := cells3 hb
  rw [show (w.alloc (.cells #[.int .i64 0, .int .i64 1, .int .i64 0, .int .i64 1, .int .i64 1, .int .i64 0, .int .i64 1, .int .i64 0] 3)).heap.size = w.heap.size + 1 by simp] at z0 z1 z2
  go_wp2_with fail
  have l1 := (OwnI.lit 0 w1 (Nat.zero_le _) [1, 0, 1] (by decide) #[.int .i64 1, .int .i64 0, .int .i64 1] rfl 3 rfl).at
  have l2 := (OwnI.lit 0 (w1.alloc (.cells #[.int .i64 1, .int .i64 0, .int .i64 1] 3)) (Nat.zero_le _) [0, 0] (by decide) #[.int .i64 0, .int .i64 0] rfl 2 rfl).at
  have hb1 := Below.step (belowAlloc w1 (.cells #[.int .i64 1, .int .i64 0, .int .i64 1] 3)) (belowAlloc _ (.cells #[.int .i64 0, .int .i64 0] 3))
  replace l1 := l1.below (belowAlloc _ (.cells #[.int .i64 0, .int .i64 0] 3))
  rw [show (w1.alloc (.cells #[.int .i64 1, .int .i64 0, .int .i64 1] 3)).heap.size = w1.heap.size + 1 by simp] at l2
  replace hb1 := Below.step hb hb1
  refine (right_ok r 2 1 _ _ _ tab19 _ _ [1, 0, 1] [0, 0] _ (hg.out.below (Below.step hb0 hb1)) (hT.below hb1) hrok.out hu1.out l1 l2 hchk.out).mono ?_
  rintro e w2 ⟨x, y, rfl, hb2, ho, rfl⟩
  rw [hres.out] at ho
  replace ho := Lib.hid ho
  have hb3 := Below.step hb0 (Below.step hb1 hb2)
  clear hb hb1
  go_wp2_with fail
  refine (ints_any _ _ [0, 0, 1, 0, 0] [0, 0, 1, 0, 0] _ (ho.out.at.below (belowAlloc _ _)) (OwnI.lit 0 w2 (Nat.zero_le _) [0, 0, 1, 0, 0] (by decide) #[.int .i64 0, .int .i64 0, .int .i64 1, .int .i64 0, .int .i64 0] rfl 5 rfl).at).mono ?_
  rintro e w3 hq
  obtain ⟨rfl, hb5⟩ := hq.below
  clear hq
  replace hb5 := Lib.hid (Below.step hb3 (Below.step (belowAlloc _ _) hb5))
  clear hb3
  go_wp2
  go_ret
  exact ⟨_, rfl, hb5.out, rfl⟩
end Go.Proofs.YtmddapkhipmlgaaDoor
