/-
  Walks: edenlaw18's helpers.
-/
import Derived.Test.YtmddapkhipmlgaaDoorAddOnto
import Derived.Test.YtmddapkhipmlgaaDoorRaw
namespace Go.Proofs.YtmddapkhipmlgaaDoor
open Go.RowKit
set_option maxRecDepth 100000

theorem sumT_ok {K R : Nat} {f : List Int} (h1 : 1 ≤ K) (h4 : K ≤ 4) (h3 : R ≤ 3) (hl : f.length = 2 * R + 1) : RuleOk K R (sumT K f) :=
  ⟨h1, h4, h3, by rw [sumT_length, hl], sumT_syms h1 f⟩

theorem awake18 (r : Nat → Addr) (w : World) (hg : Glob r w) : Calls Tryd.prog 11 #[] w (Ret1 (fun x _ => x = .bool true) w) := by
  replace hg := Lib.hid hg
  have hsyms : Syms (2 : Nat) [1, 0, 1] := by intro x hx; simp at hx; omega
  have hrok : RuleOk 2 1 (sumT 2 [1, 0, 1]) := sumT_ok (by decide) (by decide) (by decide) rfl
  have hsum : isSum 2 1 (sumT 2 [1, 0, 1]) = true := by decide +kernel
  have hfac : facs 2 1 (sumT 2 [1, 0, 1]) = [1, 0, 1] := by decide +kernel
  have hfp : factP 4 [2, 1, 2] = none := by decide +kernel
  have hto : toldP mayOnto 4 [2, 1, 2] = true := by decide +kernel
  replace hsyms := Lib.hid hsyms
  replace hrok := Lib.hid hrok
  replace hsum := Lib.hid hsum
  replace hfac := Lib.hid hfac
  replace hfp := Lib.hid hfp
  replace hto := Lib.hid hto
  have hb0 : Below w.heap.size w (w.alloc (.cells #[.int .i64 1, .int .i64 0, .int .i64 1] 3)) := (Below.refl _ _).alloc (Nat.le_refl _) _
  go_enter Tryd.func11, Tryd.ntmps11
  go_wp2_with fail
  refine (make_ok r 2 1 _ [1, 0, 1] _ (hg.out.below hb0) (OwnI.lit 0 w (Nat.zero_le _) [1, 0, 1] (by decide) #[.int .i64 1, .int .i64 0, .int .i64 1] rfl 3 rfl).at (by decide) (by decide) (by decide) rfl hsyms.out).mono ?_
  rintro e w1 ⟨x, y, rfl, hb1, rfl, a, n, c, rfl, ho⟩
  replace hb1 := hb0.trans (hb1.mono (by simp))
  go_wp2_with fail
  have hb2 := hb1.alloc hb1.size (.cells #[.int .i64 2, .int .i64 1, .slice a n c] 24)
  refine (of_ok 2 1 _ (sumT 2 [1, 0, 1]) _ (ho.at.below ((Below.refl _ _).alloc (Nat.le_refl _) _)) hrok.out).mono ?_
  rintro e w3 ⟨x, y, z, rfl, hb3, rfl, rfl, hf, -⟩
  rw [hsum.out]
  replace hf := hf hsum.out
  rw [hfac.out] at hf
  replace hb3 := hb2.trans (hb3.mono hb2.size)
  go_wp2_with fail
  refine (add_onto r 4 _ [2, 1, 2] _ (hg.out.below (hb3.alloc hb3.size _)) (OwnI.lit 0 w3 (Nat.zero_le _) [2, 1, 2] (by decide) #[.int .i64 2, .int .i64 1, .int .i64 2] rfl 3 rfl).at (by decide)).mono ?_
  rintro e w4 ⟨x, y, rfl, hb4, rfl, he⟩
  rw [hto.out]
  rw [hfp.out] at he
  obtain rfl := he.none_eq
  clear he
  have hf4 := (hf.at.below ((Below.refl _ _).alloc (Nat.le_refl _) _)).below hb4
  replace hb4 := (hb3.alloc hb3.size _).trans (hb4.mono (by have := hb3.size; simp; omega))
  go_wp2_with fail
  refine (ints_any _ _ [1, 0, 1] [1, 0, 1] _ (hf4.below ((Below.refl _ _).alloc (Nat.le_refl _) _)) (OwnI.lit 0 w4 (Nat.zero_le _) [1, 0, 1] (by decide) #[.int .i64 1, .int .i64 0, .int .i64 1] rfl 3 rfl).at).mono ?_
  rintro e w5 hq
  obtain ⟨rfl, hb5⟩ := hq.below
  replace hb5 := (hb4.alloc hb4.size _).trans (hb5.mono (by have := hb4.size; simp; omega))
  clear hq
  go_wp2
  go_ret
  exact ⟨_, rfl, hb5, rfl⟩
end Go.Proofs.YtmddapkhipmlgaaDoor
