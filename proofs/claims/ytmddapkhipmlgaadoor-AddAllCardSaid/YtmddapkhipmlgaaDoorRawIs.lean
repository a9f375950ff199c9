/-
  Walk: edenraw.Is at an error that is what it must be.
-/
import Derived.Test.YtmddapkhipmlgaaDoorRawUnder
import Derived.Test.YtmddapkhipmlgaaDoorErrs
import Derived.Test.YtmddapkhipmlgaaDoorErrAsHit
import Derived.Deep.RegionHeld3
namespace Go.Proofs.YtmddapkhipmlgaaDoor
open Go.RowKit
set_option maxRecDepth 100000

/-- errors.errorType holds the handle of the type error. -/
def GlobE (w : World) : Prop := w.cell? ⟨12, 0, none⟩ = some (.iface 146 (.agg #[.pointer (some ⟨13, 27, none⟩)]))
theorem GlobE.below {w w' : World} (h : GlobE w) (hb : Below w.heap.size w w') : GlobE w' := cell_keep hb h

/-- An error's number and length are as every error's. -/
def PErr.Fine (t : PErr) : Prop := match t with | none => True | some (n, l) => 1 ≤ n ∧ n ≤ 11 ∧ l.length ≤ 1000

theorem takeD {P : Program} {ops : Array Oper} {Q : Exit → Act → World → Prop} {md : Region.Mode} {S : World → Prop} {i : Nat} {oi : Oper} {v : Value} {fuel : Nat} {listed : Array Bool} {a : Act} {w : World} (d : Option Tmp) (hi : ops[i]? = some oi) (hd : oi.dst = d)
    (hs : Region.noSelect ops = true) (hf : Region.free md ops listed i = true) (hr : (Region.ready md ops listed).contains i = true)
    (hQ : ∀ c a w, Q (.panic c) (a.put d v) w → Q (.panic c) a w) (hy : YieldsIf P ops S oi v a) (hS : S w)
    (h : wpAnyH P md ops Q S fuel (listed.setIfInBounds i true) (a.put d v) w) : wpAnyH P md ops Q S (fuel + 1) listed a w := by
  subst hd
  exact wpAnyH_take hi hs hf hr hQ hy hS h

theorem takeA {P : Program} {ops : Array Oper} {Q : Exit → Act → World → Prop} {md : Region.Mode} {i : Nat} {oi : Oper} {v : Value} {fuel : Nat} {listed : Array Bool} {a : Act} {w : World} (d : Option Tmp) (hi : ops[i]? = some oi) (hd : oi.dst = d)
    (hs : Region.noSelect ops = true) (hf : Region.free md ops listed i = true) (hr : (Region.ready md ops listed).contains i = true)
    (hQ : ∀ c a w, Q (.panic c) (a.put d v) w → Q (.panic c) a w) (hy : Yields P ops oi v a)
    (h : wpAny P md ops Q fuel (listed.setIfInBounds i true) (a.put d v) w) : wpAny P md ops Q (fuel + 1) listed a w := by
  subst hd
  exact wpAny_take hi hs hf hr hQ hy h

/-- errors.As at a Fault and a variable just laid: the variable holds the Fault; all that was there before it is as it was. -/
theorem as_keep (q : Addr) (wo wv w : World) (bv : Below wo.heap.size wo wv) (hw : w = wv.drew) (hG : GlobE wv) (zt : wv.cell? ⟨wo.heap.size, 0, none⟩ = some (.pointer none)) (ft : wv.frozen? ⟨wo.heap.size, 0, none⟩ = false) :
    Calls Tryd.prog 79 #[.iface 106 (.pointer (some q)), .iface 108 (.pointer (some ⟨wo.heap.size, 0, none⟩))] w fun e w' => e = .returned (.bool true) ∧ w'.cell? ⟨wo.heap.size, 0, none⟩ = some (.pointer (some q)) ∧ Below wo.heap.size wo w' := by
  subst hw
  refine (Errs.as_any q ⟨wo.heap.size, 0, none⟩ (.pointer none) wv.drew hG zt ft).mono ?_
  rintro e w6 ⟨rfl, w5, hb5, rfl⟩
  have h5 : Below wv.heap.size wv w5 := ((Below.refl wv.heap.size wv).drew).trans hb5
  refine ⟨rfl, World.cell?_setCell_same _ _ _ (cell_keep h5 zt), (Below.stepL bv h5).setCell (p := ⟨wo.heap.size, 0, none⟩) (Nat.le_refl _) _⟩

theorem raw_is_none (w : World) :
    Calls Tryd.prog 33 #[.nilIface, zErr] w (Ret1 (fun x _ => x = .bool true) w) := by
  go_enter Tryd.func33, Tryd.ntmps33
  go_wp2
  go_ret
  exact ⟨_, rfl, belowAlloc' _ _, rfl⟩

set_option maxHeartbeats 1000000 in
theorem raw_is_some (r : Nat → Addr) (n : Int) (l : List (ByteArray × Int)) (v e : Value) (w : World) (hg : Glob r w) (hG : GlobE w) (hv : ErrAt r w n l v) (he : EAt w (some (n, l)) e) (h1 : 1 ≤ n) (h11 : n ≤ 11) (hl : l.length ≤ 1000) :
    Calls Tryd.prog 33 #[v, e] w (Ret1 (fun x _ => x = .bool true) w) := by
  obtain ⟨a1, n1, c1, a2, n2, c2, rfl, hs, hi⟩ := he
  have b0 := belowAlloc' w (.cells #[.int .i64 n, .slice a1 n1 c1, .slice a2 n2 c2] 55)
  have hn0 : (n == 0) = false := by rw [beq_eq_false_iff_ne]; omega
  obtain ⟨T, p, rfl⟩ := hv.shape
  replace hv := Lib.hid (hv.below b0)
  have hg0 := Lib.hid hg
  replace hg := Lib.hid (hg.below b0)
  replace hG := Lib.hid (hG.below b0)
  have hsl := hs.len oneStrs
  rw [List.length_map] at hsl
  replace hs := Lib.hid (hs.below b0)
  replace hi := Lib.hid (hi.below b0)
  go_enter Tryd.func33, Tryd.ntmps33
  go_wp2_with fail
  refine (raw_root r n _ hg.out h1 h11).mono ?_
  rintro e w1 ⟨rfl, rfl⟩
  go_wp2_with fail
  refine (Errs.is_any r n l _ _ hv.out).mono ?_
  rintro e w1 ⟨rfl, rfl⟩
  have z : (w.alloc (.cells #[.int .i64 n, .slice a1 n1 c1, .slice a2 n2 c2] 55)).cell? ⟨w.heap.size, 0, none⟩ = some (.int .i64 n) ∧ (w.alloc (.cells #[.int .i64 n, .slice a1 n1 c1, .slice a2 n2 c2] 55)).cell? ⟨w.heap.size, 1, none⟩ = some (.slice a1 n1 c1) ∧ (w.alloc (.cells #[.int .i64 n, .slice a1 n1 c1, .slice a2 n2 c2] 55)).cell? ⟨w.heap.size, 2, none⟩ = some (.slice a2 n2 c2) := by simp
  obtain ⟨W, hW⟩ : ∃ W : World, W = w.alloc (.cells #[.int .i64 n, .slice a1 n1 c1, .slice a2 n2 c2] 55) := ⟨_, rfl⟩
  rw [← hW] at hv hg hG hs hi z b0 ⊢
  clear hW
  replace z := Lib.hid z
  go_wp2
  go_loopw [0, 5] (fun u i wr => ∃ k : Nat, k ≤ l.length ∧ i = .int .i64 k ∧ ErrAt r wr n (l.drop k) u ∧ Below W.heap.size W wr) (fun _ i _ => l.length - (intOf i).toNat)
  case atStart => exact ⟨0, by omega, rfl, hv.out, Below.refl _ _⟩
  case round =>
    obtain ⟨k, hk, rfl, hu, hB⟩ := hrel
    obtain ⟨wo, rfl⟩ : ∃ wo : World, wo = wr := ⟨_, rfl⟩
    obtain ⟨z0, z1, z2⟩ := keep3 hB z.out
    by_cases hkl : k < l.length
    · have hd : l.drop k = l[k] :: l.drop (k + 1) := List.drop_eq_getElem_cons hkl
      rw [hd] at hu
      generalize hlk : l[k] = x at hu
      obtain ⟨op, at_⟩ := x
      obtain ⟨q, u', rfl, d0, d1, d2, hrest⟩ := hu
      have hs' := hs.out.below hB
      have hi' := hi.out.below hB
      have i1 := hs'.idx oneStrs k (by simpa using hkl)
      have e1 := hs'.cell k (by simpa using hkl)
      have i2 := hi'.idx k (by simpa using hkl)
      have e2 := hi'.cell k (by simpa using hkl)
      simp only [List.getElem_map, hlk] at e1 e2
      replace hd := Lib.hid hd
      replace hlk := Lib.hid hlk
      replace hrest := Lib.hid hrest
      clear hs' hi'
      have gE := Lib.hid (hG.out.below hB)
      generalize valAt (.slice a1 n1 c1) k = A1 at i1 e1
      generalize valAt (.slice a2 n2 c2) k = A2 at i2 e2
      have bv := belowAlloc' wo (.cells #[.pointer none] 106)
      have y1 := cell_keep bv z1
      have y2 := cell_keep bv z2
      have g0 := cell_keep bv d0
      have g1 := cell_keep bv d1
      have s1 := (bv.cell (World.block_lt_of_cell? _ _ e1)).trans e1
      have s2 := (bv.cell (World.block_lt_of_cell? _ _ e2)).trans e2
      have zt : (wo.alloc (.cells #[.pointer none] 106)).cell? ⟨wo.heap.size, 0, none⟩ = some (.pointer none) := by simp
      have ft : (wo.alloc (.cells #[.pointer none] 106)).frozen? ⟨wo.heap.size, 0, none⟩ = false := by simp
      have gv := Lib.hid (gE.out.below bv)
      go_wp2
      obtain ⟨wv, hwv⟩ : ∃ W : World, W = wo.alloc (.cells #[.pointer none] 106) := ⟨_, rfl⟩
      rw [← hwv] at bv y1 y2 g0 g1 s1 s2 zt ft gv ⊢
      clear hwv
      replace z0 := Lib.hid z0
      replace z1 := Lib.hid z1
      replace z2 := Lib.hid z2
      replace d0 := Lib.hid d0
      replace d1 := Lib.hid d1
      replace d2 := Lib.hid d2
      replace e1 := Lib.hid e1
      replace e2 := Lib.hid e2
      refine wp_region_noPanic ?_
      refine wp_region_any (by kernel_rfl) ?_
      change wpAny _ _ _ _ _ _ _ (World.drew _)
      refine takeA (i := 0) (v := ?_) (some 29) rfl rfl (by kernel_rfl) (by kernel_rfl) (by kernel_rfl) (fun _ _ _ h => h) (Or.inl ⟨by rfl, ?_⟩) ?_
      rotate_left
      · intro _; go_simp; try with_reducible rfl
      simp only [Act.put, List.setIfInBounds_toArray, List.set_cons_zero, List.set_cons_succ]
      refine takeA (i := 1) (v := ?_) (some 30) rfl rfl (by kernel_rfl) (by kernel_rfl) (by kernel_rfl) (fun _ _ _ h => h) (Or.inl ⟨by rfl, ?_⟩) ?_
      rotate_left
      · intro _; go_simp; try with_reducible rfl
      simp only [Act.put, List.setIfInBounds_toArray, List.set_cons_zero, List.set_cons_succ]
      refine wpAny_ready (rs := [2]) (by kernel_rfl) (by simp) (AllReady.cons rfl (fun K hK => ?_) AllReady.nil)
      go_simp
      go_at_call 79
      refine (as_keep ⟨q, 0, none⟩ wo wv _ bv rfl gv.out zt ft).mono ?_
      rintro e w6 ⟨rfl, p0, b6⟩
      refine hK _ _ ?_
      clear hK K y1 y2 g0 g1 s1 s2
      have p1 := cell_keep b6 z1.out
      have p2 := cell_keep b6 z2.out
      have p3 := cell_keep b6 d0.out
      have p4 := cell_keep b6 d1.out
      have p5 := (b6.cell (World.block_lt_of_cell? _ _ e1.out)).trans e1.out
      have p6 := (b6.cell (World.block_lt_of_cell? _ _ e2.out)).trans e2.out
      have p7 := cell_keep b6 d2.out
      refine wpAny_of_held (S := fun w' => w' = w6) _ _ _ _ ?_
      refine takeD (i := 3) (v := ?_) (some 32) rfl rfl (by kernel_rfl) (by kernel_rfl) (by kernel_rfl) (fun _ _ _ h => h) (Or.inl ⟨by rfl, ?_⟩) rfl ?_
      rotate_left
      · intro _ hw; subst hw; go_simp; try with_reducible rfl
      simp only [Act.put, List.setIfInBounds_toArray, List.set_cons_zero, List.set_cons_succ]
      refine takeD (i := 4) (v := ?_) (some 33) rfl rfl (by kernel_rfl) (by kernel_rfl) (by kernel_rfl) (fun _ _ _ h => h) (Or.inl ⟨by rfl, ?_⟩) rfl ?_
      rotate_left
      · intro _ hw; subst hw; go_simp; try with_reducible rfl
      simp only [Act.put, List.setIfInBounds_toArray, List.set_cons_zero, List.set_cons_succ]
      refine takeD (i := 5) (v := ?_) (some 34) rfl rfl (by kernel_rfl) (by kernel_rfl) (by kernel_rfl) (fun _ _ _ h => h) (Or.inl ⟨by rfl, ?_⟩) rfl ?_
      rotate_left
      · intro _ hw; subst hw; go_simp; try with_reducible rfl
      simp only [Act.put, List.setIfInBounds_toArray, List.set_cons_zero, List.set_cons_succ]
      refine takeD (i := 6) (v := ?_) (some 35) rfl rfl (by kernel_rfl) (by kernel_rfl) (by kernel_rfl) (fun _ _ _ h => h) (Or.inl ⟨by rfl, ?_⟩) rfl ?_
      rotate_left
      · intro _ hw; subst hw; go_simp; try with_reducible rfl
      simp only [Act.put, List.setIfInBounds_toArray, List.set_cons_zero, List.set_cons_succ]
      refine takeD (i := 7) (v := ?_) (some 36) rfl rfl (by kernel_rfl) (by kernel_rfl) (by kernel_rfl) (fun _ _ _ h => h) (Or.inl ⟨by rfl, ?_⟩) rfl ?_
      rotate_left
      · intro _ hw; subst hw; go_simp; try with_reducible rfl
      simp only [Act.put, List.setIfInBounds_toArray, List.set_cons_zero, List.set_cons_succ]
      refine takeD (i := 8) (v := ?_) (some 37) rfl rfl (by kernel_rfl) (by kernel_rfl) (by kernel_rfl) (fun _ _ _ h => h) (Or.inl ⟨by rfl, ?_⟩) rfl ?_
      rotate_left
      · intro _ hw; subst hw; go_simp; try with_reducible rfl
      simp only [Act.put, List.setIfInBounds_toArray, List.set_cons_zero, List.set_cons_succ]
      refine takeD (i := 9) (v := ?_) (some 38) rfl rfl (by kernel_rfl) (by kernel_rfl) (by kernel_rfl) (fun _ _ _ h => h) (Or.inl ⟨by rfl, ?_⟩) rfl ?_
      rotate_left
      · intro _ hw; subst hw; go_simp; try with_reducible rfl
      simp only [Act.put, List.setIfInBounds_toArray, List.set_cons_zero, List.set_cons_succ]
      refine takeD (i := 10) (v := ?_) (some 39) rfl rfl (by kernel_rfl) (by kernel_rfl) (by kernel_rfl) (fun _ _ _ h => h) (Or.inl ⟨by rfl, ?_⟩) rfl ?_
      rotate_left
      · intro _ hw; subst hw; go_simp; try with_reducible rfl
      simp only [Act.put, List.setIfInBounds_toArray, List.set_cons_zero, List.set_cons_succ]
      refine takeD (i := 11) (v := ?_) (some 40) rfl rfl (by kernel_rfl) (by kernel_rfl) (by kernel_rfl) (fun _ _ _ h => h) (Or.inl ⟨by rfl, ?_⟩) rfl ?_
      rotate_left
      · intro _ hw; subst hw; go_simp; try with_reducible rfl
      simp only [Act.put, List.setIfInBounds_toArray, List.set_cons_zero, List.set_cons_succ]
      refine takeD (i := 12) (v := ?_) (some 41) rfl rfl (by kernel_rfl) (by kernel_rfl) (by kernel_rfl) (fun _ _ _ h => h) (Or.inl ⟨by rfl, ?_⟩) rfl ?_
      rotate_left
      · intro _ hw; subst hw; go_simp; try with_reducible rfl
      simp only [Act.put, List.setIfInBounds_toArray, List.set_cons_zero, List.set_cons_succ]
      refine takeD (i := 13) (v := ?_) (some 42) rfl rfl (by kernel_rfl) (by kernel_rfl) (by kernel_rfl) (fun _ _ _ h => h) (Or.inl ⟨by rfl, ?_⟩) rfl ?_
      rotate_left
      · intro _ hw; subst hw; go_simp; try with_reducible rfl
      simp only [Act.put, List.setIfInBounds_toArray, List.set_cons_zero, List.set_cons_succ]
      refine takeD (i := 14) (v := ?_) (some 43) rfl rfl (by kernel_rfl) (by kernel_rfl) (by kernel_rfl) (fun _ _ _ h => h) (Or.inl ⟨by rfl, ?_⟩) rfl ?_
      rotate_left
      · intro _ hw; subst hw; go_simp; try with_reducible rfl
      simp only [Act.put, List.setIfInBounds_toArray, List.set_cons_zero, List.set_cons_succ]
      refine takeD (i := 15) (v := ?_) (some 44) rfl rfl (by kernel_rfl) (by kernel_rfl) (by kernel_rfl) (fun _ _ _ h => h) (Or.inl ⟨by rfl, ?_⟩) rfl ?_
      rotate_left
      · intro _ hw; subst hw; go_simp; try with_reducible rfl
      simp only [Act.put, List.setIfInBounds_toArray, List.set_cons_zero, List.set_cons_succ]
      refine takeD (i := 16) (v := ?_) (some 45) rfl rfl (by kernel_rfl) (by kernel_rfl) (by kernel_rfl) (fun _ _ _ h => h) (Or.inl ⟨by rfl, ?_⟩) rfl ?_
      rotate_left
      · intro _ hw; subst hw; go_simp; try with_reducible rfl
      simp only [Act.put, List.setIfInBounds_toArray, List.set_cons_zero, List.set_cons_succ]
      refine takeD (i := 17) (v := ?_) (some 46) rfl rfl (by kernel_rfl) (by kernel_rfl) (by kernel_rfl) (fun _ _ _ h => h) (Or.inl ⟨by rfl, ?_⟩) rfl ?_
      rotate_left
      · intro _ hw; subst hw; go_simp; try with_reducible rfl
      simp only [Act.put, List.setIfInBounds_toArray, List.set_cons_zero, List.set_cons_succ]
      refine takeD (i := 18) (v := ?_) (some 47) rfl rfl (by kernel_rfl) (by kernel_rfl) (by kernel_rfl) (fun _ _ _ h => h) (Or.inl ⟨by rfl, ?_⟩) rfl ?_
      rotate_left
      · intro _ hw; subst hw; go_simp; try with_reducible rfl
      simp only [Act.put, List.setIfInBounds_toArray, List.set_cons_zero, List.set_cons_succ]
      refine takeD (i := 19) (v := ?_) (some 48) rfl rfl (by kernel_rfl) (by kernel_rfl) (by kernel_rfl) (fun _ _ _ h => h) (Or.inl ⟨by rfl, ?_⟩) rfl ?_
      rotate_left
      · intro _ hw; subst hw; go_simp; try with_reducible rfl
      simp only [Act.put, List.setIfInBounds_toArray, List.set_cons_zero, List.set_cons_succ]
      refine takeD (i := 20) (v := ?_) (some 49) rfl rfl (by kernel_rfl) (by kernel_rfl) (by kernel_rfl) (fun _ _ _ h => h) (Or.inl ⟨by rfl, ?_⟩) rfl ?_
      rotate_left
      · intro _ hw; subst hw; go_simp; try with_reducible rfl
      simp only [Act.put, List.setIfInBounds_toArray, List.set_cons_zero, List.set_cons_succ]
      refine takeD (i := 21) (v := ?_) (some 50) rfl rfl (by kernel_rfl) (by kernel_rfl) (by kernel_rfl) (fun _ _ _ h => h) (Or.inl ⟨by rfl, ?_⟩) rfl ?_
      rotate_left
      · intro _ hw; subst hw; go_simp; try with_reducible rfl
      simp only [Act.put, List.setIfInBounds_toArray, List.set_cons_zero, List.set_cons_succ]
      refine takeD (i := 22) (v := ?_) (some 51) rfl rfl (by kernel_rfl) (by kernel_rfl) (by kernel_rfl) (fun _ _ _ h => h) (Or.inl ⟨by rfl, ?_⟩) rfl ?_
      rotate_left
      · intro _ hw; subst hw; go_simp; try with_reducible rfl
      simp only [Act.put, List.setIfInBounds_toArray, List.set_cons_zero, List.set_cons_succ]
      refine takeD (i := 23) (v := ?_) (some 52) rfl rfl (by kernel_rfl) (by kernel_rfl) (by kernel_rfl) (fun _ _ _ h => h) (Or.inl ⟨by rfl, ?_⟩) rfl ?_
      rotate_left
      · intro _ hw; subst hw; go_simp; try with_reducible rfl
      simp only [Act.put, List.setIfInBounds_toArray, List.set_cons_zero, List.set_cons_succ]
      refine takeD (i := 24) (v := ?_) (some 53) rfl rfl (by kernel_rfl) (by kernel_rfl) (by kernel_rfl) (fun _ _ _ h => h) (Or.inl ⟨by rfl, ?_⟩) rfl ?_
      rotate_left
      · intro _ hw; subst hw; go_simp; try with_reducible rfl
      simp only [Act.put, List.setIfInBounds_toArray, List.set_cons_zero, List.set_cons_succ]
      refine takeD (i := 25) (v := ?_) (some 54) rfl rfl (by kernel_rfl) (by kernel_rfl) (by kernel_rfl) (fun _ _ _ h => h) (Or.inl ⟨by rfl, ?_⟩) rfl ?_
      rotate_left
      · intro _ hw; subst hw; go_simp; try with_reducible rfl
      simp only [Act.put, List.setIfInBounds_toArray, List.set_cons_zero, List.set_cons_succ]
      refine takeD (i := 26) (v := ?_) (some 55) rfl rfl (by kernel_rfl) (by kernel_rfl) (by kernel_rfl) (fun _ _ _ h => h) (Or.inl ⟨by rfl, ?_⟩) rfl ?_
      rotate_left
      · intro _ hw; subst hw; go_simp; try with_reducible rfl
      simp only [Act.put, List.setIfInBounds_toArray, List.set_cons_zero, List.set_cons_succ]
      refine takeD (i := 27) (v := ?_) (some 56) rfl rfl (by kernel_rfl) (by kernel_rfl) (by kernel_rfl) (fun _ _ _ h => h) (Or.inl ⟨by rfl, ?_⟩) rfl ?_
      rotate_left
      · intro _ hw; subst hw; go_simp; try with_reducible rfl
      simp only [Act.put, List.setIfInBounds_toArray, List.set_cons_zero, List.set_cons_succ]
      refine takeD (i := 28) (v := ?_) (some 57) rfl rfl (by kernel_rfl) (by kernel_rfl) (by kernel_rfl) (fun _ _ _ h => h) (Or.inl ⟨by rfl, ?_⟩) rfl ?_
      rotate_left
      · intro _ hw; subst hw; go_simp; try with_reducible rfl
      simp only [Act.put, List.setIfInBounds_toArray, List.set_cons_zero, List.set_cons_succ]
      refine takeD (i := 29) (v := ?_) (some 58) rfl rfl (by kernel_rfl) (by kernel_rfl) (by kernel_rfl) (fun _ _ _ h => h) (Or.inl ⟨by rfl, ?_⟩) rfl ?_
      rotate_left
      · intro _ hw; subst hw; go_simp; try with_reducible rfl
      simp only [Act.put, List.setIfInBounds_toArray, List.set_cons_zero, List.set_cons_succ]
      refine takeD (i := 30) (v := ?_) (some 59) rfl rfl (by kernel_rfl) (by kernel_rfl) (by kernel_rfl) (fun _ _ _ h => h) (Or.inl ⟨by rfl, ?_⟩) rfl ?_
      rotate_left
      · intro _ hw; subst hw; go_simp; try with_reducible rfl
      simp only [Act.put, List.setIfInBounds_toArray, List.set_cons_zero, List.set_cons_succ]
      refine takeD (i := 31) (v := ?_) (some 60) rfl rfl (by kernel_rfl) (by kernel_rfl) (by kernel_rfl) (fun _ _ _ h => h) (Or.inl ⟨by rfl, ?_⟩) rfl ?_
      rotate_left
      · intro _ hw; subst hw; go_simp; try with_reducible rfl
      simp only [Act.put, List.setIfInBounds_toArray, List.set_cons_zero, List.set_cons_succ]
      refine wpAnyH_done (by kernel_rfl) ?_ _
      refine NoPanic.normal ?_
      have hr6 := Lib.hid (hrest.out.below b6)
      have hB6 := Lib.hid (Below.stepL hB b6)
      clear p1 p2 p3 p4 p5 p6
      go_wp2
      go_roundw
      case rel => exact ⟨k + 1, by omega, by go_num, hr6.out, hB6.out⟩
      case measure => simp [intOf]; omega
    · obtain rfl : k = l.length := by omega
      rw [List.drop_length] at hu
      obtain rfl : _ = rootV r n := hu
      obtain ⟨i, hi, hcmp⟩ := Option.map_eq_some_iff.1 Errs.compE
      obtain ⟨j, hj, hjs⟩ := Option.map_eq_some_iff.1 Errs.sizeE
      have heq := run_eql_iface_ptr_same (P := Tryd.prog) wo (r n.toNat) Errs.uErr Errs.uES hi hcmp hj
      clear hi hcmp hj hjs
      have hgo := Lib.hid (hg.out.below hB)
      have hBf := Lib.hid (Below.stepL b0 hB)
      go_wp2_with fail
      refine (raw_root r n _ hgo.out h1 h11).mono ?_
      rintro e w1 ⟨rfl, rfl⟩
      go_wp2
      go_ret
      exact ⟨_, rfl, hBf.out, rfl⟩

/-- edenraw.Is at an error that is what it must be. -/
theorem raw_is (r : Nat → Addr) (t : PErr) (v e : Value) (w : World) (hg : Glob r w) (hG : GlobE w) (hv : ErrIs r w t v) (he : EAt w t e) (ht : t.Fine) :
    Calls Tryd.prog 33 #[v, e] w (Ret1 (fun x _ => x = .bool true) w) := by
  match t, hv, he, ht with
  | none, hv, he, _ =>
    obtain rfl := ErrIs.none_eq hv
    obtain rfl : e = zErr := he
    exact raw_is_none w
  | some (n, l), hv, he, ⟨h1, h11, hl⟩ => exact raw_is_some r n l v e w hg hG hv he h1 h11 hl

/-- edenraw.Under at any error. -/
theorem raw_under (op : ByteArray) (at_ : Int) (t : PErr) (v : Value) (w : World) (h : EAt w t v) (ht : ∀ n l, t = some (n, l) → 1 ≤ n ∧ 1 ≤ l.length ∧ l.length ≤ 1000) :
    Calls Tryd.prog 73 #[.string op, .int .i64 at_, v] w (Ret1 (fun x w' => EOwn w.heap.size w' (under op at_ t) x) w) := by
  match t, h, ht with
  | none, h, _ =>
    obtain rfl : v = zErr := h
    exact raw_under_nil op at_ w
  | some (n, l), h, ht =>
    obtain ⟨h1, h2, h3⟩ := ht n l rfl
    exact raw_under_some op at_ n l v w h h1 h2 h3
end Go.Proofs.YtmddapkhipmlgaaDoor
