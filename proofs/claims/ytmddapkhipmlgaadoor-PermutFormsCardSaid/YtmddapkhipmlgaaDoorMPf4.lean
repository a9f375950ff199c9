/-
  Proved: the law edenlaw19.PermutForms as its tied card: it returns true and never panics, for any two rules and any list. No conditions beyond the card's own.
  Walk: edenref18.Sum.
  Walks: forms.Mirror and the function that it hands to forms.made.
  Walks: slices.Values, its iterator, slices.AppendSeq, slices.Collect, slices.Sorted over it (after the kit's worked examples GgSlicesIterAtTheDump and GgPosAtTheDump).
  Walks: slices.Sort (its contract off the shelf), slices.Sorted over slices.Values.
  A law for a region that draws its order: the operations of its head in an order of our own, each load under a fact on the world that the head keeps; then the forced tail, one behind the other.
  Walks: slices.Index, forms.Rename and the function that it hands to forms.made.
  Walks: forms.Rename.
  Plain mathematics: the sides of mirrored, renamed and composed rules.
  Plain mathematics: a renamed rule permutes on the same sides.
  Walks: edenlaw19.awake.
  Walk: edenlaw19.PermutForms returns true.
  Opening what a call is handed: []int, api.Rule, the package-level errors.
-/
import Derived.Test.YtmddapkhipmlgaaDoorMPf3
import Derived.Deep.RegionHeld3
import Derived.RangeFuncBox
import Derived.RangeFuncLeaves
import Derived.Shelf.Abstract
import Derived.OwnWalkIn
import Derived.TacticsInMore
import Derived.LoopNIn
import Derived.LoopIn
import Derived.Maps.AppendAt
import Derived.Ground.SlgmProg
import Derived.Shelf.SlGeneric
import Derived.Shelf.SortM.Plain
import Derived.Shelf.SortM.SortNone
import Derived.Lib.SlKeysI
import Derived.StillTail
import Derived.Test.YtmddapkhipmlgaaDoorRows
import Derived.ProofKit
import Derived.OpenShut
import Derived.ShutString
import Derived.ChangeOld
import Derived.LaidMore
import Derived.Stop.Joined
import Derived.Stop.LaidErr
import Derived.Lib.SmallJoins
import Derived.Test.YtmddapkhipmlgaaDoorCards
import Derived.Test.YtmddapkhipmlgaaDoorTie
import Derived.SevenTiedAt
namespace Go.Proofs.YtmddapkhipmlgaaDoor
open Go.RowKit
set_option maxRecDepth 100000

/-- append(s, y) onto a list of one's own, in a region that draws. -/
theorem step_app1 {ops : Array Oper} {o : Oper} {a : Act} {w : World} {K : Act → World → Prop} {Q : Exit → Act → World → Prop} {Ep : Prop} (hgd : o.guard = none) (s x : Operand)
    (ho : o.op = .call { callee := .builtin .append, args := #[s, x], argTypes := #[22, 22] })
    (B : Nat) (v : Value) (xs : List Int) (y : Int) (b : Nat) (hs : a.eval s = v) (hx : a.eval x = .slice (some ⟨b, 0, none⟩) 1 1) (hown : OwnI B w v xs) (hc : w.cell? ⟨b, 0, none⟩ = some (.int .i64 y))
    (hlen : xs.length < 4398046511104) (hB : B ≤ w.heap.size)
    (h : ∀ v' w', OwnI B w' v' (xs ++ [y]) → Below B w w' → K (a.put o.dst v') w') :
    if Region.wanted o (yielded ops a.tmps) = true then Oper.wp Tryd.prog o a w K Q else Ep := by
  have hw : Region.wanted o (yielded ops a.tmps) = true := by simp [Region.wanted, hgd]
  rw [if_pos hw]
  obtain ⟨v', w', hr, h2, h3⟩ := run_app oneInts w B o.type v _ hown.toV ⟨b, 0, none⟩ 1 [.int .i64 y] (by simp) (fun j u hj => by
    obtain ⟨hj1, hj2⟩ := List.getElem?_eq_some_iff.1 hj
    obtain rfl : j = 0 := by simpa using hj1
    simp at hj2; subst hj2
    exact hc) (by simp [Value.oneCell']) (by simp; omega) hB
  rw [show ([.int .i64 y] : List Value).length = 1 from rfl] at hr
  unfold Oper.wp
  simp [execOp, ho, resolve, invoke, builtin, hs, hx, hr, Result.andThen]
  have ho' : OwnI B w' v' (xs ++ [y]) := OwnV.toI (by simpa using h2)
  rcases h3 with ⟨_, hg⟩ | ⟨_, hg⟩
  · exact h v' w' ho' ((Below.refl _ _).grown hg hB (fun k hk => (hown.lt k hk).1))
  · exact h v' w' ho' ((Below.refl _ _).grown hg hB (by intro k hk; cases hk))

theorem Box3.belowB {B : Nat} {w w' : World} {b : Nat} {x0 x1 x2 : Value} (h : Box3 w b x0 x1 x2) (hb : Below B w w') (hlt : b < B) : Box3 w' b x0 x1 x2 := by
  obtain ⟨⟨h0, h1, h2⟩, f0, f1, f2⟩ := h
  exact ⟨⟨(hb.cell (p := ⟨b, 0, none⟩) hlt).trans h0, (hb.cell (p := ⟨b, 1, none⟩) hlt).trans h1, (hb.cell (p := ⟨b, 2, none⟩) hlt).trans h2⟩, (hb.frozen (p := ⟨b, 0, none⟩) hlt).trans f0, (hb.frozen (p := ⟨b, 1, none⟩) hlt).trans f1, (hb.frozen (p := ⟨b, 2, none⟩) hlt).trans f2⟩
theorem Box3.far {w : World} {b b' : Nat} {x0 x1 x2 : Value} (h : Box3 w b x0 x1 x2) (hne : b' ≠ b) (i : Nat) (u : Value) : Box3 (w.setCell ⟨b', i, none⟩ u) b x0 x1 x2 := by
  obtain ⟨⟨h0, h1, h2⟩, f0, f1, f2⟩ := h
  refine ⟨⟨?_, ?_, ?_⟩, ?_, ?_, ?_⟩
  · rw [World.cell?_setCell_far _ _ _ _ hne]; exact h0
  · rw [World.cell?_setCell_far _ _ _ _ hne]; exact h1
  · rw [World.cell?_setCell_far _ _ _ _ hne]; exact h2
  · simpa using f0
  · simpa using f1
  · simpa using f2
theorem Box3.set2 {w : World} {b : Nat} {x0 x1 x2 : Value} (h : Box3 w b x0 x1 x2) (u : Value) : Box3 (w.setCell ⟨b, 2, none⟩ u) b x0 x1 u := by
  obtain ⟨⟨h0, h1, h2⟩, f0, f1, f2⟩ := h
  refine ⟨⟨?_, ?_, World.cell?_setCell_same _ _ _ h2⟩, ?_, ?_, ?_⟩
  · rw [World.cell?_setCell_other _ _ _ _ (by simp)]; exact h0
  · rw [World.cell?_setCell_other _ _ _ _ (by simp)]; exact h1
  · simpa using f0
  · simpa using f1
  · simpa using f2

set_option maxHeartbeats 2000000 in
theorem ref_sum (K : Nat) (v : Value) (f : List Int) (w : World) (h : IntsAt w v f) (hk1 : 1 ≤ K) (hk4 : K ≤ 4) (hl : f.length ≤ 7) (hs : Syms K f) :
    Calls Tryd.prog 72 #[.int .i64 K, v] w (Ret1 (fun x w' => ∃ a n c, x = .agg #[.int .i64 K, .int .i64 (f.length / 2 : Nat), .slice a n c] ∧ OwnI w.heap.size w' (.slice a n c) (sumT K f)) w) := by
  have hlen := h.len
  have hpl := pw_le hk1 hk4 (i := f.length) hl
  rw [show ((f.length / 2 : Nat) : Int) = (f.length : Int) / 2 by omega]
  have hK0 : ((K : Int) == 0) = false := by rw [beq_eq_false_iff_ne]; omega
  have hK1 : ¬ (K : Int) = 0 := by omega
  have hK2 : (0 : Int) < K := by omega
  have hK3 : ¬ K = 0 := by omega
  rw [sumT_range_eq hk1]
  obtain ⟨H, hH⟩ : ∃ H : Int, H = (f.length : Int) / 2 := ⟨_, rfl⟩
  have b0 := Below.step (belowAlloc w (.cells #[.int .i64 0, .int .i64 0, .slice none 0 0] 24)) (belowAlloc _ (.cells #[.int .i64 K, .int .i64 H, .slice none 0 0] 24))
  have bx : Box3 ((w.alloc (.cells #[.int .i64 0, .int .i64 0, .slice none 0 0] 24)).alloc (.cells #[.int .i64 K, .int .i64 H, .slice none 0 0] 24)) (w.heap.size + 1) (.int .i64 K) (.int .i64 H) (.slice none 0 0) := by simp [Box3, go_sem]
  have by_ : Box3 ((w.alloc (.cells #[.int .i64 0, .int .i64 0, .slice none 0 0] 24)).alloc (.cells #[.int .i64 K, .int .i64 H, .slice none 0 0] 24)) w.heap.size (.int .i64 0) (.int .i64 0) (.slice none 0 0) := by simp [Box3, go_sem]
  replace h := Lib.hid h
  replace hs := Lib.hid hs
  go_enter Tryd.func72, Tryd.ntmps72
  go_wp2
  rw [← hH]
  replace hH := Lib.hid hH
  go_loopw [6] (fun i wr => ∃ m : Nat, m ≤ pw K f.length ∧ i = .int .i64 m ∧ (∃ ta tn tc, OwnI (w.heap.size + 2) wr (.slice ta tn tc) ((List.range m).map (sumR K f)) ∧ Box3 wr (w.heap.size + 1) (.int .i64 K) (.int .i64 H) (.slice ta tn tc)) ∧ Box3 wr w.heap.size (.int .i64 0) (.int .i64 0) (.slice none 0 0) ∧ Below w.heap.size w wr) (fun i _ => pw K f.length - (intOf i).toNat)
  case atStart => exact ⟨0, by omega, rfl, ⟨none, 0, 0, OwnI.nil _ _, bx⟩, by_, b0⟩
  case round =>
    obtain ⟨m, hm, rfl, ⟨ta, tn, tc, hT, hX⟩, hY, hB⟩ := hrel
    obtain ⟨wo, rfl⟩ : ∃ wo : World, wo = wr := ⟨_, rfl⟩
    by_cases hml : m < pw K f.length
    · go_wp2_with fail
      refine (ref_power _ _ K f.length _ rfl rfl hk1 hk4 hl).mono ?_
      rintro e w1 ⟨rfl, rfl⟩
      go_wp2_with fail
      refine (ref_digits _ _ _ K f.length m _ rfl rfl rfl hk1 hk4 hl (by omega)).mono ?_
      rintro e w1 ⟨x, rfl, b1, hx⟩
      have hf1 := h.out.below (Below.step hB b1)
      have hdl : (digs K f.length m).length = f.length := digs_length ..
      have hds := digs_syms hk1 f.length m
      replace hT := Lib.hid (hT.below b1)
      replace hX := Lib.hid (hX.below b1)
      replace hY := Lib.hid (hY.below b1)
      have hB1 := Lib.hid (Below.step hB b1)
      have hsz : w.heap.size + 2 ≤ w1.heap.size := by
        have := World.block_lt_of_cell? _ _ hX.out.1.1
        simp at this
        omega
      have hxl := hx.at.len
      rw [hdl] at hxl
      replace hdl := Lib.hid hdl
      replace hds := Lib.hid hds
      replace hx := Lib.hid hx
      replace hf1 := Lib.hid hf1
      go_wp2
      go_loopw [8, 9] (fun s j wr => ∃ t : Nat, t ≤ f.length ∧ j = .int .i64 t ∧ s = .int .i64 (Sm (fun j => f.getD j 0 * (digs K f.length m).getD j 0) t) ∧ ∃ n, wr = w1.drewN n) (fun _ j _ => f.length - (intOf j).toNat)
      case atStart => exact ⟨0, by omega, rfl, rfl, 0, rfl⟩
      case round =>
        obtain ⟨t, ht, rfl, rfl, n, rfl⟩ := hrel
        have hbd := Sm_bound hk4 (fun j => f.getD j 0) (fun j => (digs K f.length m).getD j 0) (fun j => hs.out.getD (by omega) j) (fun j => hds.out.getD (by omega) j) t
        by_cases htl : t < f.length
        · have i1 := hf1.out.idx t htl
          have c1 := hf1.out.cellD t htl
          have i2 := hx.out.at.idx t (by rw [hdl.out]; exact htl)
          have c2 := hx.out.at.cellD t (by rw [hdl.out]; exact htl)
          have hpb := prod_bound hk4 (hs.out.getD (by omega) t) (hds.out.getD (by omega) t)
          have hst : Hid (Sm (fun j => f.getD j 0 * (digs K f.length m).getD j 0) (t + 1) = Sm (fun j => f.getD j 0 * (digs K f.length m).getD j 0) t + f.getD t 0 * (digs K f.length m).getD t 0) := rfl
          generalize Sm (fun j => f.getD j 0 * (digs K f.length m).getD j 0) t = SS at hbd hst
          generalize f.getD t 0 = p at c1 hpb hst
          generalize (digs K f.length m).getD t 0 = q at c2 hpb hst
          obtain ⟨hp1, hp2⟩ := hpb
          obtain ⟨hb1, hb2⟩ := hbd
          go_wp2
          go_quiet (fail)
          go_wp2
          go_roundw
          case rel => exact ⟨t + 1, by omega, by go_num, by rw [hst.out], _, rfl⟩
          case measure => simp [intOf]; omega
        · obtain rfl : t = f.length := by omega
          have hres : Hid (Sm (fun j => f.getD j 0 * (digs K f.length m).getD j 0) f.length % (K : Int) = sumR K f m) := rfl
          generalize Sm (fun j => f.getD j 0 * (digs K f.length m).getD j 0) f.length = SS at hbd hres
          obtain ⟨hb1, hb2⟩ := hbd
          go_wp2
          obtain ⟨W, hW⟩ : ∃ W : World, W = (w1.drewN n).drew := ⟨_, rfl⟩
          have eT : OwnI (w.heap.size + 2) W (.slice ta tn tc) ((List.range m).map (sumR K f)) := by rw [hW]; exact (hT.out.drewN n).drew
          have eX : Box3 W (w.heap.size + 1) (.int .i64 K) (.int .i64 H) (.slice ta tn tc) := by rw [hW]; exact hX.out.below (below_drewN (Below.refl _ _) n).drew
          have eY : Box3 W w.heap.size (.int .i64 0) (.int .i64 0) (.slice none 0 0) := by rw [hW]; exact hY.out.below (below_drewN (Below.refl _ _) n).drew
          have eB : Below w.heap.size w W := by rw [hW]; exact Below.step hB1.out (below_drewN (Below.refl _ _) n).drew
          have eS : w.heap.size + 2 ≤ W.heap.size := by rw [hW]; exact hsz
          refine wp_region_noPanic ?_
          refine wp_region_any (by kernel_rfl) ?_
          change wpAny _ _ _ _ _ _ _ (World.drew _)
          rw [← hW]
          clear hW hT hX hY hB1
          refine takeA (i := 0) (v := ?_) (some 45) rfl rfl (by kernel_rfl) (by kernel_rfl) (by kernel_rfl) (fun _ _ _ h => h) (Or.inl ⟨by rfl, ?_⟩) ?_
          rotate_left
          · intro _; go_simp; try with_reducible rfl
          simp only [Act.put, List.setIfInBounds_toArray, List.set_cons_zero, List.set_cons_succ]
          refine takeA (i := 2) (v := ?_) (some 47) rfl rfl (by kernel_rfl) (by kernel_rfl) (by kernel_rfl) (fun _ _ _ h => h) (Or.inl ⟨by rfl, ?_⟩) ?_
          rotate_left
          · intro _; go_simp; try with_reducible rfl
          simp only [Act.put, List.setIfInBounds_toArray, List.set_cons_zero, List.set_cons_succ]
          refine takeA (i := 3) (v := ?_) (some 48) rfl rfl (by kernel_rfl) (by kernel_rfl) (by kernel_rfl) (fun _ _ _ h => h) (Or.inl ⟨by rfl, ?_⟩) ?_
          rotate_left
          · intro _; go_simp; try with_reducible rfl
          simp only [Act.put, List.setIfInBounds_toArray, List.set_cons_zero, List.set_cons_succ]
          refine takeA (i := 4) (v := ?_) (some 49) rfl rfl (by kernel_rfl) (by kernel_rfl) (by kernel_rfl) (fun _ _ _ h => h) (Or.inl ⟨by rfl, ?_⟩) ?_
          rotate_left
          · intro _; go_simp; try with_reducible rfl
          simp only [Act.put, List.setIfInBounds_toArray, List.set_cons_zero, List.set_cons_succ]
          have eX' := eX
          have hlist : Hid ((List.range m).map (sumR K f) ++ [SS.tmod K] = (List.range (m + 1)).map (sumR K f)) := by
            show _ = _
            rw [List.range_succ, List.map_append, Int.tmod_eq_emod_of_nonneg hb1, hres.out]; rfl
          obtain ⟨⟨ex0, ex1, ex2⟩, eg0, eg1, eg2⟩ := eX'
          have ex2a := fun o => cell_alloc ex2 o
          refine wpAny_ready (rs := [1, 5]) (by kernel_rfl) (by simp) (AllReady.cons rfl (fun KK hK => ?_) (AllReady.cons rfl (fun KK hK => ?_) AllReady.nil))
          · go_simp
            refine hK _ _ ?_
            clear hK KK
            refine wpAny_ready (rs := [5]) (by kernel_rfl) (by simp) (AllReady.cons rfl (fun KK hK => ?_) AllReady.nil)
            go_simp
            refine hK _ _ ?_
            clear hK KK
            refine wpAny_ready (rs := [6]) (by kernel_rfl) (by simp) (AllReady.cons rfl (fun KK hK => ?_) AllReady.nil)
            refine step_app1 rfl _ _ rfl (w.heap.size + 2) (.slice ta tn tc) ((List.range m).map (sumR K f)) (SS.tmod K) W.heap.size rfl rfl (eT.alloc _) (by simp) (by simp; omega) (by simp; omega) ?_
            intro v' w' hT' hb'
            refine hK _ _ ?_
            clear hK KK
            obtain ⟨va', vn', vc', rfl⟩ := hT'.at.shape
            have X' := (eX.alloc _).belowB hb' (show w.heap.size + 1 < w.heap.size + 2 by omega)
            have Y' := (eY.alloc _).belowB hb' (show w.heap.size < w.heap.size + 2 by omega)
            have B' := (Below.allocL eB _).trans (hb'.mono (show w.heap.size ≤ w.heap.size + 2 by omega))
            have hTn := hT'.setBelowBase (a := ⟨w.heap.size + 1, 2, none⟩) (show w.heap.size + 1 < w.heap.size + 2 by omega) (.slice va' vn' vc')
            rw [hlist.out] at hTn
            have Xn := X'.set2 (.slice va' vn' vc')
            have Yn := Y'.far (show w.heap.size + 1 ≠ w.heap.size by omega) 2 (.slice va' vn' vc')
            have Bn := B'.setCell (p := ⟨w.heap.size + 1, 2, none⟩) (show w.heap.size ≤ w.heap.size + 1 by omega) (.slice va' vn' vc')
            obtain ⟨⟨ey0, ey1, ey2⟩, eh0, eh1, eh2⟩ := X'
            replace hTn := Lib.hid hTn
            replace Xn := Lib.hid Xn
            replace Yn := Lib.hid Yn
            replace Bn := Lib.hid Bn
            clear hT' Y' B' hb' ex0 ex1 ex2 eg0 eg1 eg2 ex2a
            refine takeA (i := 7) (v := ?_) (some 52) rfl rfl (by kernel_rfl) (by kernel_rfl) (by kernel_rfl) (fun _ _ _ h => h) (Or.inl ⟨by rfl, ?_⟩) ?_
            rotate_left
            · intro _; go_simp; try with_reducible rfl
            simp only [Act.put, List.setIfInBounds_toArray]
            refine wpAny_ready (rs := [8]) (by kernel_rfl) (by simp) (AllReady.cons rfl (fun KK hK => ?_) AllReady.nil)
            go_simp
            refine hK _ _ ?_
            clear hK KK
            refine wpAny_done (by kernel_rfl) ?_ _
            refine NoPanic.normal ?_
            go_wp2
            go_roundw
            case rel => exact ⟨m + 1, by omega, by go_num, ⟨va', vn', vc', hTn.out, Xn.out⟩, Yn.out, Bn.out⟩
            case measure => simp [intOf]; omega
          · go_simp
            refine hK _ _ ?_
            clear hK KK
            refine wpAny_ready (rs := [1]) (by kernel_rfl) (by simp) (AllReady.cons rfl (fun KK hK => ?_) AllReady.nil)
            go_simp
            refine hK _ _ ?_
            clear hK KK
            refine wpAny_ready (rs := [6]) (by kernel_rfl) (by simp) (AllReady.cons rfl (fun KK hK => ?_) AllReady.nil)
            refine step_app1 rfl _ _ rfl (w.heap.size + 2) (.slice ta tn tc) ((List.range m).map (sumR K f)) (SS.tmod K) W.heap.size rfl rfl (eT.alloc _) (by simp) (by simp; omega) (by simp; omega) ?_
            intro v' w' hT' hb'
            refine hK _ _ ?_
            clear hK KK
            obtain ⟨va', vn', vc', rfl⟩ := hT'.at.shape
            have X' := (eX.alloc _).belowB hb' (show w.heap.size + 1 < w.heap.size + 2 by omega)
            have Y' := (eY.alloc _).belowB hb' (show w.heap.size < w.heap.size + 2 by omega)
            have B' := (Below.allocL eB _).trans (hb'.mono (show w.heap.size ≤ w.heap.size + 2 by omega))
            have hTn := hT'.setBelowBase (a := ⟨w.heap.size + 1, 2, none⟩) (show w.heap.size + 1 < w.heap.size + 2 by omega) (.slice va' vn' vc')
            rw [hlist.out] at hTn
            have Xn := X'.set2 (.slice va' vn' vc')
            have Yn := Y'.far (show w.heap.size + 1 ≠ w.heap.size by omega) 2 (.slice va' vn' vc')
            have Bn := B'.setCell (p := ⟨w.heap.size + 1, 2, none⟩) (show w.heap.size ≤ w.heap.size + 1 by omega) (.slice va' vn' vc')
            obtain ⟨⟨ey0, ey1, ey2⟩, eh0, eh1, eh2⟩ := X'
            replace hTn := Lib.hid hTn
            replace Xn := Lib.hid Xn
            replace Yn := Lib.hid Yn
            replace Bn := Lib.hid Bn
            clear hT' Y' B' hb' ex0 ex1 ex2 eg0 eg1 eg2 ex2a
            refine takeA (i := 7) (v := ?_) (some 52) rfl rfl (by kernel_rfl) (by kernel_rfl) (by kernel_rfl) (fun _ _ _ h => h) (Or.inl ⟨by rfl, ?_⟩) ?_
            rotate_left
            · intro _; go_simp; try with_reducible rfl
            simp only [Act.put, List.setIfInBounds_toArray]
            refine wpAny_ready (rs := [8]) (by kernel_rfl) (by simp) (AllReady.cons rfl (fun KK hK => ?_) AllReady.nil)
            go_simp
            refine hK _ _ ?_
            clear hK KK
            refine wpAny_done (by kernel_rfl) ?_ _
            refine NoPanic.normal ?_
            go_wp2
            go_roundw
            case rel => exact ⟨m + 1, by omega, by go_num, ⟨va', vn', vc', hTn.out, Xn.out⟩, Yn.out, Bn.out⟩
            case measure => simp [intOf]; omega
    · obtain rfl : m = pw K f.length := by omega
      have hY' := hY
      obtain ⟨⟨y0, y1, y2⟩, g0, g1, g2⟩ := hY'
      obtain ⟨⟨x0, x1, x2⟩, -, -, -⟩ := hX
      replace hT := Lib.hid hT
      replace hB := Lib.hid hB
      go_wp2_with fail
      refine (ref_power _ _ K f.length _ rfl rfl hk1 hk4 hl).mono ?_
      rintro e w1 ⟨rfl, rfl⟩
      go_wp2
      refine bodyPost_ret (v := .agg #[.int .i64 K, .int .i64 H, .slice ta tn tc]) (by simp [results, Tryd.results72, go_sem, y0, y1, y2]) rfl ⟨_, rfl, below_set3 hB.out (Nat.le_refl _) _ _ _, ta, tn, tc, by rw [hH.out], ?_⟩
      exact (((hT.out.setBelowBase (a := ⟨w.heap.size, 0, none⟩) (by simp) _).setBelowBase (a := ⟨w.heap.size, 1, none⟩) (by simp) _).setBelowBase (a := ⟨w.heap.size, 2, none⟩) (by simp) _).mono (by omega)
end Go.Proofs.YtmddapkhipmlgaaDoor

namespace Go.Proofs.YtmddapkhipmlgaaDoor
open Go.RowKit
set_option maxRecDepth 100000

theorem fmirror1_any (K R : Nat) (va : Option Addr) (vn vc : Nat) (T : List Int) (p : Nat) (v : Value) (ys : List Int) (w : World)
    (h : IntsAt w (.slice va vn vc) T) (hr : RuleOk K R T) (hv : IntsAt w v ys) (hy : Syms K ys) (hyl : ys.length = 2 * R + 1)
    (x0 : w.cell? ⟨p, 0, none⟩ = some (.int .i64 K)) (x1 : w.cell? ⟨p, 1, none⟩ = some (.int .i64 R)) (x2 : w.cell? ⟨p, 2, none⟩ = some (.slice va vn vc)) :
    Calls Tryd.prog 90 #[v, .pointer (some ⟨p, 0, none⟩)] w (Ret1 (fun x _ => x = .int .i64 (T.getD (numW K ys.reverse) 0)) w) := by
  have hR := hr.r3
  have hle : ys.length ≤ 7 := by omega
  replace h := Lib.hid h
  replace hv := Lib.hid hv
  replace hy := Lib.hid hy
  replace hyl := Lib.hid hyl
  replace hr := Lib.hid hr
  have yy := Lib.hid (And.intro x0 (And.intro x1 x2))
  clear x0 x1 x2
  generalize hY : T.getD (numW K ys.reverse) 0 = Y
  replace hY := Lib.hid hY
  go_enter Tryd.func90, Tryd.ntmps90
  go_wp2_with fail
  refine (clone_any v ys _ hv.out (by omega)).mono ?_
  rintro e w1 ⟨x, rfl, b1, ho⟩
  have s1 := b1.size
  go_wp2_with fail
  refine (reverse_own _ x ys _ ho (by omega)).mono ?_
  rintro e w2 ⟨rfl, ho2, b2⟩
  have b12 := b1.trans b2
  obtain ⟨y0, y1, y2⟩ := keep3 b12 yy.out
  replace ho2 := Lib.hid ho2
  go_wp2_with fail
  refine (symbol_any K R va vn vc T x _ _ (h.out.below b12) hr.out ho2.out.at (fun z hz => hy.out z (List.mem_reverse.1 hz)) (by rw [List.length_reverse]; exact hyl.out)).mono ?_
  rintro e w3 ⟨x, rfl, b3, rfl⟩
  rw [hY.out]
  go_wp2
  go_ret
  exact ⟨_, rfl, Below.step b12 b3, rfl⟩

theorem eg_fmirror1 (args : Array Value) (w : World) : (callFunc 90 args).run Tryd.prog w = .ok (.enter 90 args) w := by kernel_rfl

theorem madeP_mir {K n : Nat} {T : List Int} (h : T.length = pw K n) : madeP K n (fun ys => T.getD (numW K ys.reverse) 0) (pw K n) = mirT K n T := by
  rw [madeP, mirT, h]

theorem fmirror_bad (r : Nat → Addr) (k R : Int) (va : Option Addr) (vn vc : Nat) (T : List Int) (t : Int × List (ByteArray × Int)) (w : World) (hg : Glob r w) (h : IntsAt w (.slice va vn vc) T) (hc : checkP k R T = some t) :
    Calls Tryd.prog 43 #[.agg #[.int .i64 k, .int .i64 R, .slice va vn vc]] w (Ret2 (fun x y w' => x = zR ∧ ErrIs r w' (under sForms 0 (some t)) y) w) := by
  have b0 := Below.step (belowAlloc w (.cells #[.int .i64 k, .int .i64 R, .slice va vn vc] 24)) (belowAlloc _ (.cells #[.int .i64 0, .int .i64 0, .slice none 0 0] 24))
  have q2 : Box3 ((w.alloc (.cells #[.int .i64 k, .int .i64 R, .slice va vn vc] 24)).alloc (.cells #[.int .i64 0, .int .i64 0, .slice none 0 0] 24)) (w.heap.size + 1) (.int .i64 0) (.int .i64 0) (.slice none 0 0) := by simp [Box3, go_sem]
  replace hg := Lib.hid (hg.below b0)
  replace h := Lib.hid (h.below b0)
  replace hc := Lib.hid hc
  go_enter Tryd.func43, Tryd.ntmps43
  go_wp2_with fail
  refine (forms_check r _ k R va vn vc T _ hg.out h.out).mono ?_
  rintro e w1 ⟨x, rfl, hb, he⟩
  rw [hc.out] at he
  obtain ⟨T1, a1, rfl⟩ := ErrIs.some_shape he
  replace he := Lib.hid he
  obtain ⟨⟨y0, y1, y2⟩, f0, f1, f2⟩ := q2.below hb
  go_wp2
  rw [setCell_self3 y0 y1 y2]
  exact bodyPost_ret (v := .tuple #[zR, .iface T1 (.pointer (some a1))]) (by simp [results, Tryd.results43, go_sem, y0, y1, y2]) rfl ⟨_, _, rfl, Below.step b0 hb, rfl, he.out⟩

set_option maxHeartbeats 800000 in
theorem fmirror_ok (r : Nat → Addr) (K R : Nat) (va : Option Addr) (vn vc : Nat) (T : List Int) (w : World) (hg : Glob r w) (h : IntsAt w (.slice va vn vc) T) (hr : RuleOk K R T) :
    Calls Tryd.prog 43 #[.agg #[.int .i64 K, .int .i64 R, .slice va vn vc]] w (Ret2 (fun x y w' => y = .nilIface ∧ ∃ a n c, x = .agg #[.int .i64 K, .int .i64 R, .slice a n c] ∧ OwnI w.heap.size w' (.slice a n c) (mirT K (2 * R + 1) T)) w) := by
  have b0 := Below.step (belowAlloc w (.cells #[.int .i64 K, .int .i64 R, .slice va vn vc] 24)) (belowAlloc _ (.cells #[.int .i64 0, .int .i64 0, .slice none 0 0] 24))
  have q2 : Box3 ((w.alloc (.cells #[.int .i64 K, .int .i64 R, .slice va vn vc] 24)).alloc (.cells #[.int .i64 0, .int .i64 0, .slice none 0 0] 24)) (w.heap.size + 1) (.int .i64 0) (.int .i64 0) (.slice none 0 0) := by simp [Box3, go_sem]
  have q1 : Box3 ((w.alloc (.cells #[.int .i64 K, .int .i64 R, .slice va vn vc] 24)).alloc (.cells #[.int .i64 0, .int .i64 0, .slice none 0 0] 24)) w.heap.size (.int .i64 K) (.int .i64 R) (.slice va vn vc) := by simp [Box3, go_sem]
  have hk1 := hr.k1
  have hk4 := hr.k4
  have hR3 := hr.r3
  have hck := Lib.hid hr.check
  replace hg := Lib.hid (hg.below b0)
  replace h := Lib.hid (h.below b0)
  replace hr := Lib.hid hr
  go_enter Tryd.func43, Tryd.ntmps43
  go_wp2_with fail
  refine (forms_check r _ K R va vn vc T _ hg.out h.out).mono ?_
  rintro e w1 ⟨x, rfl, hb, he⟩
  rw [hck.out] at he
  obtain rfl := ErrIs.none_eq he
  have q11 := q1.below hb
  have q11x := q11
  obtain ⟨⟨z0, z1, z2⟩, -, -, -⟩ := q11x
  have s1 := hb.size
  simp only [World.size_alloc] at s1
  go_wp2_with fail
  refine (made_one K R _ _ (fun ys => T.getD (numW K ys.reverse) 0) _ hk1 hk4 hR3 _ rfl eg_fmirror1 (fun v ys w' hB hv hy hyl => by
    have := q11.below hB
    exact fmirror1_any K R va vn vc T _ v ys w' ((h.out.below hb).below hB) hr.out hv hy hyl this.1.1 this.1.2.1 this.1.2.2)).mono ?_
  rintro e w2 ⟨x, rfl, b2, a, n, c, rfl, ho⟩
  rw [madeP_mir hr.out.len] at ho
  obtain ⟨⟨y0, y1, y2⟩, f0, f1, f2⟩ := q2.below (Below.step hb b2)
  replace ho := Lib.hid ho
  clear z0 z1 z2
  go_wp2
  refine bodyPost_ret (v := .tuple #[.agg #[.int .i64 K, .int .i64 R, .slice a n c], .nilIface]) (by simp [results, Tryd.results43, go_sem, y0, y1, y2]) rfl ⟨_, _, rfl, below_set3 (Below.step b0 (Below.step hb b2)) (Nat.le_succ _) _ _ _, rfl, a, n, c, rfl, ?_⟩
  exact (((ho.out.setBelowBase (a := ⟨w.heap.size + 1, 0, none⟩) (by simp; omega) _).setBelowBase (a := ⟨w.heap.size + 1, 1, none⟩) (by simp; omega) _).setBelowBase (a := ⟨w.heap.size + 1, 2, none⟩) (by simp; omega) _).mono (by omega)
end Go.Proofs.YtmddapkhipmlgaaDoor

namespace Go.Proofs.YtmddapkhipmlgaaDoor
open Go.RowKit Go.Shelf
attribute [local go_sem] Oper.semAt_some
set_option maxRecDepth 100000

set_option maxHeartbeats 2000000 in
/-- The iterator of slices.Values: for every loop body that keeps what lay below n0. -/
theorem vals1_in (F : Fence) (n : Nat) (hF : F.fn 119) (hro : F.round = none) (hn : 1 ≤ n) (l Bs n0 : Nat) (v : Value) (zs : List Int) (J Jx : List Int → World → Prop)
    (hY : ∀ pre x W, J pre W → pre.length < zs.length → YieldAt F (n - 1) Tryd.prog l #[.int .i64 x] W fun e W' =>
      (e = .returned (.bool true) ∧ J (pre ++ [x]) W' ∧ Below n0 W W') ∨ (e = .returned (.bool false) ∧ Jx (pre ++ [x]) W'))
    (W : World) (hBs : W.cell? ⟨Bs, 0, none⟩ = some v) (hv : IntsAt W v zs) (hb : ∀ i, i < zs.length → (valAt v i).block < n0) (h0 : J [] W) :
    CallsIn F n Tryd.prog 119 #[.func (.yield l) #[] #[], .pointer (some ⟨Bs, 0, none⟩)] W fun e W' => (∃ u, e = .returned u) ∧
      ((∃ ys, ys = zs ∧ J ys W') ∨ (∃ pre, pre <+: zs ∧ Jx pre W')) := by
  have hlen := hv.len
  have hmax := hv.len_le
  replace hv := Lib.hid hv
  refine callsIn_of_wp Tryd.func119 rfl hF ?_ hro
  simp only [Tryd.ntmps119, List.size_toArray, List.length_cons, List.length_nil, Nat.reduceAdd, Nat.reduceSub, Array.replicate_succ, Array.replicate_zero, List.push_toArray, List.append_toArray, List.nil_append, List.cons_append]
  gi_wp2
  gi_loopw [7] (fun i wr => ∃ k : Nat, k ≤ zs.length ∧ i = .int .i64 k ∧ J (zs.take k) wr ∧ Below n0 W wr)
    (fun i _ => zs.length - (intOf i).toNat)
  case atStart => exact ⟨0, Nat.zero_le _, rfl, h0, Below.refl _ _⟩
  case round =>
    obtain ⟨k, hk, rfl, hJs, hnx⟩ := hrel
    by_cases hlt : k < zs.length
    · have i1 := hv.out.idx k hlt
      have c1 := (hnx.cell (hb k hlt)).trans (hv.out.cell k hlt)
      have ht := Lib.hid (take_snoc zs k hlt)
      obtain ⟨x, hx⟩ : ∃ x, x = zs[k] := ⟨_, rfl⟩
      rw [← hx] at c1 ht
      clear hx
      obtain ⟨fn, tmps, assign, body, hy, hR⟩ := hY _ x wr hJs (by simp; omega)
      replace hJs := Lib.hid hJs
      gi_wp2
      refine hR.mono ?_
      rintro e W3 (⟨rfl, hJ3, hk3⟩ | ⟨rfl, hJx3⟩)
      · replace hJ3 := Lib.hid hJ3
        gi_wp2
        go_roundw
        case rel => exact ⟨k + 1, by omega, by go_num, by rw [ht.out]; exact hJ3.out, hnx.trans hk3⟩
        case measure => simp [intOf]; omega
      · replace hJx3 := Lib.hid hJx3
        gi_wp2
        refine bodyPost_ret (results_none rfl _ _ _) rfl ?_
        exact ⟨⟨_, rfl⟩, .inr ⟨_, by rw [← ht.out]; exact List.take_prefix _ _, hJx3.out⟩⟩
    · obtain rfl : k = zs.length := by omega
      rw [List.take_length] at hJs
      replace hJs := Lib.hid hJs
      gi_wp2
      go_end0
      exact ⟨⟨_, rfl⟩, .inl ⟨_, rfl, hJs.out⟩⟩

/-- slices.Values(s): the slice is boxed; the function value captures the box. -/
theorem vals_any (a : Option Addr) (n c : Nat) (w : World) :
    Calls Tryd.prog 93 #[.slice a n c] w fun e w' => e = .returned (.func (.func 119) #[] #[.pointer (some ⟨w.heap.size, 0, none⟩)]) ∧ w.alloc (.cells #[.slice a n c] 22) = w' := by
  go_enter Tryd.func93, Tryd.ntmps93
  go_wp2
  go_ret
  exact ⟨rfl, rfl⟩

theorem vals_stops (F : Fence) (n : Nat) (hF : F.fn 119) (hro : F.round = none) (hn : 1 ≤ n) (Bs n0 : Nat) (v : Value) (zs : List Int) (w : World) (hBs : Bs < w.heap.size)
    (hc : w.cell? ⟨Bs, 0, none⟩ = some v) (hv : IntsAt w v zs) (hb : ∀ i, i < zs.length → (valAt v i).block < n0) :
    SeqStopsK F n Tryd.prog 119 #[.pointer (some ⟨Bs, 0, none⟩)] (fun x : Int => #[Value.int .i64 x]) (Below n0) (fun ys => ys = zs) (fun pre => pre <+: zs) zs.length w := fun l J Jx W hW _ _ hY h0 =>
  vals1_in F n hF hro hn l Bs n0 v zs J Jx hY W ((hW.cell (p := ⟨Bs, 0, none⟩) hBs).trans hc) (hv.below hW) hb h0

set_option maxHeartbeats 2000000 in
/-- slices.AppendSeq(nil, slices.Values(s)): a new list of the same numbers. -/
theorem appendSeq_in (F : Fence) (n : Nat) (hA : F.fn 128) (hV : F.fn 119) (hro : F.round = none) (hn : 3 ≤ n) (Bs : Nat) (v : Value) (zs : List Int) (hlen : zs.length ≤ 17592186044416) (w : World)
    (hBs : Bs < w.heap.size) (hc : w.cell? ⟨Bs, 0, none⟩ = some v) (hv : IntsAt w v zs) :
    CallsIn F n Tryd.prog 128 #[.slice none 0 0, .func (.func 119) #[] #[.pointer (some ⟨Bs, 0, none⟩)]] w fun e w' => ∃ x, e = .returned x ∧ OwnI w.heap.size w' x zs ∧ Below w.heap.size w w' := by
  have h1 : 1 ≤ n := by omega
  obtain ⟨i0, hi, hz0, hz1, hz2⟩ := info_parts iInt
  refine callsIn_of_wp_marks Tryd.func128 rfl hA ?_ hro
  simp only [Tryd.ntmps128, List.size_toArray, List.length_cons, List.length_nil, Nat.reduceAdd, Nat.reduceSub, Array.replicate_succ, Array.replicate_zero, List.push_toArray, List.append_toArray, List.nil_append, List.cons_append]
  replace hv := Lib.hid hv
  gi_wp2
  have bO := Boxed.new w 22 (.slice none 0 0)
  have hB0 : Below w.heap.size w (w.alloc (.cells #[.slice none 0 0] 22)) := (Below.refl _ w).alloc (Nat.le_refl _) _
  refine wpIn_rangeFunc_ownG hro h1 (gf := 119) (lb := #[.pointer (some ⟨Bs, 0, none⟩)]) rfl hV (enters_of Tryd.func119 (by kernel_rfl) rfl)
    (vals_stops F (n - 1) hV hro (by omega) Bs w.heap.size v zs _ (by simp; omega) ((hB0.cell (p := ⟨Bs, 0, none⟩) hBs).trans hc) (hv.out.below hB0) (fun i hi => hv.out.blk i hi)) belowK_t (belowK_b (by simp)) (Below.refl _ _) (fun _ => rfl)
    (fun pre W => (∃ v, Boxed W w.heap.size 22 v ∧ W.ownsRow w.heap.size 3 1 v pre.length (pre.map (Value.int .i64)) ∧ (v = .slice none 0 0 ↔ pre = [])) ∧ Below w.heap.size w W)
    (fun _ _ _ => False)
    (OwnFrom.and (Own.from (holdsRow_own w.heap.size w.heap.size 22 3 1 (fun pre => pre.length) (fun pre => pre.map (Value.int .i64)) (fun pre v => v = .slice none 0 0 ↔ pre = [])) _) (ownFrom_below (Nat.le_refl _) (by simp)))
    (fun _ _ _ _ _ hs _ _ => hs)
    ⟨⟨_, bO, World.ownsRow_nil _ _ _ _, by simp⟩, hB0⟩
    (fun x => { tmps := #[.slice none 0 0, .func (.func 119) #[] #[.pointer (some ⟨Bs, 0, none⟩)], .pointer (some ⟨w.heap.size, 0, none⟩), undef, .slice none 0 0, .int .i64 x, .func (.func 119) #[] #[.pointer (some ⟨Bs, 0, none⟩)], .int .i64 x, undef, undef, undef, undef, undef], defers := [] }) ?assign ?body ?done ?stop
  case assign =>
    intro l x W K hK
    gi_wp2
    exact hK
  case body =>
    rintro l pre x W ⟨⟨v, hv, hrow, hnil⟩, hB⟩ hlt
    have hc := hv.cell
    gi_wp2_with (gi_at_builtin; refine wpListIn_append_own _ rfl _ _ 22 rfl w.heap.size 3 i0 (.int .i64 0) 1 8 uInts hi hz0 hz1 hz2 rfl (by decide) _ _ _ rfl (hrow.alloc _) ⟨W.heap.size, 0, none⟩ 1 1 [.int .i64 x] rfl rfl (cell_one_new _ _ _) (by simp [Value.oneCell']) (by unfold maxLen; omega) (by omega) (by have := hB.size; simp; omega) ?_; intro v' w1 hown' hgrow _; obtain ⟨g', cap', rfl⟩ := ownsRow_succ hown'; obtain ⟨hv1, hv2, hr2, hk2, hb2⟩ := hv.appended (by decide) hrow hB.size (Nat.le_refl _) hown' hgrow; have hc1 := hv1.cell; have hf1 := hv1.frozen)
    exact ⟨hk2.from _, hb2, ⟨_, hv2, by simpa using hr2, by simp⟩, hB.trans hb2⟩
  case done =>
    rintro D ys W hD rfl ⟨⟨v, hv, hrow, hnil⟩, hB⟩ hK
    have hc := hv.cell
    gi_wp2
    refine ⟨by simp, .inl ⟨_, _, rfl, run_takeDeferred hK, ?_⟩⟩
    exact ⟨_, results_tmp rfl _ _ _, v, rfl, ownsRow_putObj hrow _ hK rfl, hB.trans (belowK_b (w := w) (Nat.le_refl _) W D _ _ (by simp at hD; omega) hK rfl rfl)⟩
  case stop =>
    rintro D c pre W _ _ h _
    exact h.elim

theorem collect_any (Bs : Nat) (v : Value) (zs : List Int) (hlen : zs.length ≤ 17592186044416) (w : World) (hBs : Bs < w.heap.size) (hc : w.cell? ⟨Bs, 0, none⟩ = some v) (hv : IntsAt w v zs) :
    Calls Tryd.prog 117 #[.func (.func 119) #[] #[.pointer (some ⟨Bs, 0, none⟩)]] w (Ret1 (fun x w' => OwnI w.heap.size w' x zs) w) := by
  have hA := (callsIn_wide (n := 6)).1 (appendSeq_in Fence.wide 6 trivial trivial rfl (by omega) Bs v zs hlen w hBs hc hv)
  go_enter Tryd.func117, Tryd.ntmps117
  go_wp2_with fail
  refine hA.mono ?_
  clear hA
  rintro e w1 ⟨x, rfl, ho, hb⟩
  replace ho := Lib.hid ho
  go_wp2
  go_ret
  exact ⟨_, rfl, hb, ho.out⟩
end Go.Proofs.YtmddapkhipmlgaaDoor

namespace Go.Proofs.YtmddapkhipmlgaaDoor
open Go.RowKit Go.Shelf Go.Sort
set_option maxRecDepth 100000

def Tryd.laysSort_ren : Go.Shelf.Ren := ⟨fun | 5 => 118 | 8 => 130 | 7 => 129 | 19 => 140 | 20 => 141 | 10 => 131 | 11 => 132 | 12 => 133 | 13 => 134 | 14 => 135 | 15 => 136 | 16 => 137 | 17 => 138 | 18 => 139 | 30 => 142 | 31 => 143 | 32 => 144 | 33 => 145 | 34 => 146 | 35 => 147 | 40 => 148 | n => n, fun | 23 => 22 | 25 => 3 | 3 => 3 | 32 => 165 | 22 => 22 | 0 => 0 | 44 => 175 | 46 => 177 | 4 => 4 | 36 => 168 | 35 => 167 | 41 => 172 | 5 => 5 | 9 => 9 | 53 => 178 | 57 => 182 | 63 => 184 | 64 => 185 | n => n, fun | n => n⟩
theorem Tryd.laysSort : Go.Proofs.SlLaysM.n5 Tryd.prog Tryd.laysSort_ren := {
  mixed := by kernel_rfl
  f5 := ⟨Tryd.f118.name, by decide, Tryd.func118.trans (congrArg some (by kernel_rfl))⟩
  f7 := ⟨Tryd.f129.name, by decide, Tryd.func129.trans (congrArg some (by kernel_rfl))⟩
  f8 := Tryd.func130.trans (congrArg some (by kernel_rfl))
  f10 := ⟨Tryd.f131.name, by decide, Tryd.func131.trans (congrArg some (by kernel_rfl))⟩
  f11 := ⟨Tryd.f132.name, by decide, Tryd.func132.trans (congrArg some (by kernel_rfl))⟩
  f12 := ⟨Tryd.f133.name, by decide, Tryd.func133.trans (congrArg some (by kernel_rfl))⟩
  f13 := ⟨Tryd.f134.name, by decide, Tryd.func134.trans (congrArg some (by kernel_rfl))⟩
  f14 := ⟨Tryd.f135.name, by decide, Tryd.func135.trans (congrArg some (by kernel_rfl))⟩
  f15 := ⟨Tryd.f136.name, by decide, Tryd.func136.trans (congrArg some (by kernel_rfl))⟩
  f16 := ⟨Tryd.f137.name, by decide, Tryd.func137.trans (congrArg some (by kernel_rfl))⟩
  f17 := ⟨Tryd.f138.name, by decide, Tryd.func138.trans (congrArg some (by kernel_rfl))⟩
  f18 := ⟨Tryd.f139.name, by decide, Tryd.func139.trans (congrArg some (by kernel_rfl))⟩
  f19 := Tryd.func140.trans (congrArg some (by kernel_rfl))
  f20 := Tryd.func141.trans (congrArg some (by kernel_rfl))
  f30 := ⟨Tryd.f142.name, by decide, Tryd.func142.trans (congrArg some (by kernel_rfl))⟩
  f31 := Tryd.func143.trans (congrArg some (by kernel_rfl))
  f32 := Tryd.func144.trans (congrArg some (by kernel_rfl))
  f33 := ⟨Tryd.f145.name, by decide, Tryd.func145.trans (congrArg some (by kernel_rfl))⟩
  f34 := ⟨Tryd.f146.name, by decide, Tryd.func146.trans (congrArg some (by kernel_rfl))⟩
  f35 := ⟨Tryd.f147.name, by decide, Tryd.func147.trans (congrArg some (by kernel_rfl))⟩
  f40 := ⟨Tryd.f148.name, by decide, Tryd.func148.trans (congrArg some (by kernel_rfl))⟩
  t0 := Tryd.underlying0
  a0 := Tryd.isAgg0
  z0 := Tryd.sizeOf0
  v0 := Tryd.zeroValue0
  t3 := Tryd.underlying3
  a3 := Tryd.isAgg3
  z3 := Tryd.sizeOf3
  v3 := Tryd.zeroValue3
  t4 := Tryd.underlying4
  a4 := Tryd.isAgg4
  z4 := Tryd.sizeOf4
  v4 := Tryd.zeroValue4
  t5 := Tryd.underlying5
  a5 := Tryd.isAgg5
  z5 := Tryd.sizeOf5
  v5 := Tryd.zeroValue5
  t9 := Tryd.underlying9
  a9 := Tryd.isAgg9
  z9 := Tryd.sizeOf9
  v9 := Tryd.zeroValue9
  t22 := Tryd.underlying22
  a22 := Tryd.isAgg22
  z22 := Tryd.sizeOf22
  v22 := Tryd.zeroValue22
  t23 := Tryd.underlying22
  a23 := Tryd.isAgg22
  z23 := Tryd.sizeOf22
  v23 := Tryd.zeroValue22
  t25 := Tryd.underlying3
  a25 := Tryd.isAgg3
  z25 := Tryd.sizeOf3
  v25 := Tryd.zeroValue3
  t32 := Tryd.underlying165
  a32 := Tryd.isAgg165
  z32 := Tryd.sizeOf165
  v32 := Tryd.zeroValue165
  t35 := Tryd.underlying167
  a35 := Tryd.isAgg167
  z35 := Tryd.sizeOf167
  v35 := Tryd.zeroValue167
  t36 := Tryd.underlying168
  a36 := Tryd.isAgg168
  z36 := Tryd.sizeOf168
  v36 := Tryd.zeroValue168
  t41 := Tryd.underlying172
  a41 := Tryd.isAgg172
  z41 := Tryd.sizeOf172
  v41 := Tryd.zeroValue172
  t44 := Tryd.underlying175
  a44 := Tryd.isAgg175
  z44 := Tryd.sizeOf175
  v44 := Tryd.zeroValue175
  t46 := Tryd.underlying177
  a46 := Tryd.isAgg177
  z46 := Tryd.sizeOf177
  v46 := Tryd.zeroValue177
  t53 := Tryd.underlying178
  a53 := Tryd.isAgg178
  z53 := Tryd.sizeOf178
  v53 := Tryd.zeroValue178
  t57 := Tryd.underlying182
  a57 := Tryd.isAgg182
  z57 := Tryd.sizeOf182
  v57 := Tryd.zeroValue182
  t63 := Tryd.underlying184
  a63 := Tryd.isAgg184
  z63 := Tryd.sizeOf184
  v63 := Tryd.zeroValue184
  t64 := Tryd.underlying185
  a64 := Tryd.isAgg185
  z64 := Tryd.sizeOf185
  v64 := Tryd.zeroValue185 }

/-- Ascending. -/
def srt (xs : List Int) : List Int := xs.mergeSort fun x y => decide (x ≤ y)
theorem srt_length (xs : List Int) : (srt xs).length = xs.length := by simp [srt]

/-- slices.Sort at a list of one's own. -/
theorem sort_own (B : Nat) (v : Value) (xs : List Int) (w : World) (h : OwnI B w v xs) (hl : xs.length ≤ 17592186044416) (hB : B ≤ w.heap.size) :
    Calls Tryd.prog 118 #[v] w fun e w' => e = .returned (.tuple #[]) ∧ OwnI B w' v (srt xs) ∧ Below B w w' := by
  rcases h.2 with ⟨rfl, hn⟩ | ⟨g, cap, cur, rfl, hb, hg, hn, hcm, hs, ht⟩
  · obtain rfl := List.length_eq_zero_iff.1 hn
    refine Calls.mono (AnyM.slices_Sort_int_none Tryd.laysSort none 0 w) ?_
    rintro e w' ⟨rfl, rfl⟩
    exact ⟨rfl, by simpa [srt] using h, Below.refl _ _⟩
  · have hlen : xs.length < 4611686018427387904 := by omega
    refine Calls.mono (AnyM.slices_Sort_int Tryd.laysSort g 0 cap xs w (holds_of_block_i hg (by simpa using ht)) (Array.getElem?_eq_some_iff.1 hg).1 hlen) ?_
    rintro e w' ⟨rfl, n, os, rfl⟩
    refine ⟨rfl, ?_, (Below.refl _ _).grown (grownBy_sorted_i _) hB (fun j hj => by cases hj; exact hb)⟩
    have := ownsRow_sorted_i (n := n) (os := os) (ts := srt xs) (srt_length xs) hb hg hn hcm hs
    unfold OwnI
    rw [srt_length]
    exact this

theorem sorted_any (Bs : Nat) (v : Value) (zs : List Int) (hlen : zs.length ≤ 17592186044416) (w : World) (hBs : Bs < w.heap.size) (hc : w.cell? ⟨Bs, 0, none⟩ = some v) (hv : IntsAt w v zs) :
    Calls Tryd.prog 92 #[.func (.func 119) #[] #[.pointer (some ⟨Bs, 0, none⟩)]] w (Ret1 (fun x w' => OwnI w.heap.size w' x (srt zs)) w) := by
  have hA := collect_any Bs v zs hlen w hBs hc hv
  go_enter Tryd.func92, Tryd.ntmps92
  go_wp2_with fail
  refine hA.mono ?_
  clear hA
  rintro e w1 ⟨x, rfl, hb, ho⟩
  have hs := hb.size
  go_wp2_with fail
  refine (sort_own w.heap.size x zs _ ho hlen hs).mono ?_
  rintro e w2 ⟨rfl, ho2, hb2⟩
  replace ho2 := Lib.hid ho2
  go_wp2
  go_ret
  exact ⟨_, rfl, hb.trans hb2, ho2.out⟩
end Go.Proofs.YtmddapkhipmlgaaDoor

namespace Go.Proofs.YtmddapkhipmlgaaDoor

section
variable {P : Program} {ops : Array Oper} {Q : Exit → Act → World → Prop} {md : Region.Mode} {S : World → Prop}

/-- Whatever order is picked from here on; behind an operation of the head the fact S holds. -/
def wpAnyT (P : Program) (md : Region.Mode) (ops : Array Oper) (Q : Exit → Act → World → Prop) (S : World → Prop) (n : Nat) : Nat → Array Bool → Act → World → Prop
  | 0, listed, a, w => Region.ready md ops listed = [] ∧ Q .normal a w
  | fuel + 1, listed, a, w =>
    (Region.ready md ops listed = [] → Q .normal a w) ∧
    ∀ i ∈ Region.ready md ops listed, wpOp P ops Q i (fun a' w' => (i < n → S w') ∧ wpAnyT P md ops Q S n fuel (listed.setIfInBounds i true) a' w') a w

theorem wpAny_of_T {n : Nat} : ∀ (fuel : Nat) (listed : Array Bool) (a : Act) (w : World), wpAnyT P md ops Q S n fuel listed a w → wpAny P md ops Q fuel listed a w
  | 0, _, _, _, h => h
  | fuel + 1, _, _, _, h => ⟨h.1, fun i hi => wpOp_mono (fun a' w' h' => wpAny_of_T fuel _ a' w' h'.2) (h.2 i hi)⟩

/-- Where the whole head has come up, it is a wpAny. -/
theorem wpAnyT_of {n : Nat} : ∀ (fuel : Nat) (listed : Array Bool) (a : Act) (w : World), (∀ j, j < n → listed.getD j true = true) → wpAny P md ops Q fuel listed a w → wpAnyT P md ops Q S n fuel listed a w
  | 0, _, _, _, _, h => h
  | fuel + 1, listed, a, w, hl, h => ⟨h.1, fun i hi => wpOp_mono (fun a' w' h' => ⟨fun hin => Bool.noConfusion ((hl i hin).symm.trans (mem_ready.1 hi).1), wpAnyT_of fuel _ a' w' (fun j hj => by
        by_cases hij : i = j
        · subst hij
          rcases Nat.lt_or_ge i listed.size with h2 | h2
          · simp [h2]
          · rw [Array.getD_eq_getD_getElem?, Array.getElem?_eq_none (by simpa using h2)]; rfl
        · rw [getD_set_ne true hij]; exact hl j hj) h'⟩) (h.2 i hi)⟩

theorem wpAnyT_first {n i : Nat} {oi : Oper} {v : Value} (hi : ops[i]? = some oi) (hsel : ∀ (j : Nat) (o : Oper) cs b, ops[j]? = some o → o.op ≠ .select cs b)
    (hs : Region.sinkB md ops n = true) (hc : Region.chainB md ops n = true) (hn : n < ops.size) (hin : i < n)
    (hQ : ∀ c a w, Q (.panic c) (a.put oi.dst v) w → Q (.panic c) a w) :
    ∀ (fuel : Nat) (listed : Array Bool) (a : Act) (w : World), HeadInv md ops n listed →
      (∀ j oj, ops[j]? = some oj → j ≠ i → listed.getD j true = false → (∀ e ∈ oj.after, Region.binds md e = true → e.on ≠ i) → oi.apart ops oj = true) →
      i ∈ Region.ready md ops listed → YieldsIf P ops S oi v a → S w →
      wpAnyT P md ops Q S n fuel (listed.setIfInBounds i true) (a.put oi.dst v) w → wpAnyT P md ops Q S n (fuel + 1) listed a w := by
  intro fuel
  induction fuel with
  | zero =>
    intro listed a w inv _ hr hy hS H
    refine ⟨fun h => (by rw [h] at hr; cases hr), fun j hj => ?_⟩
    by_cases hji : j = i
    · subst hji; exact hy.wpOp hi hS ⟨fun _ => hS, H⟩
    · have := ready_mono hj hji
      rw [H.1] at this
      cases this
  | succ fuel ih =>
    intro listed a w inv hfree hr hy hS H
    have hun := (mem_ready.1 hr).1
    refine ⟨fun h => (by rw [h] at hr; cases hr), fun j hj => ?_⟩
    have hjn : j < n := by
      rcases Nat.lt_or_ge j n with h | h
      · exact h
      · exact absurd hj (tail_waits hs hc hn inv _ i rfl hin hun j h)
    by_cases hji : j = i
    · subst hji; exact hy.wpOp hi hS ⟨fun _ => hS, H⟩
    · have h1 := H.2 j (ready_mono hj hji)
      obtain ⟨hjun, oj, hoj, hall⟩ := mem_ready.1 hj
      have hnot : ∀ e ∈ oj.after, Region.binds md e = true → e.on ≠ i := fun e he hb heq => by
        have h1 := hall e he hb
        rw [heq, getD_both hun] at h1
        cases h1
      have h2 := wpOp_putIf hoj (hfree j oj hoj hji hjun hnot) (fun cs b => hsel i oi cs b hi) (fun cs b => hsel j oj cs b hoj) hQ hy h1
      have hfree' : ∀ k ok, ops[k]? = some ok → k ≠ i → (listed.setIfInBounds j true).getD k true = false →
          (∀ e ∈ ok.after, Region.binds md e = true → e.on ≠ i) → oi.apart ops ok = true := fun k ok hk hki hun hno => by
        refine hfree k ok hk hki ?_ hno
        by_cases hjk : j = k
        · subst hjk; exact hjun
        · rw [getD_set_ne true hjk] at hun; exact hun
      refine wpOp_mono (fun a' w' h3 => ⟨fun _ => h3.2.1 hjn, ih (listed.setIfInBounds j true) a' w' (inv.set hj hjn) hfree' (ready_mono hr (Ne.symm hji)) h3.1 (h3.2.1 hjn) ?_⟩) h2
      rw [Array.setIfInBounds_comm _ _ hji]
      exact h3.2.2

/-- The head's operations in the plan's order: (k, true): number k yields a value under S; (k, false): number k alone can come up, whatever it does. -/
def wpHead (P : Program) (ops : Array Oper) (Q : Exit → Act → World → Prop) (S : World → Prop) (K : Act → World → Prop) : List (Nat × Bool) → Act → World → Prop
  | [], a, w => K a w
  | (k, true) :: l, a, w => ∃ o v, ops[k]? = some o ∧ YieldsIf P ops S o v a ∧ S w ∧ wpHead P ops Q S K l (a.put o.dst v) w
  | (k, false) :: l, a, w => wpOp P ops Q k (fun a' w' => S w' ∧ wpHead P ops Q S K l a' w') a w

def planB (md : Region.Mode) (ops : Array Oper) (n : Nat) : List (Nat × Bool) → Array Bool → Bool
  | [], listed => (List.range n).all (fun j => listed.getD j true) && Region.seqB md ops (ops.size - n) n listed
  | (k, true) :: l, listed => decide (k < n) && (Region.ready md ops listed).contains k && Region.free md ops listed k && planB md ops n l (listed.setIfInBounds k true)
  | (k, false) :: l, listed => decide (k < n) && decide (Region.ready md ops listed = [k]) && planB md ops n l (listed.setIfInBounds k true)

theorem wpAnyT_plan {n : Nat} {ol : List Oper} (hol : ops = ol.toArray) (hsel : Region.noSelect ops = true) (hs : Region.sinkB md ops n = true) (hc : Region.chainB md ops n = true) (hn : n < ops.size)
    (hQ : ∀ c a w, Q (.panic c) a w → False) :
    ∀ (l : List (Nat × Bool)) (listed : Array Bool) (a : Act) (w : World), HeadInv md ops n listed → planB md ops n l listed = true →
      wpHead P ops Q S (fun a' w' => wpList P ops Q (ol.drop n) a' w') l a w → wpAnyT P md ops Q S n (l.length + (ops.size - n)) listed a w
  | [], listed, a, w, inv, hB, h => by
    simp only [planB, Bool.and_eq_true] at hB
    have hl : ∀ j, j < n → listed.getD j true = true := fun j hj => List.all_eq_true.1 hB.1 j (List.mem_range.2 hj)
    rw [List.length_nil, Nat.zero_add]
    refine wpAnyT_of _ _ _ _ hl ?_
    have hdl : (ol.drop n).length = ops.size - n := by subst hol; simp
    rw [← hdl]
    refine wpAny_of_seq (ol.drop n) n listed a w (fun j => by subst hol; simp) ?_ h
    rw [hdl]; exact hB.2
  | (k, true) :: l, listed, a, w, inv, hB, h => by
    simp only [planB, Bool.and_eq_true, decide_eq_true_eq] at hB
    obtain ⟨⟨⟨hkn, hr⟩, hf⟩, hB'⟩ := hB
    obtain ⟨o, v, ho, hy, hS, h'⟩ := h
    have hr' : k ∈ Region.ready md ops listed := by simpa using hr
    rw [show ((k, true) :: l).length + (ops.size - n) = (l.length + (ops.size - n)) + 1 by simp; omega]
    exact wpAnyT_first ho (Region.noSelect_spec hsel) hs hc hn hkn (fun c a w h => (hQ c _ w h).elim) _ listed a w inv (Region.free_spec ho hf) hr' hy hS
      (wpAnyT_plan hol hsel hs hc hn hQ l _ _ _ (inv.set hr' hkn) hB' h')
  | (k, false) :: l, listed, a, w, inv, hB, h => by
    simp only [planB, Bool.and_eq_true, decide_eq_true_eq] at hB
    obtain ⟨⟨hkn, hr⟩, hB'⟩ := hB
    rw [show ((k, false) :: l).length + (ops.size - n) = (l.length + (ops.size - n)) + 1 by simp; omega]
    refine ⟨fun h0 => (by rw [h0] at hr; cases hr), fun i hi => ?_⟩
    have hi' := hi
    rw [hr] at hi'
    obtain rfl : i = k := by simpa using hi'
    exact wpOp_mono (fun a' w' h3 => ⟨fun _ => h3.1, wpAnyT_plan hol hsel hs hc hn hQ l _ a' w' (inv.set hi hkn) hB' h3.2⟩) h

/-- What is asked of the region and the plan. -/
def tailB (md : Region.Mode) (ops : Array Oper) (n : Nat) (plan : List (Nat × Bool)) : Bool :=
  Region.noSelect ops && decide (n < ops.size) && Region.sinkB md ops n && Region.chainB md ops n && decide (plan.length = n) && planB md ops n plan (Array.replicate ops.size false)

/-- **The law**: a region that draws its order, by a plan for its head; then its tail, one behind the other. -/
theorem wp_region_plan {id : Nat} {a : Act} {w : World} {l : List Oper} (S : World → Prop) (n : Nat) (plan : List (Nat × Bool)) (hm : P.follows .mixedOrders = true) (hB : tailB .any l.toArray n plan = true)
    (h : wpHead P l.toArray (NoPanic Q) S (fun a' w' => wpList P l.toArray (NoPanic Q) (l.drop n) a' w') plan a w.drew) : (Code.region id l.toArray true).wp P Q a w := by
  simp only [tailB, Bool.and_eq_true, decide_eq_true_eq] at hB
  obtain ⟨⟨⟨⟨⟨hsel, hn⟩, hs⟩, hc⟩, hlen⟩, hp⟩ := hB
  refine wp_region_noPanic ?_
  refine wp_region_any hm ?_
  have inv0 : HeadInv .any l.toArray n (Array.replicate l.toArray.size false) :=
    ⟨by simp, fun j oj _ hl => (by rw [getD_replicate_false] at hl; cases hl), fun t _ ht => getD_in (by simpa using ht) (getD_replicate_false _ _)⟩
  have := wpAnyT_plan (md := .any) (Q := NoPanic Q) (S := S) rfl hsel hs hc hn (fun _ _ _ h => h) plan _ a _ inv0 hp h
  rw [hlen, show n + (l.toArray.size - n) = l.toArray.size by omega] at this
  exact wpAny_of_T _ _ _ _ this

/-- A step that yields. -/
theorem headY {K : Act → World → Prop} {k : Nat} {o : Oper} {v : Value} {l : List (Nat × Bool)} {a : Act} {w : World} (d : Option Tmp) (ho : ops[k]? = some o) (hd : o.dst = d)
    (hy : YieldsIf P ops S o v a) (hS : S w) (h : wpHead P ops Q S K l (a.put d v) w) : wpHead P ops Q S K ((k, true) :: l) a w := by
  subst hd; exact ⟨o, v, ho, hy, hS, h⟩
/-- A step that does whatever it does. -/
theorem headC {K : Act → World → Prop} {k : Nat} {o : Oper} {l : List (Nat × Bool)} {a : Act} {w : World} (ho : ops[k]? = some o)
    (h : ∀ K' : Act → World → Prop, (∀ a w, S w → wpHead P ops Q S K l a w → K' a w) → if Region.wanted o (yielded ops a.tmps) = true then Oper.wp P o a w K' Q else K' (a.put o.dst undef) w) :
    wpHead P ops Q S K ((k, false) :: l) a w := by
  show wpOp _ _ _ _ _ _ _
  unfold wpOp
  simp only [ho]
  have := h (fun a' w' => S w' ∧ wpHead P ops Q S K l a' w') (fun a w h1 h2 => ⟨h1, h2⟩)
  split
  · rename_i hw; rw [if_pos hw] at this; exact .inl this
  · rename_i hw; rw [if_neg hw] at this; exact this
theorem head0 {K : Act → World → Prop} {a : Act} {w : World} (h : K a w) : wpHead P ops Q S K [] a w := h
end
end Go.Proofs.YtmddapkhipmlgaaDoor

namespace Go.Proofs.YtmddapkhipmlgaaDoor
open Go.RowKit
set_option maxRecDepth 100000

/-- The first place of x. -/
def invP (p : List Int) (x : Int) : Int := idxOf (fun y => x == y) p

theorem index_any (v : Value) (xs : List Int) (x : Int) (w : World) (h : IntsAt w v xs) :
    Calls Tryd.prog 95 #[v, .int .i64 x] w fun e w' => e = .returned (.int .i64 (invP xs x)) ∧ w = w' := by
  have hlen := h.len
  have hm := h.len_le
  replace h := Lib.hid h
  go_enter Tryd.func95, Tryd.ntmps95
  go_wp2
  go_loop [8] (fun i => ∃ j : Nat, j ≤ xs.length ∧ i = .int .i64 j ∧ ∀ t (ht : t < xs.length), t < j → (x == xs[t]) = false) (fun i => xs.length - (intOf i).toNat)
  case atStart => exact ⟨0, by omega, rfl, fun t ht h => by omega⟩
  case round =>
    obtain ⟨j, hj, rfl, hne⟩ := hrel
    by_cases hjl : j < xs.length
    · have i1 := h.out.idx j hjl
      have c1 := h.out.cell j hjl
      by_cases he : (x == xs[j]) = true
      · have hr : Hid (invP xs x = j) := Lib.hid (idxOf_at j hjl he (fun t ht htj => hne t ht htj))
        have he' : x = xs[j] := by simpa using he
        rw [← he'] at c1
        clear he he'
        replace hne := Lib.hid hne
        go_wp2
        go_ret
        exact ⟨ret_int hr.out.symm, rfl⟩
      · have hn : Hid (∀ t (ht : t < xs.length), t < j + 1 → (x == xs[t]) = false) := Lib.hid (fun t ht htj => by
          by_cases e : t = j
          · subst e; simpa using he
          · exact hne t ht (by omega))
        have he' : (x == xs[j]) = false := by simpa using he
        obtain ⟨y, hy⟩ : ∃ y, y = xs[j] := ⟨_, rfl⟩
        rw [← hy] at c1 he'
        clear he hne hy
        go_wp2
        go_round
        case rel => exact ⟨j + 1, by omega, by go_num, hn.out⟩
        case measure => simp [intOf]; omega
    · have hr : Hid (invP xs x = -1) := Lib.hid (idxOf_neg (fun y hy => by
        obtain ⟨t, ht, rfl⟩ := List.mem_iff_getElem.1 hy
        exact hne t ht (by omega)))
      replace hne := Lib.hid hne
      go_wp2
      go_ret
      exact ⟨ret_int hr.out.symm, rfl⟩

/-- The names' list is one: each symbol once. -/
def permOk (K : Nat) (p : List Int) : Bool := decide (p.length = K) && decide (srt p = (List.range K).map (fun i : Nat => (i : Int)))
theorem srt_perm (p : List Int) : (srt p).Perm p := List.mergeSort_perm ..
theorem permOk_mem {K : Nat} {p : List Int} (h : permOk K p = true) (x : Int) : x ∈ p ↔ 0 ≤ x ∧ x < K := by
  simp only [permOk, Bool.and_eq_true, decide_eq_true_eq] at h
  rw [← (srt_perm p).mem_iff, h.2, List.mem_map]
  constructor
  · rintro ⟨i, hi, rfl⟩; have := List.mem_range.1 hi; omega
  · intro hx; exact ⟨x.toNat, List.mem_range.2 (by omega), by omega⟩
theorem permOk_syms {K : Nat} {p : List Int} (h : permOk K p = true) : Syms K p := fun x hx => (permOk_mem h x).1 hx
theorem permOk_len {K : Nat} {p : List Int} (h : permOk K p = true) : p.length = K := by
  simp only [permOk, Bool.and_eq_true, decide_eq_true_eq] at h; exact h.1
theorem invP_spec {K : Nat} {p : List Int} (h : permOk K p = true) {x : Int} (h0 : 0 ≤ x) (h1 : x < K) : ∃ i : Nat, invP p x = i ∧ i < K ∧ p.getD i 0 = x := by
  have hm := (permOk_mem h x).2 ⟨h0, h1⟩
  obtain ⟨j, hj, hje⟩ := List.mem_iff_getElem.1 hm
  rcases idxOf_cases (fun y => x == y) p with ⟨_, hn⟩ | ⟨k, hk, hkl, hp, _⟩
  · have := hn _ (List.getElem_mem hj); rw [hje] at this; simp at this
  · refine ⟨k, hk, by rw [← permOk_len h]; exact hkl, ?_⟩
    simp only [List.getD, List.getElem?_eq_getElem hkl, Option.getD_some]
    exact (show x = p[k] by simpa using hp).symm

/-- The symbol of a window by the other names. -/
def renF (K : Nat) (T p ys : List Int) : Int := p.getD (T.getD (numW K (ys.map (invP p))) 0).toNat 0
def renT (K n : Nat) (T p : List Int) : List Int := madeP K n (renF K T p) (pw K n)
theorem invP_syms {K : Nat} {p ys : List Int} (h : permOk K p = true) (hy : Syms K ys) : Syms K (ys.map (invP p)) := by
  intro z hz
  obtain ⟨y, hyy, rfl⟩ := List.mem_map.1 hz
  obtain ⟨i, e, hi, _⟩ := invP_spec h (hy y hyy).1 (hy y hyy).2
  rw [e]; omega

theorem fill_front' (A B : List Int) (j : Nat) (hj : j < A.length) (hl : B.length = A.length) : (A.take j ++ B.drop j).set j A[j] = A.take (j + 1) ++ B.drop (j + 1) := by
  have e : (A.take j).length = j := by simp; omega
  rw [List.set_append_right _ _ (by omega), e, Nat.sub_self, List.drop_eq_getElem_cons (show j < B.length by omega), List.set_cons_zero, take_snoc A j hj, List.append_assoc, List.singleton_append]
theorem map_fill (f : Int → Int) (A B : List Int) (j : Nat) (hj : j < A.length) (hl : B.length = A.length) : ((A.map f).take j ++ B.drop j).set j (f A[j]) = (A.map f).take (j + 1) ++ B.drop (j + 1) := by
  have := fill_front' (A.map f) B j (by simpa using hj) (by simpa using hl)
  simpa using this

set_option maxHeartbeats 1000000 in
theorem frename1_any (K R : Nat) (va : Option Addr) (vn vc : Nat) (T : List Int) (pa : Option Addr) (pn pc : Nat) (p : List Int) (b q : Nat) (v : Value) (ys : List Int) (w : World)
    (h : IntsAt w (.slice va vn vc) T) (hr : RuleOk K R T) (hp : IntsAt w (.slice pa pn pc) p) (hpo : permOk K p = true) (hv : IntsAt w v ys) (hy : Syms K ys) (hyl : ys.length = 2 * R + 1)
    (c0 : w.cell? ⟨b, 0, none⟩ = some (.slice pa pn pc)) (x0 : w.cell? ⟨q, 0, none⟩ = some (.int .i64 K)) (x1 : w.cell? ⟨q, 1, none⟩ = some (.int .i64 R)) (x2 : w.cell? ⟨q, 2, none⟩ = some (.slice va vn vc)) :
    Calls Tryd.prog 94 #[v, .pointer (some ⟨b, 0, none⟩), .pointer (some ⟨q, 0, none⟩)] w (Ret1 (fun x _ => x = .int .i64 (renF K T p ys)) w) := by
  have hk1 := hr.k1
  have hR := hr.r3
  have hyl7 : ys.length ≤ 7 := by omega
  have hlen := hv.len
  have hsy := invP_syms hpo hy
  have hyv : T.getD (numW K (ys.map (invP p))) 0 < K ∧ 0 ≤ T.getD (numW K (ys.map (invP p))) 0 := by
    have := hr.syms.getD (by omega) (numW K (ys.map (invP p))); omega
  have hpl := permOk_len hpo
  replace h := Lib.hid h
  replace hp := Lib.hid hp
  replace hpo := Lib.hid hpo
  replace hv := Lib.hid hv
  replace hy := Lib.hid hy
  replace hyl := Lib.hid hyl
  replace hr := Lib.hid hr
  replace hsy := Lib.hid hsy
  replace hpl := Lib.hid hpl
  replace x0 := Lib.hid x0
  replace x1 := Lib.hid x1
  replace x2 := Lib.hid x2
  go_enter Tryd.func94, Tryd.ntmps94
  go_wp2_with (at_make; refine wpl_make rfl _ _ rfl _ rfl rfl (by omega) (by omega) ?_)
  intro ov w1 ho b1
  replace ho := Lib.hid ho
  go_wp2
  go_loopw [13] (fun i wr => ∃ j : Nat, j ≤ ys.length ∧ i = .int .i64 j ∧ OwnI w.heap.size wr ov ((ys.map (invP p)).take j ++ (List.replicate ys.length (0 : Int)).drop j) ∧ Below w.heap.size w wr) (fun i _ => ys.length - (intOf i).toNat)
  case atStart => exact ⟨0, by omega, rfl, by simpa using ho.out, b1⟩
  case round =>
    obtain ⟨j, hj, rfl, hO, hB⟩ := hrel
    obtain ⟨wi, rfl⟩ : ∃ wi : World, wi = wr := ⟨_, rfl⟩
    have cb := cell_keep hB c0
    by_cases hjl : j < ys.length
    · have hXl : ((ys.map (invP p)).take j ++ (List.replicate ys.length (0 : Int)).drop j).length = ys.length := by simp; omega
      have i1 := (hv.out.below hB).idx j hjl
      have c1 := (hv.out.below hB).cell j hjl
      have i2 := hO.at.idx j (by rw [hXl]; exact hjl)
      have c2 := hO.at.cellD j (by rw [hXl]; exact hjl)
      have f2 := hO.frz j (by rw [hXl]; exact hjl)
      have hS := hO.set j (by rw [hXl]; exact hjl) (invP p ys[j])
      have hbS := hO.setBelow hB j (by rw [hXl]; exact hjl) (.int .i64 (invP p ys[j]))
      rw [map_fill (invP p) ys _ j hjl (by simp)] at hS
      have hIx := index_any (.slice pa pn pc) p ys[j] wi (hp.out.below hB)
      obtain ⟨y, hy'⟩ : ∃ y, y = ys[j] := ⟨_, rfl⟩
      rw [← hy'] at c1 hS hbS hIx
      obtain ⟨z, hz⟩ : ∃ z, z = invP p y := ⟨_, rfl⟩
      rw [← hz] at hS hbS hIx
      obtain ⟨z', hz'⟩ : ∃ z', z' = ((ys.map (invP p)).take j ++ (List.replicate ys.length (0 : Int)).drop j).getD j 0 := ⟨_, rfl⟩
      rw [← hz'] at c2
      replace hS := Lib.hid hS
      replace hbS := Lib.hid hbS
      clear hXl hO hy' hz hz'
      replace hIx := Lib.hid hIx
      go_wp2_with (go_at_call 95; refine hIx.out.mono ?_; rintro e w' ⟨rfl, rfl⟩)
      go_roundw
      case rel => exact ⟨j + 1, by omega, by go_num, hS.out, hbS.out⟩
      case measure => simp [intOf]; omega
    · obtain rfl : ys.length = j := by omega
      rw [List.take_of_length_le (by simp), List.drop_of_length_le (by simp), List.append_nil] at hO
      go_wp2
      have hTi := h.out.below hB
      have hPi := hp.out.below hB
      obtain ⟨yi, hyi⟩ : ∃ yi : Nat, T.getD (numW K (ys.map (invP p))) 0 = yi := ⟨(T.getD (numW K (ys.map (invP p))) 0).toNat, by omega⟩
      have i3 := hPi.idx yi (by rw [hpl.out]; omega)
      have c3 := hPi.cellD yi (by rw [hpl.out]; omega)
      have hres : Hid (renF K T p ys = p.getD yi 0) := Lib.hid (by rw [renF, hyi]; rfl)
      have hyi' := Lib.hid hyi
      obtain ⟨W, hW⟩ : ∃ W : World, W = wi.drew := ⟨_, rfl⟩
      have hol : Hid ((ys.map (invP p)).length = 2 * R + 1) := Lib.hid (by rw [List.length_map]; exact hyl.out)
      have hS : W.cell? ⟨b, 0, none⟩ = some (.slice pa pn pc) ∧ W.cell? ⟨q, 0, none⟩ = some (.int .i64 K) ∧ W.cell? ⟨q, 1, none⟩ = some (.int .i64 R) ∧ W.cell? ⟨q, 2, none⟩ = some (.slice va vn vc) ∧ W.cell? (valAt (.slice pa pn pc) yi) = some (.int .i64 (p.getD yi 0)) := by
        have k0 := cell_keep hB x0.out
        have k1 := cell_keep hB x1.out
        have k2 := cell_keep hB x2.out
        rw [hW]; exact ⟨cb, k0, k1, k2, c3⟩
      have hTW := Lib.hid (show IntsAt W _ _ by rw [hW]; exact hTi.drew)
      have hOW := Lib.hid (show OwnI w.heap.size W _ _ by rw [hW]; exact hO.drew)
      have hBW := Lib.hid (show Below w.heap.size w W by rw [hW]; exact hB.drew)
      obtain ⟨ya, hya⟩ : ∃ ya, ya = valAt (.slice pa pn pc) yi := ⟨_, rfl⟩
      obtain ⟨yv, hyv'⟩ : ∃ yv, yv = p.getD yi 0 := ⟨_, rfl⟩
      rw [← hya, ← hyv'] at hS
      rw [← hya] at i3
      rw [← hyv'] at hres
      refine wp_region_plan (fun w' => w'.cell? ⟨b, 0, none⟩ = some (.slice pa pn pc) ∧ w'.cell? ⟨q, 0, none⟩ = some (.int .i64 K) ∧ w'.cell? ⟨q, 1, none⟩ = some (.int .i64 R) ∧ w'.cell? ⟨q, 2, none⟩ = some (.slice va vn vc) ∧ w'.cell? ya = some (.int .i64 yv)) 6 [(0, true), (1, true), (2, true), (3, false), (4, true), (5, true)] (by kernel_rfl) (by kernel_rfl) ?_
      rw [← hW]
      replace hW := Lib.hid hW
      clear c3 hya hyv' cb hyi
      refine headY (v := ?_) (some 25) rfl rfl (Or.inl ⟨by rfl, ?_⟩) hS ?_
      rotate_left
      · rintro W' ⟨s0, s1, s2, s3, s4⟩; go_simp; try with_reducible rfl
      simp only [Act.put, List.setIfInBounds_toArray, List.set_cons_zero, List.set_cons_succ]
      refine headY (v := ?_) (some 26) rfl rfl (Or.inl ⟨by rfl, ?_⟩) hS ?_
      rotate_left
      · rintro W' ⟨s0, s1, s2, s3, s4⟩; go_simp; try with_reducible rfl
      simp only [Act.put, List.setIfInBounds_toArray, List.set_cons_zero, List.set_cons_succ]
      refine headY (v := ?_) (some 27) rfl rfl (Or.inl ⟨by rfl, ?_⟩) hS ?_
      rotate_left
      · rintro W' ⟨s0, s1, s2, s3, s4⟩; go_simp; try with_reducible rfl
      simp only [Act.put, List.setIfInBounds_toArray, List.set_cons_zero, List.set_cons_succ]
      refine headC rfl (fun KK hK => ?_)
      go_simp
      refine (symbol_any K R va vn vc T ov _ _ hTW.out hr.out hOW.out.at hsy.out hol.out).mono ?_
      rintro e w7 ⟨x, rfl, b7, rfl⟩
      rw [hyi'.out]
      have hS7 : w7.cell? ⟨b, 0, none⟩ = some (.slice pa pn pc) ∧ w7.cell? ⟨q, 0, none⟩ = some (.int .i64 K) ∧ w7.cell? ⟨q, 1, none⟩ = some (.int .i64 R) ∧ w7.cell? ⟨q, 2, none⟩ = some (.slice va vn vc) ∧ w7.cell? ya = some (.int .i64 yv) :=
        ⟨cell_keep b7 hS.1, cell_keep b7 hS.2.1, cell_keep b7 hS.2.2.1, cell_keep b7 hS.2.2.2.1, (b7.cell (World.block_lt_of_cell? _ _ hS.2.2.2.2)).trans hS.2.2.2.2⟩
      refine hK _ _ hS7 ?_
      clear hK KK
      refine headY (v := ?_) (some 29) rfl rfl (Or.inl ⟨by rfl, ?_⟩) hS7 ?_
      rotate_left
      · rintro W' ⟨s0, s1, s2, s3, s4⟩; go_simp; try with_reducible rfl
      simp only [Act.put, List.setIfInBounds_toArray, List.set_cons_zero, List.set_cons_succ]
      refine headY (v := ?_) (some 30) rfl rfl (Or.inl ⟨by rfl, ?_⟩) hS7 ?_
      rotate_left
      · rintro W' ⟨s0, s1, s2, s3, s4⟩; go_simp; try with_reducible rfl
      simp only [Act.put, List.setIfInBounds_toArray, List.set_cons_zero, List.set_cons_succ]

      refine head0 ?_
      simp only [List.drop_succ_cons, List.drop_zero]
      have hBe := Lib.hid (Below.step hBW.out b7)
      clear hS hS7
      go_wp2
      refine NoPanic.normal ?_
      go_wp2
      go_ret
      exact ⟨_, rfl, hBe.out, by rw [hres.out]; rfl⟩
end Go.Proofs.YtmddapkhipmlgaaDoor

namespace Go.Proofs.YtmddapkhipmlgaaDoor
open Go.RowKit
set_option maxRecDepth 100000

theorem frename_bad1 (r : Nat → Addr) (k R : Int) (va : Option Addr) (vn vc : Nat) (T : List Int) (pa : Option Addr) (pn pc : Nat) (t : Int × List (ByteArray × Int)) (w : World) (hg : Glob r w) (h : IntsAt w (.slice va vn vc) T) (hc : checkP k R T = some t) :
    Calls Tryd.prog 44 #[.agg #[.int .i64 k, .int .i64 R, .slice va vn vc], .slice pa pn pc] w (Ret2 (fun x y w' => x = zR ∧ ErrIs r w' (under sForms 0 (some t)) y) w) := by
  have b0 := Below.step (Below.step (belowAlloc w (.cells #[.int .i64 k, .int .i64 R, .slice va vn vc] 24)) (belowAlloc _ (.cells #[.slice pa pn pc] 22))) (belowAlloc _ (.cells #[.int .i64 0, .int .i64 0, .slice none 0 0] 24))
  obtain ⟨w0, hw0⟩ : ∃ w0, w0 = ((w.alloc (.cells #[.int .i64 k, .int .i64 R, .slice va vn vc] 24)).alloc (.cells #[.slice pa pn pc] 22)).alloc (.cells #[.int .i64 0, .int .i64 0, .slice none 0 0] 24) := ⟨_, rfl⟩
  have q1 : Box3 w0 w.heap.size (.int .i64 k) (.int .i64 R) (.slice va vn vc) := by simp [hw0, Box3, go_sem]
  have q2 : w0.cell? ⟨w.heap.size + 1, 0, none⟩ = some (.slice pa pn pc) := by simp [hw0, go_sem]
  have q3 : Box3 w0 (w.heap.size + 1 + 1) (.int .i64 0) (.int .i64 0) (.slice none 0 0) := by simp [hw0, Box3, go_sem]
  have s0 : w0.heap.size = w.heap.size + 3 := by simp [hw0]
  rw [← hw0] at b0
  replace hg := Lib.hid (hg.below b0)
  replace h := Lib.hid (h.below b0)
  replace hc := Lib.hid hc
  go_enter Tryd.func44, Tryd.ntmps44
  go_wp2_with fail
  rw [← hw0]
  clear hw0
  refine (forms_check r _ k R va vn vc T _ hg.out h.out).mono ?_
  rintro e w1 ⟨x, rfl, hb, he⟩
  rw [hc.out] at he
  obtain ⟨T1, a1, rfl⟩ := ErrIs.some_shape he
  replace he := Lib.hid he
  obtain ⟨⟨y0, y1, y2⟩, f0, f1, f2⟩ := q3.below hb
  go_wp2
  rw [setCell_self3 y0 y1 y2]
  exact bodyPost_ret (v := .tuple #[zR, .iface T1 (.pointer (some a1))]) (by simp [results, Tryd.results44, go_sem, y0, y1, y2]) rfl ⟨_, _, rfl, Below.step b0 hb, rfl, he.out⟩

set_option maxHeartbeats 800000 in
theorem frename_bad2 (r : Nat → Addr) (K R : Nat) (va : Option Addr) (vn vc : Nat) (T : List Int) (pa : Option Addr) (pn pc : Nat) (p : List Int) (w : World) (hg : Glob r w) (h : IntsAt w (.slice va vn vc) T) (hr : RuleOk K R T) (hp : IntsAt w (.slice pa pn pc) p) (hpl : p.length ≤ 17592186044416) (hne : p.length ≠ K) :
    Calls Tryd.prog 44 #[.agg #[.int .i64 K, .int .i64 R, .slice va vn vc], .slice pa pn pc] w (Ret2 (fun x y w' => x = zR ∧ ErrIs r w' (fresh sForms 0 3) y) w) := by
  have b0 := Below.step (Below.step (belowAlloc w (.cells #[.int .i64 K, .int .i64 R, .slice va vn vc] 24)) (belowAlloc _ (.cells #[.slice pa pn pc] 22))) (belowAlloc _ (.cells #[.int .i64 0, .int .i64 0, .slice none 0 0] 24))
  obtain ⟨w0, hw0⟩ : ∃ w0, w0 = ((w.alloc (.cells #[.int .i64 K, .int .i64 R, .slice va vn vc] 24)).alloc (.cells #[.slice pa pn pc] 22)).alloc (.cells #[.int .i64 0, .int .i64 0, .slice none 0 0] 24) := ⟨_, rfl⟩
  have q1 : Box3 w0 w.heap.size (.int .i64 K) (.int .i64 R) (.slice va vn vc) := by simp [hw0, Box3, go_sem]
  have q2 : w0.cell? ⟨w.heap.size + 1, 0, none⟩ = some (.slice pa pn pc) := by simp [hw0, go_sem]
  have q3 : Box3 w0 (w.heap.size + 1 + 1) (.int .i64 0) (.int .i64 0) (.slice none 0 0) := by simp [hw0, Box3, go_sem]
  have s0 : w0.heap.size = w.heap.size + 3 := by simp [hw0]
  rw [← hw0] at b0
  replace hg := Lib.hid (hg.below b0)
  replace h := Lib.hid (h.below b0)
  have hk1 := hr.k1
  have hk4 := hr.k4
  have hR3 := hr.r3
  have hck := Lib.hid hr.check
  replace hp := Lib.hid (hp.below b0)
  have hplen := hp.out.len
  replace hr := Lib.hid hr
  have hnb : ((p.length : Int) != (K : Int)) = true := by rw [bne_iff_ne]; omega
  clear hne
  go_enter Tryd.func44, Tryd.ntmps44
  go_wp2_with fail
  rw [← hw0]
  clear hw0
  refine (forms_check r _ K R va vn vc T _ hg.out h.out).mono ?_
  rintro e w1 ⟨x, rfl, hb, he⟩
  rw [hck.out] at he
  obtain rfl := ErrIs.none_eq he
  have q21 := cell_keep hb q2
  go_wp2_with fail
  refine (vals_any pa pn pc _).mono ?_
  rintro e w2 ⟨rfl, rfl⟩
  have b2 := Below.step hb (belowAlloc w1 (.cells #[.slice pa pn pc] 22))
  go_wp2_with fail
  refine (sorted_any w1.heap.size (.slice pa pn pc) p hpl _ (by simp) (by simp) (hp.out.below b2)).mono ?_
  rintro e w3 ⟨sv, rfl, b3, hsv⟩
  have b03 := Below.step b2 b3
  have s3 := b03.size
  have q13 := q1.below b03
  have q23 := cell_keep b03 q2
  have q33 := q3.below b03
  obtain ⟨⟨z0, z1, z2⟩, -, -, -⟩ := q13
  have cp := q23
  replace hsv := Lib.hid hsv
  clear q23 q2 q21
  go_wp2_with fail
  refine (forms_wrong r _ _ _ (hg.out.below b03) (by decide) (by decide)).mono ?_
  rintro e w4 ⟨x, rfl, b4, he⟩
  obtain ⟨T1, a1, rfl⟩ := ErrIs.some_shape he
  replace he := Lib.hid he
  obtain ⟨⟨y0, y1, y2⟩, f0, f1, f2⟩ := q33.below b4
  clear z0 z1 z2 cp
  go_wp2
  rw [setCell_self3 y0 y1 y2]
  exact bodyPost_ret (v := .tuple #[zR, .iface T1 (.pointer (some a1))]) (by simp [results, Tryd.results44, go_sem, y0, y1, y2]) rfl ⟨_, _, rfl, Below.step b0 (Below.step b03 b4), rfl, he.out⟩

theorem eg_frename1 (args : Array Value) (w : World) : (callFunc 94 args).run Tryd.prog w = .ok (.enter 94 args) w := by kernel_rfl

theorem srt_eq_of {K : Nat} {p : List Int} (hl : p.length = K) (h : ∀ t, t < K → (srt p).getD t 0 = t) : permOk K p = true := by
  simp only [permOk, hl, decide_true, Bool.true_and, decide_eq_true_eq]
  refine List.ext_getElem (by rw [srt_length]; simp [hl]) fun i h1 h2 => ?_
  have h3 : i < K := by simpa using h2
  have := h i h3
  simp only [List.getD, List.getElem?_eq_getElem h1, Option.getD_some] at this
  rw [this]; simp
theorem permOk_srt {K : Nat} {p : List Int} (h : permOk K p = true) (t : Nat) (ht : t < K) : (srt p).getD t 0 = t := by
  simp only [permOk, Bool.and_eq_true, decide_eq_true_eq] at h
  rw [h.2]; simp [List.getD, ht]

set_option maxHeartbeats 1000000 in
theorem frename_bad3 (r : Nat → Addr) (K R : Nat) (va : Option Addr) (vn vc : Nat) (T : List Int) (pa : Option Addr) (pn pc : Nat) (p : List Int) (w : World) (hg : Glob r w) (h : IntsAt w (.slice va vn vc) T) (hr : RuleOk K R T) (hp : IntsAt w (.slice pa pn pc) p) (hpl : p.length ≤ 17592186044416) (hpk : p.length = K) (hno : permOk K p = false) :
    Calls Tryd.prog 44 #[.agg #[.int .i64 K, .int .i64 R, .slice va vn vc], .slice pa pn pc] w (Ret2 (fun x y w' => x = zR ∧ ErrIs r w' (fresh sForms 0 3) y) w) := by
  have b0 := Below.step (Below.step (belowAlloc w (.cells #[.int .i64 K, .int .i64 R, .slice va vn vc] 24)) (belowAlloc _ (.cells #[.slice pa pn pc] 22))) (belowAlloc _ (.cells #[.int .i64 0, .int .i64 0, .slice none 0 0] 24))
  obtain ⟨w0, hw0⟩ : ∃ w0, w0 = ((w.alloc (.cells #[.int .i64 K, .int .i64 R, .slice va vn vc] 24)).alloc (.cells #[.slice pa pn pc] 22)).alloc (.cells #[.int .i64 0, .int .i64 0, .slice none 0 0] 24) := ⟨_, rfl⟩
  have q1 : Box3 w0 w.heap.size (.int .i64 K) (.int .i64 R) (.slice va vn vc) := by simp [hw0, Box3, go_sem]
  have q2 : w0.cell? ⟨w.heap.size + 1, 0, none⟩ = some (.slice pa pn pc) := by simp [hw0, go_sem]
  have q3 : Box3 w0 (w.heap.size + 1 + 1) (.int .i64 0) (.int .i64 0) (.slice none 0 0) := by simp [hw0, Box3, go_sem]
  have s0 : w0.heap.size = w.heap.size + 3 := by simp [hw0]
  rw [← hw0] at b0
  replace hg := Lib.hid (hg.below b0)
  replace h := Lib.hid (h.below b0)
  have hk1 := hr.k1
  have hk4 := hr.k4
  have hR3 := hr.r3
  have hck := Lib.hid hr.check
  replace hp := Lib.hid (hp.below b0)
  have hplen := hp.out.len
  replace hr := Lib.hid hr
  have hnb : ((p.length : Int) != (K : Int)) = false := by rw [bne_eq_false_iff_eq]; omega
  have hpK := Lib.hid hpk
  clear hpk
  replace hno := Lib.hid hno
  go_enter Tryd.func44, Tryd.ntmps44
  go_wp2_with fail
  rw [← hw0]
  clear hw0
  refine (forms_check r _ K R va vn vc T _ hg.out h.out).mono ?_
  rintro e w1 ⟨x, rfl, hb, he⟩
  rw [hck.out] at he
  obtain rfl := ErrIs.none_eq he
  have q21 := cell_keep hb q2
  go_wp2_with fail
  refine (vals_any pa pn pc _).mono ?_
  rintro e w2 ⟨rfl, rfl⟩
  have b2 := Below.step hb (belowAlloc w1 (.cells #[.slice pa pn pc] 22))
  go_wp2_with fail
  refine (sorted_any w1.heap.size (.slice pa pn pc) p hpl _ (by simp) (by simp) (hp.out.below b2)).mono ?_
  rintro e w3 ⟨sv, rfl, b3, hsv⟩
  have b03 := Below.step b2 b3
  have s3 := b03.size
  have q13 := q1.below b03
  have q23 := cell_keep b03 q2
  have q33 := q3.below b03
  have q13x := q13
  obtain ⟨⟨z0, z1, z2⟩, -, -, -⟩ := q13x
  have cp := q23
  have hsl := hsv.at.len
  rw [srt_length, hpK.out] at hsl
  replace hsv := Lib.hid hsv
  clear q2 q21
  go_wp2
  go_loop [28] (fun i => ∃ j : Nat, j ≤ K ∧ i = .int .i64 j ∧ ∀ t, t < j → (srt p).getD t 0 = t) (fun i => K - (intOf i).toNat)
  case atStart => exact ⟨0, by omega, rfl, fun t ht => by omega⟩
  case round =>
    obtain ⟨j, hj, rfl, hne⟩ := hrel
    by_cases hjK : j < K
    · have i1 := hsv.out.at.idx j (by rw [srt_length, hpK.out]; exact hjK)
      have c1 := hsv.out.at.cellD j (by rw [srt_length, hpK.out]; exact hjK)
      by_cases he : (srt p).getD j 0 = j
      · have hn : Hid (∀ t, t < j + 1 → (srt p).getD t 0 = t) := Lib.hid (fun t ht => by
          by_cases e : t = j
          · subst e; exact he
          · exact hne t (by omega))
        rw [he] at c1
        clear hne he
        go_wp2
        go_round
        case rel => exact ⟨j + 1, by omega, by go_num, hn.out⟩
        case measure => simp [intOf]; omega
      · have hnj : ((j : Int) != (srt p).getD j 0) = true := by rw [bne_iff_ne]; exact fun e => he e.symm
        replace hne := Lib.hid hne
        obtain ⟨y, hy⟩ : ∃ y, y = (srt p).getD j 0 := ⟨_, rfl⟩
        rw [← hy] at c1 hnj
        clear he hy
        go_wp2_with fail
        refine (forms_wrong r _ _ _ (hg.out.below b03) (by decide) (by decide)).mono ?_
        rintro e w4 ⟨x, rfl, b4, he⟩
        obtain ⟨T1, a1, rfl⟩ := ErrIs.some_shape he
        replace he := Lib.hid he
        obtain ⟨⟨y0, y1, y2⟩, f0, f1, f2⟩ := q33.below b4
        clear z0 z1 z2 cp
        go_wp2
        rw [setCell_self3 y0 y1 y2]
        exact bodyPost_ret (v := .tuple #[zR, .iface T1 (.pointer (some a1))]) (by simp [results, Tryd.results44, go_sem, y0, y1, y2]) rfl ⟨_, _, rfl, Below.step b0 (Below.step b03 b4), rfl, he.out⟩

    · exfalso
      have := srt_eq_of hpK.out (fun t ht => hne t (by omega))
      rw [hno.out] at this
      cases this

set_option maxHeartbeats 1000000 in
theorem frename_ok (r : Nat → Addr) (K R : Nat) (va : Option Addr) (vn vc : Nat) (T : List Int) (pa : Option Addr) (pn pc : Nat) (p : List Int) (w : World) (hg : Glob r w) (h : IntsAt w (.slice va vn vc) T) (hr : RuleOk K R T) (hp : IntsAt w (.slice pa pn pc) p) (hpl : p.length ≤ 17592186044416) (hpo : permOk K p = true) :
    Calls Tryd.prog 44 #[.agg #[.int .i64 K, .int .i64 R, .slice va vn vc], .slice pa pn pc] w (Ret2 (fun x y w' => y = .nilIface ∧ ∃ a n c, x = .agg #[.int .i64 K, .int .i64 R, .slice a n c] ∧ OwnI w.heap.size w' (.slice a n c) (renT K (2 * R + 1) T p)) w) := by
  have b0 := Below.step (Below.step (belowAlloc w (.cells #[.int .i64 K, .int .i64 R, .slice va vn vc] 24)) (belowAlloc _ (.cells #[.slice pa pn pc] 22))) (belowAlloc _ (.cells #[.int .i64 0, .int .i64 0, .slice none 0 0] 24))
  obtain ⟨w0, hw0⟩ : ∃ w0, w0 = ((w.alloc (.cells #[.int .i64 K, .int .i64 R, .slice va vn vc] 24)).alloc (.cells #[.slice pa pn pc] 22)).alloc (.cells #[.int .i64 0, .int .i64 0, .slice none 0 0] 24) := ⟨_, rfl⟩
  have q1 : Box3 w0 w.heap.size (.int .i64 K) (.int .i64 R) (.slice va vn vc) := by simp [hw0, Box3, go_sem]
  have q2 : w0.cell? ⟨w.heap.size + 1, 0, none⟩ = some (.slice pa pn pc) := by simp [hw0, go_sem]
  have q3 : Box3 w0 (w.heap.size + 1 + 1) (.int .i64 0) (.int .i64 0) (.slice none 0 0) := by simp [hw0, Box3, go_sem]
  have s0 : w0.heap.size = w.heap.size + 3 := by simp [hw0]
  rw [← hw0] at b0
  replace hg := Lib.hid (hg.below b0)
  replace h := Lib.hid (h.below b0)
  have hk1 := hr.k1
  have hk4 := hr.k4
  have hR3 := hr.r3
  have hck := Lib.hid hr.check
  replace hp := Lib.hid (hp.below b0)
  have hplen := hp.out.len
  replace hr := Lib.hid hr
  have hpK := Lib.hid (permOk_len hpo)
  have hnb : ((p.length : Int) != (K : Int)) = false := by rw [bne_eq_false_iff_eq]; have := hpK.out; omega
  replace hpo := Lib.hid hpo
  go_enter Tryd.func44, Tryd.ntmps44
  go_wp2_with fail
  rw [← hw0]
  clear hw0
  refine (forms_check r _ K R va vn vc T _ hg.out h.out).mono ?_
  rintro e w1 ⟨x, rfl, hb, he⟩
  rw [hck.out] at he
  obtain rfl := ErrIs.none_eq he
  have q21 := cell_keep hb q2
  go_wp2_with fail
  refine (vals_any pa pn pc _).mono ?_
  rintro e w2 ⟨rfl, rfl⟩
  have b2 := Below.step hb (belowAlloc w1 (.cells #[.slice pa pn pc] 22))
  go_wp2_with fail
  refine (sorted_any w1.heap.size (.slice pa pn pc) p hpl _ (by simp) (by simp) (hp.out.below b2)).mono ?_
  rintro e w3 ⟨sv, rfl, b3, hsv⟩
  have b03 := Below.step b2 b3
  have s3 := b03.size
  have q13 := q1.below b03
  have q23 := cell_keep b03 q2
  have q33 := q3.below b03
  have q13x := q13
  obtain ⟨⟨z0, z1, z2⟩, -, -, -⟩ := q13x
  have cp := q23
  have hsl := hsv.at.len
  rw [srt_length, hpK.out] at hsl
  replace hsv := Lib.hid hsv
  clear q2 q21
  go_wp2
  go_loop [28] (fun i => ∃ j : Nat, j ≤ K ∧ i = .int .i64 j ∧ ∀ t, t < j → (srt p).getD t 0 = t) (fun i => K - (intOf i).toNat)
  case atStart => exact ⟨0, by omega, rfl, fun t ht => by omega⟩
  case round =>
    obtain ⟨j, hj, rfl, hne⟩ := hrel
    by_cases hjK : j < K
    · have i1 := hsv.out.at.idx j (by rw [srt_length, hpK.out]; exact hjK)
      have c1 := hsv.out.at.cellD j (by rw [srt_length, hpK.out]; exact hjK)
      have he := permOk_srt hpo.out j hjK
      have hn : Hid (∀ t, t < j + 1 → (srt p).getD t 0 = t) := Lib.hid (fun t ht => by
          by_cases e : t = j
          · subst e; exact he
          · exact hne t (by omega))
      rw [he] at c1
      clear hne he
      go_wp2
      go_round
      case rel => exact ⟨j + 1, by omega, by go_num, hn.out⟩
      case measure => simp [intOf]; omega
    · replace hne := Lib.hid hne
      go_wp2_with fail
      refine (made_two K R _ _ _ (renF K T p) _ hk1 hk4 hR3 _ rfl eg_frename1 (fun v ys w' hB hv hy hyl => by
        have e3 := q13.below hB
        exact frename1_any K R va vn vc T pa pn pc p _ _ v ys w' ((h.out.below b03).below hB) hr.out ((hp.out.below b03).below hB) hpo.out hv hy hyl (cell_keep hB q23) e3.1.1 e3.1.2.1 e3.1.2.2)).mono ?_
      rintro e w4 ⟨x, rfl, b4, a, n, c, rfl, ho⟩
      obtain ⟨⟨y0, y1, y2⟩, f0, f1, f2⟩ := q33.below b4
      replace ho := Lib.hid ho
      clear z0 z1 z2 cp
      go_wp2
      refine bodyPost_ret (v := .tuple #[.agg #[.int .i64 K, .int .i64 R, .slice a n c], .nilIface]) (by simp [results, Tryd.results44, go_sem, y0, y1, y2]) rfl ⟨_, _, rfl, below_set3 (Below.step b0 (Below.step b03 b4)) (by omega) _ _ _, rfl, a, n, c, rfl, ?_⟩
      exact (((ho.out.setBelowBase (a := ⟨w.heap.size + 1 + 1, 0, none⟩) (by simp; omega) _).setBelowBase (a := ⟨w.heap.size + 1 + 1, 1, none⟩) (by simp; omega) _).setBelowBase (a := ⟨w.heap.size + 1 + 1, 2, none⟩) (by simp; omega) _).mono (by omega)

/-- forms.Rename's fault. -/
def renameP (k R : Int) (T p : List Int) : PErr :=
  match checkP k R T with
  | some t => under sForms 0 (some t)
  | none => if permOk k.toNat p = true then none else fresh sForms 0 3

theorem frename_any (r : Nat → Addr) (k R : Int) (va : Option Addr) (vn vc : Nat) (T : List Int) (pa : Option Addr) (pn pc : Nat) (p : List Int) (w : World) (hg : Glob r w) (h : IntsAt w (.slice va vn vc) T) (hp : IntsAt w (.slice pa pn pc) p) (hpl : p.length ≤ 17592186044416) :
    Calls Tryd.prog 44 #[.agg #[.int .i64 k, .int .i64 R, .slice va vn vc], .slice pa pn pc] w (Ret2 (fun x y w' => ErrIs r w' (renameP k R T p) y ∧ (renameP k R T p ≠ none → x = zR) ∧
      (renameP k R T p = none → ∃ a n c, x = .agg #[.int .i64 k, .int .i64 R, .slice a n c] ∧ OwnI w.heap.size w' (.slice a n c) (renT k.toNat (2 * R.toNat + 1) T p))) w) := by
  cases hc : checkP k R T with
  | some t =>
    have e : renameP k R T p = under sForms 0 (some t) := by simp [renameP, hc]
    refine (frename_bad1 r k R va vn vc T pa pn pc t w hg h hc).mono ?_
    rintro _ w' ⟨x, y, he, hb, hx, hy⟩
    exact ⟨x, y, he, hb, by rw [e]; exact hy, fun _ => hx, (fun q => by rw [e] at q; cases q)⟩
  | none =>
    obtain ⟨K, Q, rfl, rfl, hr⟩ := checkP_none hc
    cases hpo : permOk K p with
    | true =>
      have e : renameP K Q T p = none := by simp [renameP, hc, hpo]
      refine (frename_ok r K Q va vn vc T pa pn pc p w hg h hr hp hpl hpo).mono ?_
      rintro _ w' ⟨x, y, he, hb, rfl, hx⟩
      exact ⟨x, _, he, hb, by rw [e]; rfl, fun q => absurd e q, fun _ => hx⟩
    | false =>
      have e : renameP K Q T p = fresh sForms 0 3 := by simp [renameP, hc, hpo]
      by_cases hl : p.length = K
      · refine (frename_bad3 r K Q va vn vc T pa pn pc p w hg h hr hp hpl hl hpo).mono ?_
        rintro _ w' ⟨x, y, he, hb, hx, hy⟩
        exact ⟨x, y, he, hb, by rw [e]; exact hy, fun _ => hx, (fun q => by rw [e] at q; cases q)⟩
      · refine (frename_bad2 r K Q va vn vc T pa pn pc p w hg h hr hp hpl hl).mono ?_
        rintro _ w' ⟨x, y, he, hb, hx, hy⟩
        exact ⟨x, y, he, hb, by rw [e]; exact hy, fun _ => hx, (fun q => by rw [e] at q; cases q)⟩
end Go.Proofs.YtmddapkhipmlgaaDoor

namespace Go.Proofs.YtmddapkhipmlgaaDoor

theorem syms_cons {K : Nat} {s : Int} {u : List Int} (h0 : 0 ≤ s) (h1 : s < K) (hu : Syms K u) : Syms K (s :: u) := by
  intro y hy
  rcases List.mem_cons.1 hy with rfl | hy
  · exact ⟨h0, h1⟩
  · exact hu y hy
theorem syms_snoc {K : Nat} {s : Int} {u : List Int} (h0 : 0 ≤ s) (h1 : s < K) (hu : Syms K u) : Syms K (u ++ [s]) := by
  intro y hy
  rcases List.mem_append.1 hy with hy | hy
  · exact hu y hy
  · rw [List.mem_singleton] at hy; subst hy; exact ⟨h0, h1⟩
theorem syms_rev {K : Nat} {u : List Int} (hu : Syms K u) : Syms K u.reverse := fun y hy => hu y (List.mem_reverse.1 hy)

/-- The first symbol of the window permutes. -/
def LeftW (K m : Nat) (T : List Int) : Prop := ∀ u, Syms K u → u.length = m → ∀ s t : Int, 0 ≤ s → s < K → 0 ≤ t → t < K → s ≠ t → T.getD (numW K (s :: u)) 0 ≠ T.getD (numW K (t :: u)) 0
/-- The last one does. -/
def RightW (K m : Nat) (T : List Int) : Prop := ∀ u, Syms K u → u.length = m → ∀ s t : Int, 0 ≤ s → s < K → 0 ≤ t → t < K → s ≠ t → T.getD (numW K (u ++ [s])) 0 ≠ T.getD (numW K (u ++ [t])) 0

theorem unlike_leftW {K R : Nat} {T : List Int} (h : RuleOk K R T) : unlikeP K T (T.length / K) = true ↔ LeftW K (2 * R) T := by
  have h1 := h.k1
  obtain ⟨hW, hl⟩ := h.half
  have hp := pw_pos (K := K) (2 * R) h1
  rw [hW, unlikeP_iff]
  constructor
  · intro hu u hsy hul s t hs0 hs1 ht0 ht1 hne
    have hlt := numW_lt u hsy
    rw [hul] at hlt
    have hf := hu (numW K u) (by rw [hl]; have := Nat.mul_le_mul_left (pw K (2 * R)) h1; omega) (by rw [Nat.div_eq_of_lt hlt, Nat.zero_mod])
    have hf := (fullP_iff h1 h.k4 h.syms (pw K (2 * R)) _).1 hf
    rw [numW_cons, numW_cons, hul, Nat.add_comm (s.toNat * _), Nat.add_comm (t.toNat * _)]
    rcases Nat.lt_or_ge s.toNat t.toNat with hst | hst
    · exact hf _ _ hst (by omega)
    · exact (hf t.toNat s.toNat (by omega) (by omega)).symm
  · intro hw i hi hm
    have hiW : i < pw K (2 * R) := by
      have hdl : i / pw K (2 * R) < K := by rw [Nat.div_lt_iff_lt_mul (by omega), Nat.mul_comm, ← hl]; exact hi
      rw [Nat.mod_eq_of_lt hdl] at hm
      have := Nat.div_add_mod i (pw K (2 * R))
      have := Nat.mod_lt i (show pw K (2 * R) > 0 by omega)
      rw [hm] at *
      omega
    refine (fullP_iff h1 h.k4 h.syms (pw K (2 * R)) i).2 fun s t hst ht => ?_
    have := hw (digs K (2 * R) i) (digs_syms h1 _ _) (digs_length ..) s t (by omega) (by omega) (by omega) (by omega) (by omega)
    rwa [numW_cons, numW_cons, digs_length, numW_digs h1 _ _ hiW, Int.toNat_natCast, Int.toNat_natCast, Nat.add_comm (s * _), Nat.add_comm (t * _)] at this

theorem unlike_rightW {K R : Nat} {T : List Int} (h : RuleOk K R T) : unlikeP K T 1 = true ↔ RightW K (2 * R) T := by
  have h1 := h.k1
  obtain ⟨hW, hl⟩ := h.half
  rw [unlikeP_iff]
  constructor
  · intro hu u hsy hul s t hs0 hs1 ht0 ht1 hne
    have hlt := numW_lt u hsy
    rw [hul] at hlt
    have hf := hu (numW K u * K) (by rw [hl]; exact Nat.mul_lt_mul_of_pos_right hlt (by omega)) (by rw [Nat.div_one, Nat.mul_mod_left])
    have hf := (fullP_iff h1 h.k4 h.syms 1 _).1 hf
    rw [numW_snoc, numW_snoc]
    rcases Nat.lt_or_ge s.toNat t.toNat with hst | hst
    · have := hf _ _ hst (by omega); rwa [Nat.mul_one, Nat.mul_one] at this
    · have := (hf t.toNat s.toNat (by omega) (by omega)).symm; rwa [Nat.mul_one, Nat.mul_one] at this
  · intro hw i hi hm
    rw [Nat.div_one] at hm
    obtain ⟨q, rfl⟩ : ∃ q, i = q * K := ⟨i / K, by have := Nat.div_add_mod' i K; omega⟩
    have hq : q < pw K (2 * R) := Nat.lt_of_mul_lt_mul_right (a := K) (by rw [← hl]; exact hi)
    refine (fullP_iff h1 h.k4 h.syms 1 _).2 fun s t hst ht => ?_
    have := hw (digs K (2 * R) q) (digs_syms h1 _ _) (digs_length ..) s t (by omega) (by omega) (by omega) (by omega) (by omega)
    rwa [numW_snoc, numW_snoc, numW_digs h1 _ _ hq, Int.toNat_natCast, Int.toNat_natCast, ← Nat.mul_one s, ← Nat.mul_one t] at this

/-- Mirrored: the other sides. -/
theorem mir_leftW {K R : Nat} {T : List Int} (h : RuleOk K R T) : LeftW K (2 * R) (mirT K (2 * R + 1) T) ↔ RightW K (2 * R) T := by
  have e : ∀ (u : List Int) (s : Int), Syms K u → u.length = 2 * R → 0 ≤ s → s < K → (mirT K (2 * R + 1) T).getD (numW K (s :: u)) 0 = T.getD (numW K (u.reverse ++ [s])) 0 := fun u s hu hl h0 h1 => by
    have := mirT_at h.k1 h.len (s :: u) (syms_cons h0 h1 hu) (by simp [hl])
    rwa [List.reverse_cons] at this
  constructor
  · intro hw u hu hl s t a b c d hne
    have := hw u.reverse (syms_rev hu) (by simpa using hl) s t a b c d hne
    rwa [e _ _ (syms_rev hu) (by simpa using hl) a b, e _ _ (syms_rev hu) (by simpa using hl) c d, List.reverse_reverse] at this
  · intro hw u hu hl s t a b c d hne
    rw [e _ _ hu hl a b, e _ _ hu hl c d]
    exact hw u.reverse (syms_rev hu) (by simpa using hl) s t a b c d hne
theorem mir_rightW {K R : Nat} {T : List Int} (h : RuleOk K R T) : RightW K (2 * R) (mirT K (2 * R + 1) T) ↔ LeftW K (2 * R) T := by
  have e : ∀ (u : List Int) (s : Int), Syms K u → u.length = 2 * R → 0 ≤ s → s < K → (mirT K (2 * R + 1) T).getD (numW K (u ++ [s])) 0 = T.getD (numW K (s :: u.reverse)) 0 := fun u s hu hl h0 h1 => by
    have := mirT_at h.k1 h.len (u ++ [s]) (syms_snoc h0 h1 hu) (by simp [hl])
    rwa [List.reverse_append, List.reverse_singleton, List.singleton_append] at this
  constructor
  · intro hw u hu hl s t a b c d hne
    have := hw u.reverse (syms_rev hu) (by simpa using hl) s t a b c d hne
    rwa [e _ _ (syms_rev hu) (by simpa using hl) a b, e _ _ (syms_rev hu) (by simpa using hl) c d, List.reverse_reverse] at this
  · intro hw u hu hl s t a b c d hne
    rw [e _ _ hu hl a b, e _ _ hu hl c d]
    exact hw u.reverse (syms_rev hu) (by simpa using hl) s t a b c d hne
theorem mir_sides {K R : Nat} {T : List Int} (h : RuleOk K R T) :
    unlikeP K (mirT K (2 * R + 1) T) ((mirT K (2 * R + 1) T).length / K) = unlikeP K T 1 ∧ unlikeP K (mirT K (2 * R + 1) T) 1 = unlikeP K T (T.length / K) := by
  constructor
  · rw [Bool.eq_iff_iff, unlike_leftW (mirT_ok h), unlike_rightW h, mir_leftW h]
  · rw [Bool.eq_iff_iff, unlike_rightW (mirT_ok h), unlike_leftW h, mir_rightW h]

/-- One rule behind another. -/
theorem imgP_cons {K R : Nat} {T : List Int} {x : Int} {w : List Int} (h : 2 * R ≤ w.length) : imgP K R T (x :: w) = T.getD (numW K (x :: w.take (2 * R))) 0 :: imgP K R T w := by
  unfold imgP
  rw [show (x :: w).length - 2 * R = (w.length - 2 * R) + 1 by simp; omega, List.range_succ_eq_map, List.map_cons, List.map_map]
  congr 1
theorem behindT_length (K R1 : Nat) (T1 : List Int) (R2 : Nat) (T2 : List Int) : (behindT K R1 T1 R2 T2).length = pw K (2 * (R1 + R2) + 1) := by simp [behindT]
theorem behindT_at {K R1 R2 : Nat} {T1 T2 : List Int} (hK : 1 ≤ K) (w : List Int) (hw : Syms K w) (hl : w.length = 2 * (R1 + R2) + 1) : (behindT K R1 T1 R2 T2).getD (numW K w) 0 = T1.getD (numW K (imgP K R2 T2 w)) 0 := by
  have hlt := numW_lt w hw
  rw [hl] at hlt
  have : (behindT K R1 T1 R2 T2).getD (numW K w) 0 = T1.getD (numW K (imgP K R2 T2 (digs K (2 * (R1 + R2) + 1) (numW K w)))) 0 := by simp [behindT, List.getD, hlt]
  rw [this, ← hl, digs_numW hK w hw]
theorem behindT_ok {K R1 R2 : Nat} {T1 T2 : List Int} (h1 : RuleOk K R1 T1) (hR : R1 + R2 ≤ 3) : RuleOk K (R1 + R2) (behindT K R1 T1 R2 T2) :=
  ⟨h1.k1, h1.k4, hR, behindT_length .., fun y hy => by
    obtain ⟨i, _, rfl⟩ := List.mem_map.1 hy
    exact h1.syms.getD (by have := h1.k1; omega) _⟩
theorem behind_left {K R1 R2 : Nat} {T1 T2 : List Int} (h1 : RuleOk K R1 T1) (h2 : RuleOk K R2 T2) (w1 : LeftW K (2 * R1) T1) (w2 : LeftW K (2 * R2) T2) : LeftW K (2 * (R1 + R2)) (behindT K R1 T1 R2 T2) := by
  intro u hu hl s t a b c d hne
  have hk := h1.k1
  rw [behindT_at hk _ (syms_cons a b hu) (by simp [hl]), behindT_at hk _ (syms_cons c d hu) (by simp [hl]), imgP_cons (by omega), imgP_cons (by omega)]
  have htk : Syms K (u.take (2 * R2)) := fun y hy => hu y (List.mem_of_mem_take hy)
  have hne2 := w2 (u.take (2 * R2)) htk (by simp; omega) s t a b c d hne
  have s1 := h2.syms.getD (by omega) (numW K (s :: u.take (2 * R2)))
  have s2 := h2.syms.getD (by omega) (numW K (t :: u.take (2 * R2)))
  exact w1 (imgP K R2 T2 u) (imgP_syms hk h2.syms) (by rw [imgP_length]; omega) _ _ s1.1 s1.2 s2.1 s2.2 hne2
theorem behind_right {K R1 R2 : Nat} {T1 T2 : List Int} (h1 : RuleOk K R1 T1) (h2 : RuleOk K R2 T2) (w1 : RightW K (2 * R1) T1) (w2 : RightW K (2 * R2) T2) : RightW K (2 * (R1 + R2)) (behindT K R1 T1 R2 T2) := by
  intro u hu hl s t a b c d hne
  have hk := h1.k1
  have win : ∀ x : Int, 0 ≤ x → x < K → imgP K R2 T2 (u ++ [x]) = imgP K R2 T2 u ++ [T2.getD (numW K (u.drop (u.length - 2 * R2) ++ [x])) 0] := fun x x0 x1 => by
    rw [imgP_snoc h2.len (syms_snoc x0 x1 hu), if_pos (by omega)]
    have hdl : (u.drop (u.length - 2 * R2) ++ [x]).length = 2 * R2 + 1 := by simp; omega
    have := numW_mod (K := K) (u := u.take (u.length - 2 * R2)) (v := u.drop (u.length - 2 * R2) ++ [x]) (syms_snoc x0 x1 fun y hy => hu y (List.mem_of_mem_drop hy))
    rw [← List.append_assoc, List.take_append_drop, hdl, ← h2.len] at this
    rw [this]
  rw [behindT_at hk _ (syms_snoc a b hu) (by simp [hl]), behindT_at hk _ (syms_snoc c d hu) (by simp [hl]), win s a b, win t c d]
  have hdk : Syms K (u.drop (u.length - 2 * R2)) := fun y hy => hu y (List.mem_of_mem_drop hy)
  have hne2 := w2 (u.drop (u.length - 2 * R2)) hdk (by simp; omega) s t a b c d hne
  have s1 := h2.syms.getD (by omega) (numW K (u.drop (u.length - 2 * R2) ++ [s]))
  have s2 := h2.syms.getD (by omega) (numW K (u.drop (u.length - 2 * R2) ++ [t]))
  exact w1 (imgP K R2 T2 u) (imgP_syms hk h2.syms) (by rw [imgP_length]; omega) _ _ s1.1 s1.2 s2.1 s2.2 hne2
theorem behind_sides {K R1 R2 : Nat} {T1 T2 : List Int} (h1 : RuleOk K R1 T1) (h2 : RuleOk K R2 T2) (hR : R1 + R2 ≤ 3) :
    (unlikeP K T1 (T1.length / K) = true → unlikeP K T2 (T2.length / K) = true → unlikeP K (behindT K R1 T1 R2 T2) ((behindT K R1 T1 R2 T2).length / K) = true) ∧
    (unlikeP K T1 1 = true → unlikeP K T2 1 = true → unlikeP K (behindT K R1 T1 R2 T2) 1 = true) := by
  have hb := behindT_ok (T2 := T2) h1 hR
  rw [unlike_leftW h1, unlike_leftW h2, unlike_leftW hb, unlike_rightW h1, unlike_rightW h2, unlike_rightW hb]
  exact ⟨behind_left h1 h2, behind_right h1 h2⟩
end Go.Proofs.YtmddapkhipmlgaaDoor

namespace Go.Proofs.YtmddapkhipmlgaaDoor

theorem permOk_nodup {K : Nat} {p : List Int} (h : permOk K p = true) : p.Nodup := by
  simp only [permOk, Bool.and_eq_true, decide_eq_true_eq] at h
  rw [← (srt_perm p).nodup_iff, h.2]
  exact List.pairwise_map.2 (List.nodup_range.imp fun hne e => hne (by omega))
theorem permOk_inj {K : Nat} {p : List Int} (h : permOk K p = true) {i j : Nat} (hi : i < K) (hj : j < K) (e : p.getD i 0 = p.getD j 0) : i = j := by
  have hn := List.pairwise_iff_getElem.1 (permOk_nodup h)
  have hl := permOk_len h
  simp only [List.getD, List.getElem?_eq_getElem (show i < p.length by omega), List.getElem?_eq_getElem (show j < p.length by omega), Option.getD_some] at e
  rcases Nat.lt_trichotomy i j with hij | hij | hij
  · exact absurd e (hn i j (by omega) (by omega) hij)
  · exact hij
  · exact absurd e.symm (hn j i (by omega) (by omega) hij)
theorem invP_inj {K : Nat} {p : List Int} (h : permOk K p = true) {x y : Int} (a : 0 ≤ x) (b : x < K) (c : 0 ≤ y) (d : y < K) (hne : x ≠ y) : invP p x ≠ invP p y := by
  obtain ⟨i, ei, _, gi⟩ := invP_spec h a b
  obtain ⟨j, ej, _, gj⟩ := invP_spec h c d
  intro e
  rw [ei, ej] at e
  have : i = j := by omega
  subst this
  exact hne (gi.symm.trans gj)
theorem pf_bd {K : Nat} {p : List Int} (h : permOk K p = true) {x : Int} (a : 0 ≤ x) (b : x < K) : 0 ≤ p.getD x.toNat 0 ∧ p.getD x.toNat 0 < K := by
  have := (permOk_syms h).getD (by omega) x.toNat
  exact this
theorem invP_pf {K : Nat} {p : List Int} (h : permOk K p = true) {x : Int} (a : 0 ≤ x) (b : x < K) : invP p (p.getD x.toNat 0) = x := by
  have hb := pf_bd h a b
  obtain ⟨i, ei, hi, gi⟩ := invP_spec h hb.1 hb.2
  have := permOk_inj h hi (show x.toNat < K by omega) gi
  omega

theorem renT_length (K n : Nat) (T p : List Int) : (renT K n T p).length = pw K n := madeP_length ..
theorem renT_at {K n : Nat} (hK : 1 ≤ K) (T p : List Int) (w : List Int) (hw : Syms K w) (hl : w.length = n) : (renT K n T p).getD (numW K w) 0 = renF K T p w := by
  have hlt := numW_lt w hw
  rw [hl] at hlt
  have : (renT K n T p).getD (numW K w) 0 = renF K T p (digs K n (numW K w)) := by simp [renT, madeP, List.getD, hlt]
  rw [this, ← hl, digs_numW hK w hw]
theorem renF_bd {K R : Nat} {T p : List Int} (h : RuleOk K R T) (hp : permOk K p = true) (w : List Int) : 0 ≤ renF K T p w ∧ renF K T p w < K := by
  have := h.k1
  have hT := h.syms.getD (by omega) (numW K (w.map (invP p)))
  exact pf_bd hp hT.1 hT.2
theorem renT_ok {K R : Nat} {T p : List Int} (h : RuleOk K R T) (hp : permOk K p = true) : RuleOk K R (renT K (2 * R + 1) T p) :=
  ⟨h.k1, h.k4, h.r3, renT_length .., fun y hy => by
    obtain ⟨i, _, rfl⟩ := List.mem_map.1 hy
    exact renF_bd h hp _⟩
theorem renF_ne {K R : Nat} {T p : List Int} (h : RuleOk K R T) (hp : permOk K p = true) {w v : List Int} : renF K T p w ≠ renF K T p v ↔ T.getD (numW K (w.map (invP p))) 0 ≠ T.getD (numW K (v.map (invP p))) 0 := by
  have hk := h.k1
  have h1 := h.syms.getD (by omega) (numW K (w.map (invP p)))
  have h2 := h.syms.getD (by omega) (numW K (v.map (invP p)))
  constructor
  · intro hne e; exact hne (by rw [renF, renF, e])
  · intro hne e
    have := permOk_inj hp (by omega) (by omega) (show p.getD _ 0 = p.getD _ 0 from e)
    exact hne (by omega)
/-- The word by the other names. -/
theorem map_inv_pf {K : Nat} {p : List Int} (hp : permOk K p = true) {u : List Int} (hu : Syms K u) : (u.map fun x => p.getD x.toNat 0).map (invP p) = u := by
  rw [List.map_map]
  conv => rhs; rw [← List.map_id u]
  refine List.map_congr_left fun x hx => ?_
  have := hu x hx
  exact invP_pf hp this.1 this.2
theorem map_pf_syms {K : Nat} {p : List Int} (hp : permOk K p = true) {u : List Int} (hu : Syms K u) : Syms K (u.map fun x => p.getD x.toNat 0) := fun y hy => by
  obtain ⟨x, hx, rfl⟩ := List.mem_map.1 hy
  exact pf_bd hp (hu x hx).1 (hu x hx).2

theorem ren_leftW {K R : Nat} {T p : List Int} (h : RuleOk K R T) (hp : permOk K p = true) : LeftW K (2 * R) (renT K (2 * R + 1) T p) ↔ LeftW K (2 * R) T := by
  have hk := h.k1
  constructor
  · intro hw u hu hl s t a b c d hne
    have hs := pf_bd hp a b
    have ht := pf_bd hp c d
    have := hw (u.map fun x => p.getD x.toNat 0) (map_pf_syms hp hu) (by simpa using hl) (p.getD s.toNat 0) (p.getD t.toNat 0) hs.1 hs.2 ht.1 ht.2 (fun e => hne (by have := permOk_inj hp (by omega) (by omega) e; omega))
    rw [renT_at hk _ _ _ (syms_cons hs.1 hs.2 (map_pf_syms hp hu)) (by simp [hl]), renT_at hk _ _ _ (syms_cons ht.1 ht.2 (map_pf_syms hp hu)) (by simp [hl]), renF_ne h hp, List.map_cons, List.map_cons, map_inv_pf hp hu, invP_pf hp a b, invP_pf hp c d] at this
    exact this
  · intro hw u hu hl s t a b c d hne
    rw [renT_at hk _ _ _ (syms_cons a b hu) (by simp [hl]), renT_at hk _ _ _ (syms_cons c d hu) (by simp [hl]), renF_ne h hp, List.map_cons, List.map_cons]
    have is := invP_syms hp (syms_cons a b (show Syms K [] from fun x hx => by cases hx)) (invP p s) (by simp)
    have it := invP_syms hp (syms_cons c d (show Syms K [] from fun x hx => by cases hx)) (invP p t) (by simp)
    exact hw _ (invP_syms hp hu) (by simpa using hl) _ _ is.1 is.2 it.1 it.2 (invP_inj hp a b c d hne)
theorem ren_rightW {K R : Nat} {T p : List Int} (h : RuleOk K R T) (hp : permOk K p = true) : RightW K (2 * R) (renT K (2 * R + 1) T p) ↔ RightW K (2 * R) T := by
  have hk := h.k1
  constructor
  · intro hw u hu hl s t a b c d hne
    have hs := pf_bd hp a b
    have ht := pf_bd hp c d
    have := hw (u.map fun x => p.getD x.toNat 0) (map_pf_syms hp hu) (by simpa using hl) (p.getD s.toNat 0) (p.getD t.toNat 0) hs.1 hs.2 ht.1 ht.2 (fun e => hne (by have := permOk_inj hp (by omega) (by omega) e; omega))
    rw [renT_at hk _ _ _ (syms_snoc hs.1 hs.2 (map_pf_syms hp hu)) (by simp [hl]), renT_at hk _ _ _ (syms_snoc ht.1 ht.2 (map_pf_syms hp hu)) (by simp [hl]), renF_ne h hp, List.map_append, List.map_append, map_inv_pf hp hu, List.map_singleton, List.map_singleton, invP_pf hp a b, invP_pf hp c d] at this
    exact this
  · intro hw u hu hl s t a b c d hne
    rw [renT_at hk _ _ _ (syms_snoc a b hu) (by simp [hl]), renT_at hk _ _ _ (syms_snoc c d hu) (by simp [hl]), renF_ne h hp, List.map_append, List.map_append, List.map_singleton, List.map_singleton]
    have is := invP_syms hp (syms_cons a b (show Syms K [] from fun x hx => by cases hx)) (invP p s) (by simp)
    have it := invP_syms hp (syms_cons c d (show Syms K [] from fun x hx => by cases hx)) (invP p t) (by simp)
    exact hw _ (invP_syms hp hu) (by simpa using hl) _ _ is.1 is.2 it.1 it.2 (invP_inj hp a b c d hne)
theorem ren_sides {K R : Nat} {T p : List Int} (h : RuleOk K R T) (hp : permOk K p = true) :
    unlikeP K (renT K (2 * R + 1) T p) ((renT K (2 * R + 1) T p).length / K) = unlikeP K T (T.length / K) ∧ unlikeP K (renT K (2 * R + 1) T p) 1 = unlikeP K T 1 := by
  constructor
  · rw [Bool.eq_iff_iff, unlike_leftW (renT_ok h hp), unlike_leftW h, ren_leftW h hp]
  · rw [Bool.eq_iff_iff, unlike_rightW (renT_ok h hp), unlike_rightW h, ren_rightW h hp]
end Go.Proofs.YtmddapkhipmlgaaDoor

namespace Go.Proofs.YtmddapkhipmlgaaDoor
open Go.RowKit
set_option maxRecDepth 100000

def tab19 : List Int := [0, 1, 0, 1, 1, 0, 1, 0]

set_option maxHeartbeats 1000000 in
theorem awake19 (r : Nat → Addr) (w : World) (hg : Glob r w) : Calls Tryd.prog 20 #[] w (Ret1 (fun x _ => x = .bool true) w) := by
  replace hg := Lib.hid hg
  have hrok : RuleOk 2 1 tab19 := ⟨by decide, by decide, by decide, by decide, by intro x hx; simp [tab19] at hx; omega⟩
  have hu1 : unlikeP 2 tab19 1 = true := by decide +kernel
  have hu4 : unlikeP 2 tab19 (tab19.length / 2) = true := by decide +kernel
  have hchk : checkM 2 1 [1, 0, 1] [0, 0] = none := by decide +kernel
  have hres : [0, 0] ++ rightP 2 tab19 (numW 2 [0, 0]) [1, 0, 1] = [0, 0, 1, 0, 0] := by decide +kernel
  replace hrok := Lib.hid hrok
  replace hu1 := Lib.hid hu1
  replace hu4 := Lib.hid hu4
  replace hchk := Lib.hid hchk
  replace hres := Lib.hid hres
  go_enter Tryd.func20, Tryd.ntmps20
  go_wp2_with fail
  have hT0 := (OwnI.lit 0 w (Nat.zero_le _) tab19 (by decide) #[.int .i64 0, .int .i64 1, .int .i64 0, .int .i64 1, .int .i64 1, .int .i64 0, .int .i64 1, .int .i64 0] rfl 8 rfl).at
  have hT := hT0.below (belowAlloc _ (.cells #[.int .i64 2, .int .i64 1, .slice (some ⟨w.heap.size, 0, none⟩) 8 8] 24))
  have hb0 := Below.step (belowAlloc w (.cells #[.int .i64 0, .int .i64 1, .int .i64 0, .int .i64 1, .int .i64 1, .int .i64 0, .int .i64 1, .int .i64 0] 3)) (belowAlloc _ (.cells #[.int .i64 2, .int .i64 1, .slice (some ⟨w.heap.size, 0, none⟩) 8 8] 24))
  refine (sides_ok 2 1 _ _ _ tab19 _ hT hrok.out).mono ?_
  rintro e w1 ⟨x, y, z, rfl, hb, rfl, rfl, rfl⟩
  rw [hu1.out, hu4.out]
  obtain ⟨z0, z1, z2, -, -, -⟩ := cells3 hb
  rw [show (w.alloc (.cells #[.int .i64 0, .int .i64 1, .int .i64 0, .int .i64 1, .int .i64 1, .int .i64 0, .int .i64 1, .int .i64 0] 3)).heap.size = w.heap.size + 1 by simp] at z0 z1 z2
  go_wp2_with fail
  have l1 := (OwnI.lit 0 w1 (Nat.zero_le _) [1, 0, 1] (by decide) #[.int .i64 1, .int .i64 0, .int .i64 1] rfl 3 rfl).at
  have l2 := (OwnI.lit 0 (w1.alloc (.cells #[.int .i64 1, .int .i64 0, .int .i64 1] 3)) (Nat.zero_le _) [0, 0] (by decide) #[.int .i64 0, .int .i64 0] rfl 2 rfl).at
  have hb1 := Below.step (belowAlloc w1 (.cells #[.int .i64 1, .int .i64 0, .int .i64 1] 3)) (belowAlloc _ (.cells #[.int .i64 0, .int .i64 0] 3))
  replace l1 := l1.below (belowAlloc _ (.cells #[.int .i64 0, .int .i64 0] 3))
  rw [show (w1.alloc (.cells #[.int .i64 1, .int .i64 0, .int .i64 1] 3)).heap.size = w1.heap.size + 1 by simp] at l2
  replace hb1 := Below.step hb hb1
  refine (right_ok r 2 1 _ _ _ tab19 _ _ [1, 0, 1] [0, 0] _ (hg.out.below (Below.step hb0 hb1)) (hT.below hb1) hrok.out hu1.out l1 l2 hchk.out).mono ?_
  rintro e w2 ⟨x, y, rfl, hb2, ho, rfl⟩
  rw [hres.out] at ho
  replace ho := Lib.hid ho
  have hb3 := Below.step hb0 (Below.step hb1 hb2)
  clear hb hb1
  go_wp2_with fail
  refine (ints_any _ _ [0, 0, 1, 0, 0] [0, 0, 1, 0, 0] _ (ho.out.at.below (belowAlloc _ _)) (OwnI.lit 0 w2 (Nat.zero_le _) [0, 0, 1, 0, 0] (by decide) #[.int .i64 0, .int .i64 0, .int .i64 1, .int .i64 0, .int .i64 0] rfl 5 rfl).at).mono ?_
  rintro e w3 hq
  obtain ⟨rfl, hb5⟩ := hq.below
  clear hq
  replace hb5 := Lib.hid (Below.step hb3 (Below.step (belowAlloc _ _) hb5))
  clear hb3
  go_wp2
  go_ret
  exact ⟨_, rfl, hb5.out, rfl⟩
end Go.Proofs.YtmddapkhipmlgaaDoor

namespace Go.Proofs.YtmddapkhipmlgaaDoor
open Go.RowKit
set_option maxRecDepth 100000

theorem composeP_none {K R : Nat} {T : List Int} {k' R' : Int} {T' : List Int} (h : composeP K R T k' R' T' = none) : ∃ R2 : Nat, k' = K ∧ R' = R2 ∧ RuleOk K R2 T' ∧ R + R2 ≤ 3 := by
  unfold composeP at h
  split at h
  · cases h
  · split at h
    · cases h
    · rename_i h2
      obtain ⟨K', Q', rfl, rfl, hok⟩ := checkP_none h2
      split at h
      · cases h
      · rename_i hk
        split at h
        · cases h
        · obtain rfl : K = K' := by omega
          exact ⟨Q', rfl, rfl, hok, by omega⟩

theorem sides_any (r : Nat → Addr) (k R : Int) (va : Option Addr) (vn vc : Nat) (T : List Int) (w : World) (hg : Glob r w) (h : IntsAt w (.slice va vn vc) T) :
    Calls Tryd.prog 28 #[.agg #[.int .i64 k, .int .i64 R, .slice va vn vc]] w (Ret3 (fun x y z w' => (∃ c, x = .bool c) ∧ (∃ d, y = .bool d) ∧ ErrIs r w' (under sPermut 0 (checkP k R T)) z) w) := by
  cases hc : checkP k R T with
  | some t =>
    refine (sides_bad r k R va vn vc T t w hg h hc).mono ?_
    rintro e w' ⟨x, y, z, he, hb, rfl, rfl, hz⟩
    exact ⟨_, _, _, he, hb, ⟨_, rfl⟩, ⟨_, rfl⟩, hz⟩
  | none =>
    obtain ⟨K, Q, rfl, rfl, hr⟩ := checkP_none hc
    refine (sides_ok K Q va vn vc T w h hr).mono ?_
    rintro e w' ⟨x, y, z, he, hb, rfl, rfl, rfl⟩
    exact ⟨_, _, _, he, hb, ⟨_, rfl⟩, ⟨_, rfl⟩, rfl⟩

theorem permutForms_bad (r : Nat → Addr) (k R : Int) (va : Option Addr) (vn vc : Nat) (T : List Int) (k' R' : Int) (ua : Option Addr) (un uc : Nat) (v : Value) (t : Int × List (ByteArray × Int)) (w : World) (hg : Glob r w) (h : IntsAt w (.slice va vn vc) T) (hc : checkP k R T = some t) :
    Calls Tryd.prog 10 #[.agg #[.int .i64 k, .int .i64 R, .slice va vn vc], .agg #[.int .i64 k', .int .i64 R', .slice ua un uc], v] w (Ret1 (fun x _ => x = .bool true) w) := by
  have b0 := Below.step (belowAlloc w (.cells #[.int .i64 k, .int .i64 R, .slice va vn vc] 24)) (belowAlloc _ (.cells #[.int .i64 k', .int .i64 R', .slice ua un uc] 24))
  have q3 : Box3 ((w.alloc (.cells #[.int .i64 k, .int .i64 R, .slice va vn vc] 24)).alloc (.cells #[.int .i64 k', .int .i64 R', .slice ua un uc] 24)) w.heap.size (.int .i64 k) (.int .i64 R) (.slice va vn vc) := by simp [Box3, go_sem]
  replace hg := Lib.hid (hg.below b0)
  replace h := Lib.hid (h.below b0)
  replace hc := Lib.hid hc
  go_enter Tryd.func10, Tryd.ntmps10
  go_wp2_with fail
  refine (awake19 r _ hg.out).mono ?_
  rintro e w1 ⟨_, rfl, b1, rfl⟩
  obtain ⟨⟨z0, z1, z2⟩, -, -, -⟩ := q3.below b1
  go_wp2_with fail
  refine (sides_bad r k R va vn vc T t _ (hg.out.below b1) (h.out.below b1) hc.out).mono ?_
  rintro e w2 ⟨_, _, z, rfl, b2, rfl, rfl, he⟩
  obtain ⟨T1, a1, rfl⟩ := ErrIs.some_shape he
  replace he := Lib.hid he
  have hBe := Lib.hid (Below.step b0 (Below.step b1 b2))
  clear z0 z1 z2
  go_wp2
  go_ret
  exact ⟨_, rfl, hBe.out, rfl⟩

set_option maxHeartbeats 4000000 in
theorem permutForms_ok (r : Nat → Addr) (K R : Nat) (va : Option Addr) (vn vc : Nat) (T : List Int) (k' R' : Int) (ua : Option Addr) (un uc : Nat) (T' : List Int) (pa : Option Addr) (pn pc : Nat) (p : List Int) (w : World) (hg : Glob r w)
    (h : IntsAt w (.slice va vn vc) T) (hr : RuleOk K R T) (h' : IntsAt w (.slice ua un uc) T') (hp : IntsAt w (.slice pa pn pc) p) (hpl : p.length ≤ 17592186044416) :
    Calls Tryd.prog 10 #[.agg #[.int .i64 K, .int .i64 R, .slice va vn vc], .agg #[.int .i64 k', .int .i64 R', .slice ua un uc], .slice pa pn pc] w (Ret1 (fun x _ => x = .bool true) w) := by
  have b0 := Below.step (belowAlloc w (.cells #[.int .i64 K, .int .i64 R, .slice va vn vc] 24)) (belowAlloc _ (.cells #[.int .i64 k', .int .i64 R', .slice ua un uc] 24))
  obtain ⟨w0, hw0⟩ : ∃ w0, w0 = (w.alloc (.cells #[.int .i64 K, .int .i64 R, .slice va vn vc] 24)).alloc (.cells #[.int .i64 k', .int .i64 R', .slice ua un uc] 24) := ⟨_, rfl⟩
  have q3 : Box3 w0 w.heap.size (.int .i64 K) (.int .i64 R) (.slice va vn vc) := by simp [hw0, Box3, go_sem]
  have q4 : Box3 w0 (w.heap.size + 1) (.int .i64 k') (.int .i64 R') (.slice ua un uc) := by simp [hw0, Box3, go_sem]
  rw [← hw0] at b0
  replace hg := Lib.hid (hg.below b0)
  replace h := Lib.hid (h.below b0)
  replace h' := Lib.hid (h'.below b0)
  replace hp := Lib.hid (hp.below b0)
  replace hr := Lib.hid hr
  obtain ⟨L, hL⟩ : ∃ L, unlikeP K T (T.length / K) = L := ⟨_, rfl⟩
  obtain ⟨Rb, hRb⟩ : ∃ Rb, unlikeP K T 1 = Rb := ⟨_, rfl⟩
  have hms := mir_sides hr.out
  rw [hL, hRb] at hms
  replace hL := Lib.hid hL
  replace hRb := Lib.hid hRb
  replace hms := Lib.hid hms
  have hrm := Lib.hid (mirT_ok hr.out)
  go_enter Tryd.func10, Tryd.ntmps10
  go_wp2_with fail
  rw [← hw0]
  clear hw0
  refine (awake19 r _ hg.out).mono ?_
  rintro e w1 ⟨_, rfl, b1, rfl⟩
  obtain ⟨⟨z0, z1, z2⟩, -, -, -⟩ := q3.below b1
  go_wp2_with fail
  refine (sides_ok K R va vn vc T _ (h.out.below b1) hr.out).mono ?_
  rintro e w2 ⟨_, _, _, rfl, b2, rfl, rfl, rfl⟩
  rw [hL.out, hRb.out]
  clear z0 z1 z2
  have d2 := Below.step b1 b2
  obtain ⟨⟨z0, z1, z2⟩, -, -, -⟩ := q3.below d2
  go_wp2_with fail
  refine (fmirror_ok r K R va vn vc T _ (hg.out.below d2) (h.out.below d2) hr.out).mono ?_
  rintro e w3 ⟨_, _, rfl, b3, rfl, ma, mn, mc, rfl, hm⟩
  clear z0 z1 z2
  have qm : Box3 (w3.alloc (.cells #[.int .i64 K, .int .i64 R, .slice ma mn mc] 24)) w3.heap.size (.int .i64 K) (.int .i64 R) (.slice ma mn mc) := by simp [Box3, go_sem]
  have d3 := Below.step d2 (Below.step b3 (belowAlloc w3 (.cells #[.int .i64 K, .int .i64 R, .slice ma mn mc] 24)))
  replace hm := Lib.hid (hm.alloc (.cells #[.int .i64 K, .int .i64 R, .slice ma mn mc] 24))
  go_wp2_with fail
  refine (sides_ok K R ma mn mc _ _ hm.out.at hrm.out).mono ?_
  rintro e w4 ⟨_, _, _, rfl, b4, rfl, rfl, rfl⟩
  rw [hms.out.1, hms.out.2]
  have d4 := Below.step d3 b4
  have bL : (L != L) = false := by simp
  have bR : (Rb != Rb) = false := by simp
  obtain ⟨⟨z0, z1, z2⟩, -, -, -⟩ := q3.below d4
  go_wp2_with fail
  refine (frename_any r K R va vn vc T pa pn pc p _ (hg.out.below d4) (h.out.below d4) (hp.out.below d4) hpl).mono ?_
  rintro e w5 ⟨xq, yq, rfl, b5, heq, hq1, hq2⟩
  clear z0 z1 z2
  cases hq : renameP K R T p with
  | some t =>
    rw [hq] at heq
    obtain ⟨T5, a5, rfl⟩ := ErrIs.some_shape heq
    obtain rfl := hq1 (by rw [hq]; simp)
    clear hq1 hq2 heq
    replace hq := Lib.hid hq
    have bC := Below.step d4 (Below.step b5 (belowAlloc w5 (.cells #[.int .i64 0, .int .i64 0, .slice none 0 0] 24)))
    obtain ⟨⟨z0, z1, z2⟩, -, -, -⟩ := q3.below bC
    obtain ⟨⟨y0, y1, y2⟩, -, -, -⟩ := q4.below bC
    go_wp2_with fail
    refine (compose_any r K R va vn vc T k' R' ua un uc T' _ (hg.out.below bC) (h.out.below bC) (h'.out.below bC)).mono ?_
    rintro e w8 ⟨xc, yc, rfl, b8, hec, hx1, hx2⟩
    clear z0 z1 z2 y0 y1 y2
    cases hco : composeP K R T k' R' T' with
    | some t =>
      rw [hco] at hec
      obtain ⟨T8, a8, rfl⟩ := ErrIs.some_shape hec
      obtain rfl := hx1 (by rw [hco]; simp)
      clear hx1 hx2 hec
      have b9 := Below.step bC (Below.step b8 (belowAlloc w8 (.cells #[.int .i64 0, .int .i64 0, .slice none 0 0] 24)))
      obtain ⟨⟨y0, y1, y2⟩, -, -, -⟩ := q4.below b9
      replace hco := Lib.hid hco
      go_wp2_with fail
      refine (sides_any r k' R' ua un uc T' _ (hg.out.below b9) (h'.out.below b9)).mono ?_
      rintro e w10 ⟨_, _, j10, rfl, b10, ⟨c, rfl⟩, ⟨d, rfl⟩, hj⟩
      have hBe := Lib.hid (Below.step b0 (Below.step b9 b10))
      clear y0 y1 y2
      replace hj := Lib.hid hj
      go_wp2
      go_ret
      exact ⟨_, rfl, hBe.out, rfl⟩
    | none =>
      rw [hco] at hec
      obtain rfl := hec.none_eq
      obtain ⟨xa, xn, xl, rfl, hox⟩ := hx2 hco
      obtain ⟨R2, rfl, rfl, hr', hR2⟩ := composeP_none hco
      rw [Int.toNat_natCast, Int.toNat_natCast, Int.toNat_natCast] at hox
      clear hx1 hx2 hec
      have hsd := behind_sides hr.out hr' hR2
      have hrx := behindT_ok (T2 := T') hr.out hR2
      obtain ⟨RR, hRe⟩ : ∃ RR : Nat, RR = R + R2 := ⟨_, rfl⟩
      rw [← hRe] at hrx
      have hRR : (R : Int) + (R2 : Int) = (RR : Int) := by omega
      replace hRe := Lib.hid hRe
      have qx : Box3 (w8.alloc (.cells #[.int .i64 K, .int .i64 ((R : Int) + (R2 : Int)), .slice xa xn xl] 24)) w8.heap.size (.int .i64 K) (.int .i64 ((R : Int) + (R2 : Int))) (.slice xa xn xl) := by simp [Box3, go_sem]
      have b9 := Below.step bC (Below.step b8 (belowAlloc w8 (.cells #[.int .i64 K, .int .i64 ((R : Int) + (R2 : Int)), .slice xa xn xl] 24)))
      replace hox := Lib.hid (hox.alloc (.cells #[.int .i64 K, .int .i64 ((R : Int) + (R2 : Int)), .slice xa xn xl] 24))
      rw [hRR] at qx b9 hox
      obtain ⟨⟨y0, y1, y2⟩, -, -, -⟩ := q4.below b9
      replace hco := Lib.hid hco
      replace hsd := Lib.hid hsd
      replace hrx := Lib.hid hrx
      replace hr' := Lib.hid hr'
      rw [hRR]
      clear hRR
      go_wp2_with fail
      refine (sides_ok K R2 ua un uc T' _ (h'.out.below b9) hr'.out).mono ?_
      rintro e w10 ⟨_, _, _, rfl, b10, rfl, rfl, rfl⟩
      clear y0 y1 y2
      obtain ⟨⟨y0, y1, y2⟩, -, -, -⟩ := qx.below b10
      go_wp2_with fail
      refine (sides_ok K RR xa xn xl (behindT K R T R2 T') _ (hox.out.at.below b10) hrx.out).mono ?_
      rintro e w11 ⟨_, _, _, rfl, b11, rfl, rfl, rfl⟩
      have hBe := Lib.hid (Below.step b0 (Below.step b9 (Below.step b10 b11)))
      clear y0 y1 y2
      obtain ⟨s1, s2⟩ := hsd.out
      clear hsd hco
      rw [hL.out, hRb.out] at *
      clear hL hRb
      generalize unlikeP K T' (T'.length / K) = c at *
      generalize unlikeP K T' 1 = d at *
      generalize unlikeP K (behindT K R T R2 T') ((behindT K R T R2 T').length / K) = y at *
      generalize unlikeP K (behindT K R T R2 T') 1 = z at *
      cases L <;> cases Rb <;> cases c <;> cases d <;> simp only [true_implies, false_implies, imp_self, implies_true, Bool.false_eq_true] at s1 s2 <;> (try subst s1) <;> (try subst s2) <;> (go_wp2; go_ret; exact ⟨_, rfl, hBe.out, rfl⟩)

  | none =>
    rw [hq] at heq
    obtain rfl := heq.none_eq
    obtain ⟨qa, qn, qc, rfl, hoq⟩ := hq2 hq
    have hpo : permOk K p = true := by
      cases hpo : permOk K p with
      | true => rfl
      | false => simp [renameP, hr.out.check, hpo, fresh] at hq
    rw [Int.toNat_natCast, Int.toNat_natCast] at hoq
    clear hq1 hq2 heq
    replace hq := Lib.hid hq
    have hrs := ren_sides hr.out hpo
    rw [hL.out, hRb.out] at hrs
    replace hrs := Lib.hid hrs
    have hrr := Lib.hid (renT_ok hr.out hpo)
    replace hpo := Lib.hid hpo
    have qq : Box3 (w5.alloc (.cells #[.int .i64 K, .int .i64 R, .slice qa qn qc] 24)) w5.heap.size (.int .i64 K) (.int .i64 R) (.slice qa qn qc) := by simp [Box3, go_sem]
    have d5 := Below.step d4 (Below.step b5 (belowAlloc w5 (.cells #[.int .i64 K, .int .i64 R, .slice qa qn qc] 24)))
    replace hoq := Lib.hid (hoq.alloc (.cells #[.int .i64 K, .int .i64 R, .slice qa qn qc] 24))
    obtain ⟨⟨z0, z1, z2⟩, -, -, -⟩ := qq
    go_wp2_with fail
    refine (sides_ok K R qa qn qc _ _ hoq.out.at hrr.out).mono ?_
    rintro e w6 ⟨_, _, _, rfl, b6, rfl, rfl, rfl⟩
    rw [hrs.out.1, hrs.out.2]
    clear z0 z1 z2
    have bC := Below.step d5 b6
    obtain ⟨⟨z0, z1, z2⟩, -, -, -⟩ := q3.below bC
    obtain ⟨⟨y0, y1, y2⟩, -, -, -⟩ := q4.below bC
    go_wp2_with fail
    refine (compose_any r K R va vn vc T k' R' ua un uc T' _ (hg.out.below bC) (h.out.below bC) (h'.out.below bC)).mono ?_
    rintro e w8 ⟨xc, yc, rfl, b8, hec, hx1, hx2⟩
    clear z0 z1 z2 y0 y1 y2
    cases hco : composeP K R T k' R' T' with
    | some t =>
      rw [hco] at hec
      obtain ⟨T8, a8, rfl⟩ := ErrIs.some_shape hec
      obtain rfl := hx1 (by rw [hco]; simp)
      clear hx1 hx2 hec
      have b9 := Below.step bC (Below.step b8 (belowAlloc w8 (.cells #[.int .i64 0, .int .i64 0, .slice none 0 0] 24)))
      obtain ⟨⟨y0, y1, y2⟩, -, -, -⟩ := q4.below b9
      replace hco := Lib.hid hco
      go_wp2_with fail
      refine (sides_any r k' R' ua un uc T' _ (hg.out.below b9) (h'.out.below b9)).mono ?_
      rintro e w10 ⟨_, _, j10, rfl, b10, ⟨c, rfl⟩, ⟨d, rfl⟩, hj⟩
      have hBe := Lib.hid (Below.step b0 (Below.step b9 b10))
      clear y0 y1 y2
      replace hj := Lib.hid hj
      go_wp2
      go_ret
      exact ⟨_, rfl, hBe.out, rfl⟩
    | none =>
      rw [hco] at hec
      obtain rfl := hec.none_eq
      obtain ⟨xa, xn, xl, rfl, hox⟩ := hx2 hco
      obtain ⟨R2, rfl, rfl, hr', hR2⟩ := composeP_none hco
      rw [Int.toNat_natCast, Int.toNat_natCast, Int.toNat_natCast] at hox
      clear hx1 hx2 hec
      have hsd := behind_sides hr.out hr' hR2
      have hrx := behindT_ok (T2 := T') hr.out hR2
      obtain ⟨RR, hRe⟩ : ∃ RR : Nat, RR = R + R2 := ⟨_, rfl⟩
      rw [← hRe] at hrx
      have hRR : (R : Int) + (R2 : Int) = (RR : Int) := by omega
      replace hRe := Lib.hid hRe
      have qx : Box3 (w8.alloc (.cells #[.int .i64 K, .int .i64 ((R : Int) + (R2 : Int)), .slice xa xn xl] 24)) w8.heap.size (.int .i64 K) (.int .i64 ((R : Int) + (R2 : Int))) (.slice xa xn xl) := by simp [Box3, go_sem]
      have b9 := Below.step bC (Below.step b8 (belowAlloc w8 (.cells #[.int .i64 K, .int .i64 ((R : Int) + (R2 : Int)), .slice xa xn xl] 24)))
      replace hox := Lib.hid (hox.alloc (.cells #[.int .i64 K, .int .i64 ((R : Int) + (R2 : Int)), .slice xa xn xl] 24))
      rw [hRR] at qx b9 hox
      obtain ⟨⟨y0, y1, y2⟩, -, -, -⟩ := q4.below b9
      replace hco := Lib.hid hco
      replace hsd := Lib.hid hsd
      replace hrx := Lib.hid hrx
      replace hr' := Lib.hid hr'
      rw [hRR]
      clear hRR
      go_wp2_with fail
      refine (sides_ok K R2 ua un uc T' _ (h'.out.below b9) hr'.out).mono ?_
      rintro e w10 ⟨_, _, _, rfl, b10, rfl, rfl, rfl⟩
      clear y0 y1 y2
      obtain ⟨⟨y0, y1, y2⟩, -, -, -⟩ := qx.below b10
      go_wp2_with fail
      refine (sides_ok K RR xa xn xl (behindT K R T R2 T') _ (hox.out.at.below b10) hrx.out).mono ?_
      rintro e w11 ⟨_, _, _, rfl, b11, rfl, rfl, rfl⟩
      have hBe := Lib.hid (Below.step b0 (Below.step b9 (Below.step b10 b11)))
      clear y0 y1 y2
      obtain ⟨s1, s2⟩ := hsd.out
      clear hsd hco
      rw [hL.out, hRb.out] at *
      clear hL hRb
      generalize unlikeP K T' (T'.length / K) = c at *
      generalize unlikeP K T' 1 = d at *
      generalize unlikeP K (behindT K R T R2 T') ((behindT K R T R2 T').length / K) = y at *
      generalize unlikeP K (behindT K R T R2 T') 1 = z at *
      cases L <;> cases Rb <;> cases c <;> cases d <;> simp only [true_implies, false_implies, imp_self, implies_true, Bool.false_eq_true] at s1 s2 <;> (try subst s1) <;> (try subst s2) <;> (go_wp2; go_ret; exact ⟨_, rfl, hBe.out, rfl⟩)


theorem permutForms_v (r : Nat → Addr) (k R : Int) (v : Value) (T : List Int) (k' R' : Int) (u : Value) (T' : List Int) (v2 : Value) (p : List Int) (w : World) (hg : Glob r w)
    (h : IntsAt w v T) (h' : IntsAt w u T') (hp : IntsAt w v2 p) (hpl : p.length ≤ 17592186043904) :
    Calls Tryd.prog 10 #[.agg #[.int .i64 k, .int .i64 R, v], .agg #[.int .i64 k', .int .i64 R', u], v2] w (Ret1 (fun x _ => x = .bool true) w) := by
  obtain ⟨va, vn, vc, rfl⟩ := h.shape
  obtain ⟨ua, un, uc, rfl⟩ := h'.shape
  obtain ⟨pa, pn, pc, rfl⟩ := hp.shape
  cases hc : checkP k R T with
  | some t => exact permutForms_bad r k R va vn vc T k' R' ua un uc _ t w hg h hc
  | none =>
    obtain ⟨K, Q, rfl, rfl, hr⟩ := checkP_none hc
    exact permutForms_ok r K Q va vn vc T k' R' ua un uc T' pa pn pc p w hg h hr h' hp (by omega)
end Go.Proofs.YtmddapkhipmlgaaDoor

namespace Go.Proofs.YtmddapkhipmlgaaDoor
open Go.ChangeShapes Go.WideShapes Go.ChangeAt Go.RowKit Go.Joins
set_option maxRecDepth 100000

theorem own : ownKnob Tryd.prog.godebug = none := by kernel_rfl
theorem laidOut : laidOutB Tryd.prog = true := by kernel_rfl
theorem cellsInt : Tryd.prog.cellsOf 3 = 1 := by kernel_rfl
theorem uInt : Tryd.prog.underlying 3 = some (.int .i64) := by kernel_rfl
theorem bytesInt : Tryd.prog.bytesOf 3 = 8 := by kernel_rfl

theorem i64_of_wf {n : Int} (h : (Lit.int .i64 n).wf = true) : I64 n := by
  have := bounds_i64 h
  unfold I64
  omega

/-- A []int that came in. -/
theorem open_intsV {H : Type} {enc : TypeId × Value → H} {W : World} {held : Bool} {fuel : Nat} {v : Value} {y : DataW H × List MemPlace}
    (h : DataW.trod enc Tryd.prog W 0 (fun _ => true) held fuel 22 [v] = some y) (hw : ∀ n ∈ y.1.weights Tryd.prog 22, n ≤ reachBytes) :
    ∃ xs, IntsAt W v xs ∧ xs.length ≤ 17592186043904 ∧ ∀ x ∈ xs, I64 x := by
  rcases open_ints uInts uInt cellsInt h with ⟨hcs, _⟩ | ⟨a, len, cap, zs, hcs, _, hl, hm, hz, hx, hcell, hwz⟩
  · simp at hcs
    subst hcs
    exact ⟨[], (OwnI.nil 0 W).at, by simp, by simp⟩
  · simp at hcs
    subst hcs
    simp only [if_true] at hz
    have hzl : (zs.take len).length = len := by simp; omega
    refine ⟨zs.take len, ⟨some a, cap, by rw [hzl], by rw [hzl]; exact hl, hm, (fun e => by cases e), fun i hi => ?_⟩, ?_, fun x hx => i64_of_wf (hwz x (List.mem_of_mem_take hx))⟩
    · have hi' : i < zs.length := by rw [hzl] at hi; omega
      show W.cell? (a.add i) = _
      rw [hcell i hi']
      simp [List.getD, hi']
    · rw [hx] at hw
      have := hw ((lits (H := H) .i64 (zs.take len)).length * 8 + (lits (H := H) .i64 (zs.drop len)).length * 8) (by
        simp only [DataW.weights, uInts, bytesInt, List.mem_cons]
        left; omega)
      simp only [lits, List.length_map, reachBytes] at this
      omega

theorem open_intsT {H : Type} {enc : TypeId × Value → H} {W : World} {held : Bool} {v : Value} {d : DataW H} {p : List MemPlace} {b0 : Nat}
    (hv : Value.okWide Tryd.prog W .any b0 22 v) (h : DataW.Trod enc Tryd.prog W 0 (fun _ => true) held 22 v d p) (hw : ∀ n ∈ d.weights Tryd.prog 22, n ≤ reachBytes) :
    ∃ xs, IntsAt W v xs ∧ xs.length ≤ 17592186043904 ∧ ∀ x ∈ xs, I64 x := by
  obtain ⟨a, l, c, rfl⟩ := okWide_slice uInts hv
  obtain ⟨fuel, hf⟩ := h
  exact open_intsV (y := (d, p)) (by simpa [Value.cells] using hf) hw

theorem weights_each3 {H : Type} {t0 t1 t2 : TypeId} {y0 y1 y2 : DataW H} {n : Nat} (h : n ∈ y2.weights Tryd.prog t2) : n ∈ DataW.weightsEach Tryd.prog [t0, t1, t2] [y0, y1, y2] := by
  simp only [DataW.weightsEach, List.mem_append]
  exact .inr (.inr (.inl h))

/-- A rule that came in. -/
theorem open_ruleV {H : Type} {enc : TypeId × Value → H} {W : World} {held : Bool} {v : Value} {d : DataW H} {p : List MemPlace} {b0 : Nat}
    (hv : Value.okWide Tryd.prog W .any b0 24 v) (h : DataW.Trod enc Tryd.prog W 0 (fun _ => true) held 24 v d p) (hw : ∀ n ∈ d.weights Tryd.prog 24, n ≤ reachBytes) :
    ∃ (k R : Int) (u : Value) (xs : List Int), v = .agg #[.int .i64 k, .int .i64 R, u] ∧ IntsAt W u xs ∧ xs.length ≤ 17592186043904 ∧ (∀ x ∈ xs, I64 x) ∧ I64 k ∧ I64 R := by
  obtain ⟨v0, v1, v2, y0, y1, y2, n, rfl, rfl, rfl, h0, h1, h2⟩ := open_agg3 Tryd.underlying24 (by kernel_rfl) (by kernel_rfl) hv h
  obtain ⟨a, e0, _, wa⟩ := DataW.trod_int uInt h0
  obtain ⟨b, e1, _, wb⟩ := DataW.trod_int uInt h1
  simp at e0 e1
  subst e0 e1
  obtain ⟨xs, hx, hl, hb⟩ := open_intsV h2 fun n hn => hw n (by
    simp only [DataW.weights, Tryd.underlying24]
    exact weights_each3 (t0 := 3) (t1 := 3) (t2 := 22) hn)
  exact ⟨a, b, v2, xs, rfl, hx, hl, hb, i64_of_wf wa, i64_of_wf wb⟩

/-! The package-level errors. -/
theorem star : "*" ++ "errors.errorString" = "*errors.errorString" := by decide
theorem rowES (u : TypeId) (h : Tryd.prog.typeName? 3 u = some "*errors.errorString") : u = 187 :=
  typeName_ptr_named (nm := "errors.errorString") (by rw [star]; kernel_rfl) (by kernel_rfl) (by decide) u (by rw [star]; exact h)
theorem pES : Tryd.prog.underlying 187 = some (.pointer 208) := by kernel_rfl
theorem cES : Tryd.prog.cellsOf 208 = 1 := by kernel_rfl
theorem cStr : Tryd.prog.cellsOf 9 = 1 := by kernel_rfl

def laid12 : List (String × DataW Unit) := [("eden/api.BadRule", Rows.laid_eden_api_BadRule), ("eden/api.BadWord", Rows.laid_eden_api_BadWord), ("eden/api.BadArg", Rows.laid_eden_api_BadArg), ("eden/api.TooBig", Rows.laid_eden_api_TooBig), ("eden/api.NoBudget", Rows.laid_eden_api_NoBudget), ("eden/api.BadText", Rows.laid_eden_api_BadText), ("eden/api.BadPatch", Rows.laid_eden_api_BadPatch), ("eden/api.BadCert", Rows.laid_eden_api_BadCert), ("eden/api.NoInverse", Rows.laid_eden_api_NoInverse), ("eden/api.BadLine", Rows.laid_eden_api_BadLine), ("eden/api.BadState", Rows.laid_eden_api_BadState), ("eden/api.Unknown", Rows.laid_eden_api_Unknown)]

theorem sentinel {n : String} {text : List UInt8} {r : List (String × DataW Unit)} {W : World} {g : Nat}
    (h : laidMet Tryd.prog ((n, .iface "*errors.errorString" (.ptr (.agg [.lit (.string text)]))) :: r) W)
    (hg : Tryd.prog.globalNamed n = some g) (ht : (Tryd.prog.globals[g]?).map (·.type) = some 27) :
    (∃ a : Addr, W.cell? ⟨g, 0, none⟩ = some (.iface 187 (.pointer (some a))) ∧ ∃ s, W.cell? a = some (.string s) ∧ s.data.toList = text) ∧ laidMet Tryd.prog r W := by
  refine ⟨?_, h.tail⟩
  obtain ⟨a, s, hv, hc, hs, _⟩ := laid_sentinel h hg ht Tryd.underlying27 rowES pES Tryd.underlying208 rfl rfl Tryd.underlying9 cES cStr
  exact ⟨a, by simpa using World.var?_cell hg hv 0, s, hc, hs⟩

def txt : Nat → List UInt8
  | 1 => [98, 97, 100, 32, 114, 117, 108, 101]
  | 2 => [98, 97, 100, 32, 119, 111, 114, 100]
  | 3 => [98, 97, 100, 32, 97, 114, 103, 117, 109, 101, 110, 116]
  | 4 => [116, 111, 111, 32, 98, 105, 103]
  | 5 => [110, 111, 32, 98, 117, 100, 103, 101, 116]
  | 6 => [98, 97, 100, 32, 116, 101, 120, 116]
  | 7 => [98, 97, 100, 32, 112, 97, 116, 99, 104]
  | 8 => [98, 97, 100, 32, 99, 101, 114, 116, 105, 102, 105, 99, 97, 116, 101]
  | 9 => [110, 111, 32, 105, 110, 118, 101, 114, 115, 101]
  | 10 => [98, 97, 100, 32, 108, 105, 110, 101]
  | 11 => [98, 97, 100, 32, 115, 116, 97, 116, 101]
  | 99 => [117, 110, 107, 110, 111, 119, 110]
  | _ => []
theorem txt_apart : ∀ m n : Fin 12, 1 ≤ m.val → 1 ≤ n.val → txt m.val = txt n.val → m = n := by decide

theorem glob_of_laid {W : World} (h : laidMet Tryd.prog laid12 W) : ∃ r, Glob r W := by
  obtain ⟨⟨a1, c1, s1, e1, t1⟩, h⟩ := sentinel (text := txt 1) h (g := 0) (by kernel_rfl) (by kernel_rfl)
  obtain ⟨⟨a2, c2, s2, e2, t2⟩, h⟩ := sentinel (text := txt 2) h (g := 1) (by kernel_rfl) (by kernel_rfl)
  obtain ⟨⟨a3, c3, s3, e3, t3⟩, h⟩ := sentinel (text := txt 3) h (g := 2) (by kernel_rfl) (by kernel_rfl)
  obtain ⟨⟨a4, c4, s4, e4, t4⟩, h⟩ := sentinel (text := txt 4) h (g := 3) (by kernel_rfl) (by kernel_rfl)
  obtain ⟨⟨a5, c5, s5, e5, t5⟩, h⟩ := sentinel (text := txt 5) h (g := 4) (by kernel_rfl) (by kernel_rfl)
  obtain ⟨⟨a6, c6, s6, e6, t6⟩, h⟩ := sentinel (text := txt 6) h (g := 5) (by kernel_rfl) (by kernel_rfl)
  obtain ⟨⟨a7, c7, s7, e7, t7⟩, h⟩ := sentinel (text := txt 7) h (g := 6) (by kernel_rfl) (by kernel_rfl)
  obtain ⟨⟨a8, c8, s8, e8, t8⟩, h⟩ := sentinel (text := txt 8) h (g := 7) (by kernel_rfl) (by kernel_rfl)
  obtain ⟨⟨a9, c9, s9, e9, t9⟩, h⟩ := sentinel (text := txt 9) h (g := 8) (by kernel_rfl) (by kernel_rfl)
  obtain ⟨⟨a10, c10, s10, e10, t10⟩, h⟩ := sentinel (text := txt 10) h (g := 9) (by kernel_rfl) (by kernel_rfl)
  obtain ⟨⟨a11, c11, s11, e11, t11⟩, h⟩ := sentinel (text := txt 11) h (g := 10) (by kernel_rfl) (by kernel_rfl)
  obtain ⟨⟨a99, c99, s99, e99, t99⟩, h⟩ := sentinel (text := txt 99) h (g := 11) (by kernel_rfl) (by kernel_rfl)
  clear h
  have key : ∀ n : Nat, (1 ≤ n ∧ n ≤ 11) ∨ n = 99 → ∃ s, W.cell? ((fun n : Nat => match n with | 1 => a1 | 2 => a2 | 3 => a3 | 4 => a4 | 5 => a5 | 6 => a6 | 7 => a7 | 8 => a8 | 9 => a9 | 10 => a10 | 11 => a11 | _ => a99) n) = some (.string s) ∧ s.data.toList = txt n := by
    intro n hn
    have : n = 1 ∨ n = 2 ∨ n = 3 ∨ n = 4 ∨ n = 5 ∨ n = 6 ∨ n = 7 ∨ n = 8 ∨ n = 9 ∨ n = 10 ∨ n = 11 ∨ n = 99 := by omega
    rcases this with rfl | rfl | rfl | rfl | rfl | rfl | rfl | rfl | rfl | rfl | rfl | rfl
    · exact ⟨s1, e1, t1⟩
    · exact ⟨s2, e2, t2⟩
    · exact ⟨s3, e3, t3⟩
    · exact ⟨s4, e4, t4⟩
    · exact ⟨s5, e5, t5⟩
    · exact ⟨s6, e6, t6⟩
    · exact ⟨s7, e7, t7⟩
    · exact ⟨s8, e8, t8⟩
    · exact ⟨s9, e9, t9⟩
    · exact ⟨s10, e10, t10⟩
    · exact ⟨s11, e11, t11⟩
    · exact ⟨s99, e99, t99⟩
  refine ⟨(fun n : Nat => match n with | 1 => a1 | 2 => a2 | 3 => a3 | 4 => a4 | 5 => a5 | 6 => a6 | 7 => a7 | 8 => a8 | 9 => a9 | 10 => a10 | 11 => a11 | _ => a99), c1, c2, c3, c4, c5, c6, c7, c8, c9, c10, c11, c99, (fun n hn => ?_), fun m n hm1 hm2 hn1 hn2 he => ?_⟩
  · obtain ⟨s, hs, _⟩ := key n hn
    exact ⟨s, hs⟩
  · obtain ⟨s, hs, ts⟩ := key m.toNat (by omega)
    obtain ⟨s', hs', ts'⟩ := key n.toNat (by omega)
    have hss : s = s' := by
      have := hs.symm.trans ((congrArg W.cell? he).trans hs')
      simpa using this
    subst hss
    have := txt_apart ⟨m.toNat, by omega⟩ ⟨n.toNat, by omega⟩ (by simp; omega) (by simp; omega) (ts.symm.trans ts')
    have := congrArg Fin.val this
    simp at this
    omega
end Go.Proofs.YtmddapkhipmlgaaDoor

namespace Go.Proofs.YtmddapkhipmlgaaDoor
open Go.ChangeShapes Go.WideShapes Go.ChangeAt Go.RowKit Go.Joins
namespace PermutFormsP

set_option maxRecDepth 100000 in
theorem door_met (os : Os) (args : Array Value) : laidMetH Tryd.prog Rows.permutFormsRow.laid ((World.doorLaid Tryd.prog 400 os).forCall (fun _ _ => 0) ⟨#[], args, []⟩).memory :=
  laidMetH_of_parts3 (fuel := 8) (laidMet_of_run' 8 (by kernel_rfl) (by kernel_rfl)) (by kernel_rfl) (by kernel_rfl)

set_option maxRecDepth 100000 in
theorem lifted (os : Os) (started : os.Started) (H : Type) (enc : TypeId × Value → H) :
    ReturnsInHanded {} Tryd.checked os 10 .any (fun w args => (Rows.permutFormsSpec.pre enc Tryd.prog Tryd.f10 [] false w args ∧ laidMetH Tryd.prog Rows.permutFormsRow.laid w) ∧ sizedMet enc Tryd.prog Tryd.f10 (OpenSpec.ofChange Rows.permutFormsSpec) false w args)
      (Rows.permutFormsSpec.post enc Tryd.prog Tryd.f10 false true false false) := by
  refine returnsInHanded_of_change_and (C := Tryd.checked) (X := fun w _ => laidMetH Tryd.prog Rows.permutFormsRow.laid w) (fun _ _ _ hh h => h.of_heap hh) own started (by kernel_rfl) Tryd.func10
    (ChangeSpec.witness_shaped (enc := enc) (C := Tryd.checked) (os := os) (X := fun w _ => laidMetH Tryd.prog Rows.permutFormsRow.laid w) false (World.doorLaid Tryd.prog 400 os) #[.agg #[.int .i64 0, .int .i64 0, .slice none 0 0], .agg #[.int .i64 0, .int .i64 0, .slice none 0 0], .slice none 0 0] 8 rfl (World.shaped_of_RefB (by kernel_rfl) (by kernel_rfl)) (by kernel_rfl) (by kernel_rfl) (by kernel_rfl) (door_met os _)) ?_
  intro W base args ds gs before hval0 hW _ hsz hL _
  have hval : ∀ (j : Nat) t v, Tryd.f10.params[j]? = some t → args[j]? = some v → Value.okWide Tryd.prog W .any base t v := hval0
  have hW' := hW
  obtain ⟨p, q, hA0, hV, rfl, hfz, hnd⟩ := hW
  have hA : DataW.TrodAll enc Tryd.prog W 0 (fun _ => true) true Tryd.f10.params.toList args.toList ds p := hA0
  rw [Tryd.params10] at hA hval hsz
  obtain ⟨v0, vs0, d0, ds0, p0, q0, hargs, rfl, rfl, g0, t0⟩ := trodAll_cons hA
  obtain ⟨v1, vs1, d1, ds1, p1, q1, rfl, rfl, rfl, g1, t1⟩ := trodAll_cons t0
  obtain ⟨v2, vs2, d2, ds2, p2, q2, rfl, rfl, rfl, g2, t2⟩ := trodAll_cons t1
  obtain ⟨rfl, rfl, rfl⟩ := trodAll_nil t2
  obtain rfl : args = #[v0, v1, v2] := by cases args; simp_all
  obtain ⟨rfl, rfl⟩ := trodVars_none hV
  have kk0 := g0
  have lt0 : ∀ x ∈ p0, x.block < W.heap.size := by obtain ⟨m, hm⟩ := kk0; exact DataW.trod_lt m _ _ _ hm
  obtain ⟨kr0, rr0, u0, x0, rfl, h0, l0, b0, bk0, br0⟩ := open_ruleV (hval 0 24 v0 rfl rfl) g0 (fun n hn => by
    have := List.all_eq_true.1 hsz n (DataW.weights_mem_each (j := 0) (t := 24) rfl rfl n hn)
    simpa using this)
  have kk1 := g1
  have lt1 : ∀ x ∈ p1, x.block < W.heap.size := by obtain ⟨m, hm⟩ := kk1; exact DataW.trod_lt m _ _ _ hm
  obtain ⟨kr1, rr1, u1, x1, rfl, h1, l1, b1, bk1, br1⟩ := open_ruleV (hval 1 24 v1 rfl rfl) g1 (fun n hn => by
    have := List.all_eq_true.1 hsz n (DataW.weights_mem_each (j := 1) (t := 24) rfl rfl n hn)
    simpa using this)
  have kk2 := g2
  have lt2 : ∀ x ∈ p2, x.block < W.heap.size := by obtain ⟨m, hm⟩ := kk2; exact DataW.trod_lt m _ _ _ hm
  obtain ⟨x2, h2, l2, b2⟩ := open_intsT (hval 2 22 v2 rfl rfl) g2 (fun n hn => by
    have := List.all_eq_true.1 hsz n (DataW.weights_mem_each (j := 2) (t := 22) rfl rfl n hn)
    simpa using this)
  obtain ⟨r, hg⟩ := glob_of_laid (W := W) (by
    rw [MakeChecks.laidMetH_plain _ _ _ (by kernel_rfl)] at hL
    exact hL)
  clear hA0 hval0
  refine (permutForms_v r kr0 rr0 u0 x0 kr1 rr1 u1 x1 v2 x2 W hg h0 h1 h2 l2).mono fun e W' ⟨x, he, bel, hxx⟩ => ?_
  subst he; subst hxx
  exact ⟨_, rfl, _, _, _, [], _, [], hW', trodAll_mk1 (shut_bool Tryd.underlying4 _), (trodAll_cons_mk (Below.trod laidOut (by kernel_rfl) (of_decide_eq_true (by kernel_rfl)) kk0 bel lt0) (trodAll_cons_mk (Below.trod laidOut (by kernel_rfl) (of_decide_eq_true (by kernel_rfl)) kk1 bel lt1) (trodAll_cons_mk (Below.trod laidOut (by kernel_rfl) (of_decide_eq_true (by kernel_rfl)) kk2 bel lt2) trodAll_mk0))), rfl, bel.frame _, fun h => by cases h⟩

theorem over : Rows.PermutFormsSaid :=
  OpenClaim.holds_of_wide 10 Tryd.f10 rfl rfl rfl rfl rfl rfl rfl ⟨rfl, rfl, rfl, rfl, rfl⟩ rfl rfl rfl rfl rfl (by kernel_rfl) Tryd.func10 (by kernel_rfl)
    (of_decide_eq_true (by kernel_rfl)) (by unfold Func.isWrapper; first | (rw [if_pos (by decide +kernel)]; kernel_rfl) | (rw [if_neg (by decide +kernel)]; exact ⟨rfl, rfl⟩))
    (fun os started H enc _ => lifted os started H enc)

/-- The tied card. -/
theorem card_holds : Rows.PermutFormsCardSaid :=
  Claim7.holds_tied_plain_at .later [] [.sentinel, .sentinel, .sentinel, .sentinel, .sentinel, .sentinel, .sentinel, .sentinel, .sentinel, .sentinel, .sentinel, .sentinel] true _ true
    over (fun _ h => by cases h) (by kernel_rfl) (fun _ h => by cases h) permutForms_row_tie rfl ⟨rfl, rfl⟩ (by kernel_rfl) rfl
    (fun f fn hf hfn => by
      obtain rfl : f = 10 := Option.some.inj ((show Tryd.prog.funcNamed Rows.permutFormsRow.func = some 10 by kernel_rfl).symm.trans hf) |>.symm
      obtain rfl : fn = Tryd.f10 := (Option.some.inj (Tryd.func10.symm.trans hfn)).symm
      exact ⟨by kernel_rfl, fun j t ht => by
        rw [Tryd.params10] at ht
        have hm : t ∈ [24, 24, 22] := by simpa using Array.mem_of_getElem? ht
        have hall : ([24, 24, 22].all fun u => !Tryd.prog.wantsStandIn u) = true := by kernel_rfl
        exact (show Tryd.prog.wantsStandIn t = false by simpa using List.all_eq_true.1 hall t hm)⟩)
    (by kernel_rfl)
end PermutFormsP
#print axioms PermutFormsP.card_holds
end Go.Proofs.YtmddapkhipmlgaaDoor
