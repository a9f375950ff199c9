/-
  Walk: edenref18.Sum.
-/
import Derived.Test.YtmddapkhipmlgaaDoorRef18
import Derived.Test.YtmddapkhipmlgaaDoorRawIs
import Derived.Test.YtmddapkhipmlgaaDoorPureRef18
import Derived.Deep.RegionHeld3
namespace Go.Proofs.YtmddapkhipmlgaaDoor
open Go.RowKit
set_option maxRecDepth 100000

/-- append(s, y) onto a list of one's own, in a region that draws. -/
theorem step_app1 {ops : Array Oper} {o : Oper} {a : Act} {w : World} {K : Act → World → Prop} {Q : Exit → Act → World → Prop} {Ep : Prop} (hgd : o.guard = none) (s x : Operand)
    (ho : o.op = .call { callee := .builtin .append, args := #[s, x], argTypes := #[22, 22] })
    (B : Nat) (v : Value) (xs : List Int) (y : Int) (b : Nat) (hs : a.eval s = v) (hx : a.eval x = .slice (some ⟨b, 0, none⟩) 1 1) (hown : OwnI B w v xs) (hc : w.cell? ⟨b, 0, none⟩ = some (.int .i64 y))
    (hlen : xs.length < 4398046511104) (hB : B ≤ w.heap.size)
    (h : ∀ v' w', OwnI B w' v' (xs ++ [y]) → Below B w w' → K (a.put o.dst v') w') :
    if Region.wanted o (yielded ops a.tmps) = true then Oper.wp Tryd.prog o a w K Q else Ep := by
  have hw : Region.wanted o (yielded ops a.tmps) = true := by simp [Region.wanted, hgd]
  rw [if_pos hw]
  obtain ⟨v', w', hr, h2, h3⟩ := run_app oneInts w B o.type v _ hown.toV ⟨b, 0, none⟩ 1 [.int .i64 y] (by simp) (fun j u hj => by
    obtain ⟨hj1, hj2⟩ := List.getElem?_eq_some_iff.1 hj
    obtain rfl : j = 0 := by simpa using hj1
    simp at hj2; subst hj2
    exact hc) (by simp [Value.oneCell']) (by simp; omega) hB
  rw [show ([.int .i64 y] : List Value).length = 1 from rfl] at hr
  unfold Oper.wp
  simp [execOp, ho, resolve, invoke, builtin, hs, hx, hr, Result.andThen]
  have ho' : OwnI B w' v' (xs ++ [y]) := OwnV.toI (by simpa using h2)
  rcases h3 with ⟨_, hg⟩ | ⟨_, hg⟩
  · exact h v' w' ho' ((Below.refl _ _).grown hg hB (fun k hk => (hown.lt k hk).1))
  · exact h v' w' ho' ((Below.refl _ _).grown hg hB (by intro k hk; cases hk))

theorem Box3.belowB {B : Nat} {w w' : World} {b : Nat} {x0 x1 x2 : Value} (h : Box3 w b x0 x1 x2) (hb : Below B w w') (hlt : b < B) : Box3 w' b x0 x1 x2 := by
  obtain ⟨⟨h0, h1, h2⟩, f0, f1, f2⟩ := h
  exact ⟨⟨(hb.cell (p := ⟨b, 0, none⟩) hlt).trans h0, (hb.cell (p := ⟨b, 1, none⟩) hlt).trans h1, (hb.cell (p := ⟨b, 2, none⟩) hlt).trans h2⟩, (hb.frozen (p := ⟨b, 0, none⟩) hlt).trans f0, (hb.frozen (p := ⟨b, 1, none⟩) hlt).trans f1, (hb.frozen (p := ⟨b, 2, none⟩) hlt).trans f2⟩
theorem Box3.far {w : World} {b b' : Nat} {x0 x1 x2 : Value} (h : Box3 w b x0 x1 x2) (hne : b' ≠ b) (i : Nat) (u : Value) : Box3 (w.setCell ⟨b', i, none⟩ u) b x0 x1 x2 := by
  obtain ⟨⟨h0, h1, h2⟩, f0, f1, f2⟩ := h
  refine ⟨⟨?_, ?_, ?_⟩, ?_, ?_, ?_⟩
  · rw [World.cell?_setCell_far _ _ _ _ hne]; exact h0
  · rw [World.cell?_setCell_far _ _ _ _ hne]; exact h1
  · rw [World.cell?_setCell_far _ _ _ _ hne]; exact h2
  · simpa using f0
  · simpa using f1
  · simpa using f2
theorem Box3.set2 {w : World} {b : Nat} {x0 x1 x2 : Value} (h : Box3 w b x0 x1 x2) (u : Value) : Box3 (w.setCell ⟨b, 2, none⟩ u) b x0 x1 u := by
  obtain ⟨⟨h0, h1, h2⟩, f0, f1, f2⟩ := h
  refine ⟨⟨?_, ?_, World.cell?_setCell_same _ _ _ h2⟩, ?_, ?_, ?_⟩
  · rw [World.cell?_setCell_other _ _ _ _ (by simp)]; exact h0
  · rw [World.cell?_setCell_other _ _ _ _ (by simp)]; exact h1
  · simpa using f0
  · simpa using f1
  · simpa using f2

set_option maxHeartbeats 2000000 in
theorem ref_sum (K : Nat) (v : Value) (f : List Int) (w : World) (h : IntsAt w v f) (hk1 : 1 ≤ K) (hk4 : K ≤ 4) (hl : f.length ≤ 7) (hs : Syms K f) :
    Calls Tryd.prog 72 #[.int .i64 K, v] w (Ret1 (fun x w' => ∃ a n c, x = .agg #[.int .i64 K, .int .i64 (f.length / 2 : Nat), .slice a n c] ∧ OwnI w.heap.size w' (.slice a n c) (sumT K f)) w) := by
  have hlen := h.len
  have hpl := pw_le hk1 hk4 (i := f.length) hl
  rw [show ((f.length / 2 : Nat) : Int) = (f.length : Int) / 2 by omega]
  have hK0 : ((K : Int) == 0) = false := by rw [beq_eq_false_iff_ne]; omega
  have hK1 : ¬ (K : Int) = 0 := by omega
  have hK2 : (0 : Int) < K := by omega
  have hK3 : ¬ K = 0 := by omega
  rw [sumT_range_eq hk1]
  obtain ⟨H, hH⟩ : ∃ H : Int, H = (f.length : Int) / 2 := ⟨_, rfl⟩
  have b0 := Below.step (belowAlloc w (.cells #[.int .i64 0, .int .i64 0, .slice none 0 0] 24)) (belowAlloc _ (.cells #[.int .i64 K, .int .i64 H, .slice none 0 0] 24))
  have bx : Box3 ((w.alloc (.cells #[.int .i64 0, .int .i64 0, .slice none 0 0] 24)).alloc (.cells #[.int .i64 K, .int .i64 H, .slice none 0 0] 24)) (w.heap.size + 1) (.int .i64 K) (.int .i64 H) (.slice none 0 0) := by simp [Box3, go_sem]
  have by_ : Box3 ((w.alloc (.cells #[.int .i64 0, .int .i64 0, .slice none 0 0] 24)).alloc (.cells #[.int .i64 K, .int .i64 H, .slice none 0 0] 24)) w.heap.size (.int .i64 0) (.int .i64 0) (.slice none 0 0) := by simp [Box3, go_sem]
  replace h := Lib.hid h
  replace hs := Lib.hid hs
  go_enter Tryd.func72, Tryd.ntmps72
  go_wp2
  rw [← hH]
  replace hH := Lib.hid hH
  go_loopw [6] (fun i wr => ∃ m : Nat, m ≤ pw K f.length ∧ i = .int .i64 m ∧ (∃ ta tn tc, OwnI (w.heap.size + 2) wr (.slice ta tn tc) ((List.range m).map (sumR K f)) ∧ Box3 wr (w.heap.size + 1) (.int .i64 K) (.int .i64 H) (.slice ta tn tc)) ∧ Box3 wr w.heap.size (.int .i64 0) (.int .i64 0) (.slice none 0 0) ∧ Below w.heap.size w wr) (fun i _ => pw K f.length - (intOf i).toNat)
  case atStart => exact ⟨0, by omega, rfl, ⟨none, 0, 0, OwnI.nil _ _, bx⟩, by_, b0⟩
  case round =>
    obtain ⟨m, hm, rfl, ⟨ta, tn, tc, hT, hX⟩, hY, hB⟩ := hrel
    obtain ⟨wo, rfl⟩ : ∃ wo : World, wo = wr := ⟨_, rfl⟩
    by_cases hml : m < pw K f.length
    · go_wp2_with fail
      refine (ref_power _ _ K f.length _ rfl rfl hk1 hk4 hl).mono ?_
      rintro e w1 ⟨rfl, rfl⟩
      go_wp2_with fail
      refine (ref_digits _ _ _ K f.length m _ rfl rfl rfl hk1 hk4 hl (by omega)).mono ?_
      rintro e w1 ⟨x, rfl, b1, hx⟩
      have hf1 := h.out.below (Below.step hB b1)
      have hdl : (digs K f.length m).length = f.length := digs_length ..
      have hds := digs_syms hk1 f.length m
      replace hT := Lib.hid (hT.below b1)
      replace hX := Lib.hid (hX.below b1)
      replace hY := Lib.hid (hY.below b1)
      have hB1 := Lib.hid (Below.step hB b1)
      have hsz : w.heap.size + 2 ≤ w1.heap.size := by
        have := World.block_lt_of_cell? _ _ hX.out.1.1
        simp at this
        omega
      have hxl := hx.at.len
      rw [hdl] at hxl
      replace hdl := Lib.hid hdl
      replace hds := Lib.hid hds
      replace hx := Lib.hid hx
      replace hf1 := Lib.hid hf1
      go_wp2
      go_loopw [8, 9] (fun s j wr => ∃ t : Nat, t ≤ f.length ∧ j = .int .i64 t ∧ s = .int .i64 (Sm (fun j => f.getD j 0 * (digs K f.length m).getD j 0) t) ∧ ∃ n, wr = w1.drewN n) (fun _ j _ => f.length - (intOf j).toNat)
      case atStart => exact ⟨0, by omega, rfl, rfl, 0, rfl⟩
      case round =>
        obtain ⟨t, ht, rfl, rfl, n, rfl⟩ := hrel
        have hbd := Sm_bound hk4 (fun j => f.getD j 0) (fun j => (digs K f.length m).getD j 0) (fun j => hs.out.getD (by omega) j) (fun j => hds.out.getD (by omega) j) t
        by_cases htl : t < f.length
        · have i1 := hf1.out.idx t htl
          have c1 := hf1.out.cellD t htl
          have i2 := hx.out.at.idx t (by rw [hdl.out]; exact htl)
          have c2 := hx.out.at.cellD t (by rw [hdl.out]; exact htl)
          have hpb := prod_bound hk4 (hs.out.getD (by omega) t) (hds.out.getD (by omega) t)
          have hst : Hid (Sm (fun j => f.getD j 0 * (digs K f.length m).getD j 0) (t + 1) = Sm (fun j => f.getD j 0 * (digs K f.length m).getD j 0) t + f.getD t 0 * (digs K f.length m).getD t 0) := rfl
          generalize Sm (fun j => f.getD j 0 * (digs K f.length m).getD j 0) t = SS at hbd hst
          generalize f.getD t 0 = p at c1 hpb hst
          generalize (digs K f.length m).getD t 0 = q at c2 hpb hst
          obtain ⟨hp1, hp2⟩ := hpb
          obtain ⟨hb1, hb2⟩ := hbd
          go_wp2
          go_quiet (fail)
          go_wp2
          go_roundw
          case rel => exact ⟨t + 1, by omega, by go_num, by rw [hst.out], _, rfl⟩
          case measure => simp [intOf]; omega
        · obtain rfl : t = f.length := by omega
          have hres : Hid (Sm (fun j => f.getD j 0 * (digs K f.length m).getD j 0) f.length % (K : Int) = sumR K f m) := rfl
          generalize Sm (fun j => f.getD j 0 * (digs K f.length m).getD j 0) f.length = SS at hbd hres
          obtain ⟨hb1, hb2⟩ := hbd
          go_wp2
          obtain ⟨W, hW⟩ : ∃ W : World, W = (w1.drewN n).drew := ⟨_, rfl⟩
          have eT : OwnI (w.heap.size + 2) W (.slice ta tn tc) ((List.range m).map (sumR K f)) := by rw [hW]; exact (hT.out.drewN n).drew
          have eX : Box3 W (w.heap.size + 1) (.int .i64 K) (.int .i64 H) (.slice ta tn tc) := by rw [hW]; exact hX.out.below (below_drewN (Below.refl _ _) n).drew
          have eY : Box3 W w.heap.size (.int .i64 0) (.int .i64 0) (.slice none 0 0) := by rw [hW]; exact hY.out.below (below_drewN (Below.refl _ _) n).drew
          have eB : Below w.heap.size w W := by rw [hW]; exact Below.step hB1.out (below_drewN (Below.refl _ _) n).drew
          have eS : w.heap.size + 2 ≤ W.heap.size := by rw [hW]; exact hsz
          refine wp_region_noPanic ?_
          refine wp_region_any (by kernel_rfl) ?_
          change wpAny _ _ _ _ _ _ _ (World.drew _)
          rw [← hW]
          clear hW hT hX hY hB1
          refine takeA (i := 0) (v := ?_) (some 45) rfl rfl (by kernel_rfl) (by kernel_rfl) (by kernel_rfl) (fun _ _ _ h => h) (Or.inl ⟨by rfl, ?_⟩) ?_
          rotate_left
          · intro _; go_simp; try with_reducible rfl
          simp only [Act.put, List.setIfInBounds_toArray, List.set_cons_zero, List.set_cons_succ]
          refine takeA (i := 2) (v := ?_) (some 47) rfl rfl (by kernel_rfl) (by kernel_rfl) (by kernel_rfl) (fun _ _ _ h => h) (Or.inl ⟨by rfl, ?_⟩) ?_
          rotate_left
          · intro _; go_simp; try with_reducible rfl
          simp only [Act.put, List.setIfInBounds_toArray, List.set_cons_zero, List.set_cons_succ]
          refine takeA (i := 3) (v := ?_) (some 48) rfl rfl (by kernel_rfl) (by kernel_rfl) (by kernel_rfl) (fun _ _ _ h => h) (Or.inl ⟨by rfl, ?_⟩) ?_
          rotate_left
          · intro _; go_simp; try with_reducible rfl
          simp only [Act.put, List.setIfInBounds_toArray, List.set_cons_zero, List.set_cons_succ]
          refine takeA (i := 4) (v := ?_) (some 49) rfl rfl (by kernel_rfl) (by kernel_rfl) (by kernel_rfl) (fun _ _ _ h => h) (Or.inl ⟨by rfl, ?_⟩) ?_
          rotate_left
          · intro _; go_simp; try with_reducible rfl
          simp only [Act.put, List.setIfInBounds_toArray, List.set_cons_zero, List.set_cons_succ]
          have eX' := eX
          have hlist : Hid ((List.range m).map (sumR K f) ++ [SS.tmod K] = (List.range (m + 1)).map (sumR K f)) := by
            show _ = _
            rw [List.range_succ, List.map_append, Int.tmod_eq_emod_of_nonneg hb1, hres.out]; rfl
          obtain ⟨⟨ex0, ex1, ex2⟩, eg0, eg1, eg2⟩ := eX'
          have ex2a := fun o => cell_alloc ex2 o
          refine wpAny_ready (rs := [1, 5]) (by kernel_rfl) (by simp) (AllReady.cons rfl (fun KK hK => ?_) (AllReady.cons rfl (fun KK hK => ?_) AllReady.nil))
          · go_simp
            refine hK _ _ ?_
            clear hK KK
            refine wpAny_ready (rs := [5]) (by kernel_rfl) (by simp) (AllReady.cons rfl (fun KK hK => ?_) AllReady.nil)
            go_simp
            refine hK _ _ ?_
            clear hK KK
            refine wpAny_ready (rs := [6]) (by kernel_rfl) (by simp) (AllReady.cons rfl (fun KK hK => ?_) AllReady.nil)
            refine step_app1 rfl _ _ rfl (w.heap.size + 2) (.slice ta tn tc) ((List.range m).map (sumR K f)) (SS.tmod K) W.heap.size rfl rfl (eT.alloc _) (by simp) (by simp; omega) (by simp; omega) ?_
            intro v' w' hT' hb'
            refine hK _ _ ?_
            clear hK KK
            obtain ⟨va', vn', vc', rfl⟩ := hT'.at.shape
            have X' := (eX.alloc _).belowB hb' (show w.heap.size + 1 < w.heap.size + 2 by omega)
            have Y' := (eY.alloc _).belowB hb' (show w.heap.size < w.heap.size + 2 by omega)
            have B' := (Below.allocL eB _).trans (hb'.mono (show w.heap.size ≤ w.heap.size + 2 by omega))
            have hTn := hT'.setBelowBase (a := ⟨w.heap.size + 1, 2, none⟩) (show w.heap.size + 1 < w.heap.size + 2 by omega) (.slice va' vn' vc')
            rw [hlist.out] at hTn
            have Xn := X'.set2 (.slice va' vn' vc')
            have Yn := Y'.far (show w.heap.size + 1 ≠ w.heap.size by omega) 2 (.slice va' vn' vc')
            have Bn := B'.setCell (p := ⟨w.heap.size + 1, 2, none⟩) (show w.heap.size ≤ w.heap.size + 1 by omega) (.slice va' vn' vc')
            obtain ⟨⟨ey0, ey1, ey2⟩, eh0, eh1, eh2⟩ := X'
            replace hTn := Lib.hid hTn
            replace Xn := Lib.hid Xn
            replace Yn := Lib.hid Yn
            replace Bn := Lib.hid Bn
            clear hT' Y' B' hb' ex0 ex1 ex2 eg0 eg1 eg2 ex2a
            refine takeA (i := 7) (v := ?_) (some 52) rfl rfl (by kernel_rfl) (by kernel_rfl) (by kernel_rfl) (fun _ _ _ h => h) (Or.inl ⟨by rfl, ?_⟩) ?_
            rotate_left
            · intro _; go_simp; try with_reducible rfl
            simp only [Act.put, List.setIfInBounds_toArray]
            refine wpAny_ready (rs := [8]) (by kernel_rfl) (by simp) (AllReady.cons rfl (fun KK hK => ?_) AllReady.nil)
            go_simp
            refine hK _ _ ?_
            clear hK KK
            refine wpAny_done (by kernel_rfl) ?_ _
            refine NoPanic.normal ?_
            go_wp2
            go_roundw
            case rel => exact ⟨m + 1, by omega, by go_num, ⟨va', vn', vc', hTn.out, Xn.out⟩, Yn.out, Bn.out⟩
            case measure => simp [intOf]; omega
          · go_simp
            refine hK _ _ ?_
            clear hK KK
            refine wpAny_ready (rs := [1]) (by kernel_rfl) (by simp) (AllReady.cons rfl (fun KK hK => ?_) AllReady.nil)
            go_simp
            refine hK _ _ ?_
            clear hK KK
            refine wpAny_ready (rs := [6]) (by kernel_rfl) (by simp) (AllReady.cons rfl (fun KK hK => ?_) AllReady.nil)
            refine step_app1 rfl _ _ rfl (w.heap.size + 2) (.slice ta tn tc) ((List.range m).map (sumR K f)) (SS.tmod K) W.heap.size rfl rfl (eT.alloc _) (by simp) (by simp; omega) (by simp; omega) ?_
            intro v' w' hT' hb'
            refine hK _ _ ?_
            clear hK KK
            obtain ⟨va', vn', vc', rfl⟩ := hT'.at.shape
            have X' := (eX.alloc _).belowB hb' (show w.heap.size + 1 < w.heap.size + 2 by omega)
            have Y' := (eY.alloc _).belowB hb' (show w.heap.size < w.heap.size + 2 by omega)
            have B' := (Below.allocL eB _).trans (hb'.mono (show w.heap.size ≤ w.heap.size + 2 by omega))
            have hTn := hT'.setBelowBase (a := ⟨w.heap.size + 1, 2, none⟩) (show w.heap.size + 1 < w.heap.size + 2 by omega) (.slice va' vn' vc')
            rw [hlist.out] at hTn
            have Xn := X'.set2 (.slice va' vn' vc')
            have Yn := Y'.far (show w.heap.size + 1 ≠ w.heap.size by omega) 2 (.slice va' vn' vc')
            have Bn := B'.setCell (p := ⟨w.heap.size + 1, 2, none⟩) (show w.heap.size ≤ w.heap.size + 1 by omega) (.slice va' vn' vc')
            obtain ⟨⟨ey0, ey1, ey2⟩, eh0, eh1, eh2⟩ := X'
            replace hTn := Lib.hid hTn
            replace Xn := Lib.hid Xn
            replace Yn := Lib.hid Yn
            replace Bn := Lib.hid Bn
            clear hT' Y' B' hb' ex0 ex1 ex2 eg0 eg1 eg2 ex2a
            refine takeA (i := 7) (v := ?_) (some 52) rfl rfl (by kernel_rfl) (by kernel_rfl) (by kernel_rfl) (fun _ _ _ h => h) (Or.inl ⟨by rfl, ?_⟩) ?_
            rotate_left
            · intro _; go_simp; try with_reducible rfl
            simp only [Act.put, List.setIfInBounds_toArray]
            refine wpAny_ready (rs := [8]) (by kernel_rfl) (by simp) (AllReady.cons rfl (fun KK hK => ?_) AllReady.nil)
            go_simp
            refine hK _ _ ?_
            clear hK KK
            refine wpAny_done (by kernel_rfl) ?_ _
            refine NoPanic.normal ?_
            go_wp2
            go_roundw
            case rel => exact ⟨m + 1, by omega, by go_num, ⟨va', vn', vc', hTn.out, Xn.out⟩, Yn.out, Bn.out⟩
            case measure => simp [intOf]; omega
    · obtain rfl : m = pw K f.length := by omega
      have hY' := hY
      obtain ⟨⟨y0, y1, y2⟩, g0, g1, g2⟩ := hY'
      obtain ⟨⟨x0, x1, x2⟩, -, -, -⟩ := hX
      replace hT := Lib.hid hT
      replace hB := Lib.hid hB
      go_wp2_with fail
      refine (ref_power _ _ K f.length _ rfl rfl hk1 hk4 hl).mono ?_
      rintro e w1 ⟨rfl, rfl⟩
      go_wp2
      refine bodyPost_ret (v := .agg #[.int .i64 K, .int .i64 H, .slice ta tn tc]) (by simp [results, Tryd.results72, go_sem, y0, y1, y2]) rfl ⟨_, rfl, below_set3 hB.out (Nat.le_refl _) _ _ _, ta, tn, tc, by rw [hH.out], ?_⟩
      exact (((hT.out.setBelowBase (a := ⟨w.heap.size, 0, none⟩) (by simp) _).setBelowBase (a := ⟨w.heap.size, 1, none⟩) (by simp) _).setBelowBase (a := ⟨w.heap.size, 2, none⟩) (by simp) _).mono (by omega)
end Go.Proofs.YtmddapkhipmlgaaDoor
