/-
  Walk: edenlaw15.TwinsStand returns true.
  Opening what a call is handed: []int, api.Rule, the package-level errors.
  Opening what a call is handed: api.Row.
-/
import Derived.Test.YtilpckngghffoaaDoorMTs5
import Derived.Test.YtilpckngghffoaaDoorRows
import Derived.ProofKit
import Derived.OpenShut
import Derived.ShutString
import Derived.ChangeOld
import Derived.LaidMore
import Derived.Stop.Joined
import Derived.Stop.LaidErr
import Derived.Lib.SmallJoins
namespace Go.Proofs.YtilpckngghffoaaDoor
open Go.RowKit
set_option maxRecDepth 100000

/-- append(s, t...) in a region that draws, with what else it keeps. -/
theorem step_appIH {ops : Array Oper} {o : Oper} {a : Act} {w : World} {K : Act → World → Prop} {Q : Exit → Act → World → Prop} {Ep : Prop} (hgd : o.guard = none) (s x : Operand)
    (ho : o.op = .call { callee := .builtin .append, args := #[s, x], argTypes := #[22, 22] })
    (B : Nat) (v u : Value) (xs ys : List Int) (hs : a.eval s = v) (hx : a.eval x = u) (hown : OwnI B w v xs) (hu : IntsAt w u ys)
    (hlen : xs.length + ys.length ≤ 17592186044416) (hB : B ≤ w.heap.size)
    (h : ∀ v' w', OwnI B w' v' (xs ++ ys) → Below B w w' → w.grownBy w' v.ownBlock → (v'.ownBlock = v.ownBlock ∨ ∃ k, v'.ownBlock = some k ∧ w.heap.size ≤ k) → K (a.put o.dst v') w') :
    if Region.wanted o (yielded ops a.tmps) = true then Oper.wp Tryd.prog o a w K Q else Ep := by
  have hw : Region.wanted o (yielded ops a.tmps) = true := by simp [Region.wanted, hgd]
  rw [if_pos hw]
  obtain ⟨v', w', hr, h2, h3, h4, h5⟩ := run_appI B o.type v u xs ys hown hu hlen hB
  unfold Oper.wp
  simp [execOp, ho, resolve, invoke, builtin, hs, hx, hr, Result.andThen]
  exact h v' w' h2 h3 h4 (h5.imp_right fun q => ⟨_, q, Nat.le_refl _⟩)
theorem Rows.appI {B : Nat} {w w' : World} {f : Names} {i : Nat × Nat} {v v' : Value} {xs ys : List Int} (h : Rows B w f) (hi : f i = some (rowI v xs)) (ho : OwnI B w' v' ys) (hg : w.grownBy w' v.ownBlock) (hb : v'.ownBlock = v.ownBlock ∨ ∃ k, v'.ownBlock = some k ∧ w.heap.size ≤ k) :
    ∃ f', Rows B w' f' ∧ f' i = some (rowI v' ys) ∧ ∀ j, j ≠ i → f' j = f j :=
  ⟨_, h.grown (r' := rowI v' ys) hi hg ho hb, upd_same _ _ _, fun _ e => upd_ne _ _ e⟩

set_option maxHeartbeats 16000000 in
theorem ts_bad (r : Nat → Addr) (k R : Int) (va : Option Addr) (vn vc : Nat) (T : List Int) (p : Int) (la : Option Addr) (ln lc : Nat) (ca : Option Addr) (cn cc : Nat) (qa : Option Addr) (qn qc : Nat) (L C Q : List Int) (aa : Option Addr) (an ac : Nat) (A : List Int) (ba : Option Addr) (bn bc : Nat) (D : List Int) (w : World) (hg : Glob r w) (h : IntsAt w (.slice va vn vc) T) (hL : IntsAt w (.slice la ln lc) L) (hC : IntsAt w (.slice ca cn cc) C) (hQ : IntsAt w (.slice qa qn qc) Q) (hA : IntsAt w (.slice aa an ac) A) (hD : IntsAt w (.slice ba bn bc) D) (t : Int × List (ByteArray × Int)) (hc : smallP k R T = some t) :
    Calls Tryd.prog 3 #[.agg #[.int .i64 k, .int .i64 R, .slice va vn vc], .agg #[.int .i64 p, .slice la ln lc, .slice ca cn cc, .slice qa qn qc], .slice aa an ac, .slice ba bn bc] w (Ret1 (fun x _ => x = .bool true) w) := by
  have b0 := Below.step (belowAlloc w (.cells #[.int .i64 k, .int .i64 R, .slice va vn vc] 24)) (belowAlloc _ (.cells #[.int .i64 p, .slice la ln lc, .slice ca cn cc, .slice qa qn qc] 26))
  have q : Box3 ((w.alloc (.cells #[.int .i64 k, .int .i64 R, .slice va vn vc] 24)).alloc (.cells #[.int .i64 p, .slice la ln lc, .slice ca cn cc, .slice qa qn qc] 26)) w.heap.size (.int .i64 k) (.int .i64 R) (.slice va vn vc) := by simp [Box3, go_sem]
  have y : Cells4 ((w.alloc (.cells #[.int .i64 k, .int .i64 R, .slice va vn vc] 24)).alloc (.cells #[.int .i64 p, .slice la ln lc, .slice ca cn cc, .slice qa qn qc] 26)) (w.heap.size + 1) (.int .i64 p) (.slice la ln lc) (.slice ca cn cc) (.slice qa qn qc) := by
    refine ⟨?_, ?_, ?_, ?_⟩ <;> simp [go_sem]
  obtain ⟨w0, hw0⟩ : ∃ W : World, ((w.alloc (.cells #[.int .i64 k, .int .i64 R, .slice va vn vc] 24)).alloc (.cells #[.int .i64 p, .slice la ln lc, .slice ca cn cc, .slice qa qn qc] 26)) = W := ⟨_, rfl⟩
  rw [hw0] at b0 q y
  have lA := hA.len
  replace hg := Lib.hid (hg.below b0)
  replace h := Lib.hid (h.below b0)
  replace hL := Lib.hid (hL.below b0)
  replace hC := Lib.hid (hC.below b0)
  replace hQ := Lib.hid (hQ.below b0)
  replace hA := Lib.hid (hA.below b0)
  replace hD := Lib.hid (hD.below b0)
  replace hw0 := Lib.hid hw0
  replace hc := Lib.hid hc
  have nn : ∀ w', (Builtin.len_ #[22] 3 #[.slice none 0 0]).run Tryd.prog w' = .ok (.int .i64 0) w' := (OwnI.nil 0 w).at.len
  go_enter Tryd.func3, Tryd.ntmps3
  go_upto_region 1 with fail
  rw [hw0.out]
  go_wp2_with fail
  refine (awake15 r _ hg.out).mono ?_
  rintro e w1 ⟨_, rfl, b1, rfl⟩
  obtain ⟨⟨z0, z1, z2⟩, -, -, -⟩ := q.below b1
  go_wp2_with fail
  refine (finite_bad r k R va vn vc T t w1 (hg.out.below b1) (h.out.below b1) hc.out).mono ?_
  rintro e w2 ⟨_, _, _, u, rfl, b2, rfl, rfl, rfl, hu⟩
  obtain ⟨T2, a2, rfl⟩ := ErrIs.some_shape (t := (t.1, (sTwins, 0) :: (sPairs, 0) :: t.2)) hu
  have bE := Below.step b0 (Below.step b1 b2)
  clear hu
  go_wp2
  go_ret
  exact ⟨_, rfl, bE, rfl⟩

set_option maxHeartbeats 16000000 in
theorem ts_ok (r : Nat → Addr) (K R : Nat) (va : Option Addr) (vn vc : Nat) (T : List Int) (p : Int) (la : Option Addr) (ln lc : Nat) (ca : Option Addr) (cn cc : Nat) (qa : Option Addr) (qn qc : Nat) (L C Q : List Int) (aa : Option Addr) (an ac : Nat) (A : List Int) (ba : Option Addr) (bn bc : Nat) (D : List Int) (w : World) (hg : Glob r w) (h : IntsAt w (.slice va vn vc) T) (hL : IntsAt w (.slice la ln lc) L) (hC : IntsAt w (.slice ca cn cc) C) (hQ : IntsAt w (.slice qa qn qc) Q) (hA : IntsAt w (.slice aa an ac) A) (hD : IntsAt w (.slice ba bn bc) D) (hr : RuleOk K R T) (hl : T.length ≤ 256) :
    Calls Tryd.prog 3 #[.agg #[.int .i64 K, .int .i64 R, .slice va vn vc], .agg #[.int .i64 p, .slice la ln lc, .slice ca cn cc, .slice qa qn qc], .slice aa an ac, .slice ba bn bc] w (Ret1 (fun x _ => x = .bool true) w) := by
  have b0 := Below.step (belowAlloc w (.cells #[.int .i64 K, .int .i64 R, .slice va vn vc] 24)) (belowAlloc _ (.cells #[.int .i64 p, .slice la ln lc, .slice ca cn cc, .slice qa qn qc] 26))
  have q : Box3 ((w.alloc (.cells #[.int .i64 K, .int .i64 R, .slice va vn vc] 24)).alloc (.cells #[.int .i64 p, .slice la ln lc, .slice ca cn cc, .slice qa qn qc] 26)) w.heap.size (.int .i64 K) (.int .i64 R) (.slice va vn vc) := by simp [Box3, go_sem]
  have y : Cells4 ((w.alloc (.cells #[.int .i64 K, .int .i64 R, .slice va vn vc] 24)).alloc (.cells #[.int .i64 p, .slice la ln lc, .slice ca cn cc, .slice qa qn qc] 26)) (w.heap.size + 1) (.int .i64 p) (.slice la ln lc) (.slice ca cn cc) (.slice qa qn qc) := by
    refine ⟨?_, ?_, ?_, ?_⟩ <;> simp [go_sem]
  obtain ⟨w0, hw0⟩ : ∃ W : World, ((w.alloc (.cells #[.int .i64 K, .int .i64 R, .slice va vn vc] 24)).alloc (.cells #[.int .i64 p, .slice la ln lc, .slice ca cn cc, .slice qa qn qc] 26)) = W := ⟨_, rfl⟩
  rw [hw0] at b0 q y
  have lA := hA.len
  replace hg := Lib.hid (hg.below b0)
  replace h := Lib.hid (h.below b0)
  replace hL := Lib.hid (hL.below b0)
  replace hC := Lib.hid (hC.below b0)
  replace hQ := Lib.hid (hQ.below b0)
  replace hA := Lib.hid (hA.below b0)
  replace hD := Lib.hid (hD.below b0)
  replace hw0 := Lib.hid hw0
  replace hr := Lib.hid hr
  go_enter Tryd.func3, Tryd.ntmps3
  go_upto_region 1 with fail
  rw [hw0.out]
  go_wp2_with fail
  refine (awake15 r _ hg.out).mono ?_
  rintro e w1 ⟨_, rfl, b1, rfl⟩
  obtain ⟨⟨z0, z1, z2⟩, -, -, -⟩ := q.below b1
  go_wp2_with fail
  refine (finite_ok r K R va vn vc T w1 (hg.out.below b1) (h.out.below b1) hr.out hl).mono ?_
  rintro e w2 ⟨yv, av, bv, ev, rfl, b2, rfl, hp⟩
  have c2 := Below.step b1 b2
  clear z0 z1 z2
  obtain ⟨⟨z0, z1, z2⟩, -, -, -⟩ := q.below c2
  have htc := tcheck_ok r K R va vn vc T (.slice aa an ac) A (.slice ba bn bc) D w2 (hg.out.below c2) (h.out.below c2) hr.out hl (hA.out.below c2) (hD.out.below c2)
  replace htc := Lib.hid htc
  have nn : ∀ w', (Builtin.len_ #[22] 3 #[.slice none 0 0]).run Tryd.prog w' = .ok (.int .i64 0) w' := (OwnI.nil 0 w).at.len
  rcases hp with ⟨rfl, rfl, rfl, hno⟩ | ⟨rfl, x1, x2, -, htw, hmin, hxb, hoa, hob, -⟩
  · replace hno := Lib.hid hno
    go_wp2_with fail
    refine htc.out.mono ?_
    rintro e w3 ⟨xe, rfl, b3, hxe⟩
    cases htp : twinsP sTwins K R (imgP K R T) A D with
    | none => exact absurd (twinsP_none htp).1 (hno.out _ _)
    | some t =>
      rw [htp] at hxe
      obtain ⟨T2, a2, rfl⟩ := ErrIs.some_shape hxe
      replace htp := Lib.hid htp
      replace hxe := Lib.hid hxe
      have bE := Below.step b0 (Below.step c2 b3)
      go_wp2
      go_ret
      exact ⟨_, rfl, bE, rfl⟩
  · have hmin2 := hmin.2
    have lX1 := hoa.at.len
    obtain ⟨ta, tn, tc, rfl⟩ := hoa.at.shape
    obtain ⟨sa, sn, sc, rfl⟩ := hob.at.shape
    replace hmin := Lib.hid hmin
    replace hmin2 := Lib.hid hmin2
    replace htw := Lib.hid htw
    replace hoa := Lib.hid hoa
    replace hob := Lib.hid hob
    replace hxb := Lib.hid hxb
    go_wp2_with fail
    refine htc.out.mono ?_
    rintro e wB ⟨xe, rfl, b3, hxe⟩
    have cB := Below.step c2 b3
    cases htp : twinsP sTwins K R (imgP K R T) A D with
    | none =>
      rw [htp] at hxe
      obtain rfl : xe = .nilIface := hxe
      obtain ⟨htA, hAl⟩ := twinsP_none htp
      have hle := hmin2.out _ _ htA
      have dle : decide ((A.length : Int) < (x1.length : Int)) = false := decide_eq_false (by omega)
      have hX := hA.out.below cB
      have hY := hD.out.below cB
      have hXb : A.length ≤ 100000 := by omega
      replace hXb := Lib.hid hXb
      replace htp := Lib.hid htp
      replace htA := Lib.hid htA
      replace hX := Lib.hid hX
      replace hY := Lib.hid hY
      clear z0 z1 z2
      obtain ⟨⟨z0, z1, z2⟩, -, -, -⟩ := q.below cB
      obtain ⟨y0, y1, y2, y3⟩ := y.below cB
      have lC := hC.out.len
      go_wp2_with fail
      refine (row_check r K p la ln lc ca cn cc qa qn qc L C Q wB (hg.out.below cB) (hL.out.below cB) (hC.out.below cB) (hQ.out.below cB)).mono ?_
      rintro e wA ⟨xe, rfl, bA0, hxe⟩
      have bA := Below.step cB bA0
      clear z0 z1 z2 y0 y1 y2 y3
      obtain ⟨⟨z0, z1, z2⟩, -, -, -⟩ := q.below bA
      obtain ⟨y0, y1, y2, y3⟩ := y.below bA
      cases hrp : rowP K p L C Q with
      | some t =>
        rw [hrp] at hxe
        obtain ⟨T2, a2, rfl⟩ := ErrIs.some_shape hxe
        replace hrp := Lib.hid hrp
        replace hxe := Lib.hid hxe
        have bE := Below.step b0 bA
        go_wp2
        go_ret
        exact ⟨_, rfl, bE, rfl⟩
      | none =>
        rw [hrp] at hxe
        obtain rfl : xe = .nilIface := hxe
        have hro : RowOk K p L C Q := by
          obtain ⟨K', e, hk⟩ := rowP_none hrp
          obtain rfl : K = K' := by omega
          exact hk
        have hcb := hro.c2
        replace hrp := Lib.hid hrp
        have hXb : A.length ≤ 100000 := hXb.out
        by_cases hsum : 9000 < C.length + A.length
        · have d1 : decide ((9000 : Int) < (C.length : Int) + (A.length : Int)) = true := decide_eq_true (by omega)
          have bE := Below.step b0 bA
          go_wp2
          go_ret
          exact ⟨_, rfl, bE, rfl⟩
        · have d1 : decide ((9000 : Int) < (C.length : Int) + (A.length : Int)) = false := decide_eq_false (by omega)
          by_cases hlow : p < -4000
          · have d2 : decide (p < -4000) = true := decide_eq_true hlow
            have bE := Below.step b0 bA
            go_wp2
            go_ret
            exact ⟨_, rfl, bE, rfl⟩
          · have d2 : decide (p < -4000) = false := decide_eq_false hlow
            have hXA := hX.out.below bA0
            have hYA := hY.out.below bA0
            have hlen := htA.out.len
            have lY := hYA.len
            replace hXA := Lib.hid hXA
            replace hYA := Lib.hid hYA
            have hCw := Lib.hid (hC.out.below bA)
            have yA := Lib.hid (y.below bA)
            have RA : Rows wA.heap.size wA (fun _ => Option.none) := Rows.void _ _
            obtain ⟨fA, hfA⟩ : ∃ fA : Names, (fun _ => Option.none) = fA := ⟨_, rfl⟩
            rw [hfA] at RA
            clear hfA
            replace RA := Lib.hid RA
            have hCl : C.length ≤ 17592186044416 := by omega
            have hCX : C.length + A.length ≤ 17592186044416 := by omega
            have hCY : C.length + D.length ≤ 17592186044416 := by omega
            have hsum2 : C.length + A.length ≤ 9000 := by omega
            have hlow2 : -4000 ≤ p := by omega
            replace hCX := Lib.hid hCX
            replace hCY := Lib.hid hCY
            replace hCl := Lib.hid hCl
            replace hsum2 := Lib.hid hsum2
            replace hlow2 := Lib.hid hlow2
            replace hlen := Lib.hid hlen
            replace hro := Lib.hid hro
            go_upto_region 15 with fail
            clear y0 y1 y2 y3 z0 z1 z2
            go_cut [14] from 82 (fun s14 wx => ∃ (g : Nat) (e1 : Option Addr) (e2 e3 : Nat) (f : Names), s14 = .pointer (some ⟨g, 0, none⟩) ∧ Below wA.heap.size wA wx ∧ Rows wA.heap.size wx f ∧ f (10, 0) = some (rowI (.slice e1 e2 e3) (C ++ A)) ∧ f (11, 0) = some (box4 26 g [.int .i64 p, .slice la ln lc, .slice e1 e2 e3, .slice qa qn qc]))
            case first =>
              obtain ⟨W0, hW0⟩ : ∃ W0 : World, W0 = wA.drew := ⟨_, rfl⟩
              have bW0 : Below wA.heap.size wA W0 := by rw [hW0]; exact (Below.refl wA.heap.size wA).drew
              have RW0 : Rows wA.heap.size W0 fA := by rw [hW0]; exact RA.out.drew
              have hB0 := bW0.size
              obtain ⟨y0, y1, y2, y3⟩ := yA.out.below (Below.refl wA.heap.size wA)
              have hS0 : W0.cell? ⟨w.heap.size + 1, 0, none⟩ = some (.int .i64 p) ∧ W0.cell? ⟨w.heap.size + 1, 1, none⟩ = some (.slice la ln lc) ∧ W0.cell? ⟨w.heap.size + 1, 2, none⟩ = some (.slice ca cn cc) ∧ W0.cell? ⟨w.heap.size + 1, 3, none⟩ = some (.slice qa qn qc) := by rw [hW0]; exact ⟨y0, y1, y2, y3⟩
              refine wp_region_noPanic ?_
              refine wp_region_any (by kernel_rfl) ?_
              change wpAny _ _ _ _ _ _ _ (World.drew _)
              rw [← hW0]
              clear hW0 y0 y1 y2 y3
              refine wpAny_of_held (S := fun w' => w'.cell? ⟨w.heap.size + 1, 0, none⟩ = some (.int .i64 p) ∧ w'.cell? ⟨w.heap.size + 1, 1, none⟩ = some (.slice la ln lc) ∧ w'.cell? ⟨w.heap.size + 1, 2, none⟩ = some (.slice ca cn cc) ∧ w'.cell? ⟨w.heap.size + 1, 3, none⟩ = some (.slice qa qn qc)) _ _ _ _ ?_
              refine takeD (i := 0) (v := ?_) (some 82) rfl rfl (by kernel_rfl) (by kernel_rfl) (by kernel_rfl) (fun _ _ _ h => h) (Or.inl ⟨by rfl, ?_⟩) hS0 ?_
              rotate_left
              · rintro W' ⟨s0, s1, s2, s3⟩; go_simp; try with_reducible rfl
              simp only [Act.put, List.setIfInBounds_toArray, List.set_cons_zero, List.set_cons_succ]
              refine takeD (i := 1) (v := ?_) (some 83) rfl rfl (by kernel_rfl) (by kernel_rfl) (by kernel_rfl) (fun _ _ _ h => h) (Or.inl ⟨by rfl, ?_⟩) hS0 ?_
              rotate_left
              · rintro W' ⟨s0, s1, s2, s3⟩; go_simp; try with_reducible rfl
              simp only [Act.put, List.setIfInBounds_toArray, List.set_cons_zero, List.set_cons_succ]
              refine takeD (i := 2) (v := ?_) (some 84) rfl rfl (by kernel_rfl) (by kernel_rfl) (by kernel_rfl) (fun _ _ _ h => h) (Or.inl ⟨by rfl, ?_⟩) hS0 ?_
              rotate_left
              · rintro W' ⟨s0, s1, s2, s3⟩; go_simp; try with_reducible rfl
              simp only [Act.put, List.setIfInBounds_toArray, List.set_cons_zero, List.set_cons_succ]
              refine takeD (i := 3) (v := ?_) (some 85) rfl rfl (by kernel_rfl) (by kernel_rfl) (by kernel_rfl) (fun _ _ _ h => h) (Or.inl ⟨by rfl, ?_⟩) hS0 ?_
              rotate_left
              · rintro W' ⟨s0, s1, s2, s3⟩; go_simp; try with_reducible rfl
              simp only [Act.put, List.setIfInBounds_toArray, List.set_cons_zero, List.set_cons_succ]
              refine takeD (i := 4) (v := ?_) (some 86) rfl rfl (by kernel_rfl) (by kernel_rfl) (by kernel_rfl) (fun _ _ _ h => h) (Or.inl ⟨by rfl, ?_⟩) hS0 ?_
              rotate_left
              · rintro W' ⟨s0, s1, s2, s3⟩; go_simp; try with_reducible rfl
              simp only [Act.put, List.setIfInBounds_toArray, List.set_cons_zero, List.set_cons_succ]
              refine takeD (i := 5) (v := ?_) (some 87) rfl rfl (by kernel_rfl) (by kernel_rfl) (by kernel_rfl) (fun _ _ _ h => h) (Or.inl ⟨by rfl, ?_⟩) hS0 ?_
              rotate_left
              · rintro W' ⟨s0, s1, s2, s3⟩; go_simp; try with_reducible rfl
              simp only [Act.put, List.setIfInBounds_toArray, List.set_cons_zero, List.set_cons_succ]
              refine takeD (i := 7) (v := ?_) (some 89) rfl rfl (by kernel_rfl) (by kernel_rfl) (by kernel_rfl) (fun _ _ _ h => h) (Or.inl ⟨by rfl, ?_⟩) hS0 ?_
              rotate_left
              · rintro W' ⟨s0, s1, s2, s3⟩; go_simp; try with_reducible rfl
              simp only [Act.put, List.setIfInBounds_toArray, List.set_cons_zero, List.set_cons_succ]
              refine takeD (i := 9) (v := ?_) (some 91) rfl rfl (by kernel_rfl) (by kernel_rfl) (by kernel_rfl) (fun _ _ _ h => h) (Or.inl ⟨by rfl, ?_⟩) hS0 ?_
              rotate_left
              · rintro W' ⟨s0, s1, s2, s3⟩; go_simp; try with_reducible rfl
              simp only [Act.put, List.setIfInBounds_toArray, List.set_cons_zero, List.set_cons_succ]
              refine takeD (i := 10) (v := ?_) (some 92) rfl rfl (by kernel_rfl) (by kernel_rfl) (by kernel_rfl) (fun _ _ _ h => h) (Or.inl ⟨by rfl, ?_⟩) hS0 ?_
              rotate_left
              · rintro W' ⟨s0, s1, s2, s3⟩; go_simp; try with_reducible rfl
              simp only [Act.put, List.setIfInBounds_toArray, List.set_cons_zero, List.set_cons_succ]
              refine wpAnyH_ready (rs := [6, 12]) (by kernel_rfl) (by simp) (AllReadyH.cons rfl (fun KK hK => ?_) (AllReadyH.cons rfl (fun KK hK => ?_) (AllReadyH.nil)))
              · go_simp
                refine (copy_any (.slice ca cn cc) C W0 (hCw.out.below bW0) hCl.out).mono ?_
                rintro e W1 ⟨ev, rfl, bb, hv⟩
                obtain ⟨f1, RW1, n100, oo⟩ := RW0.addE (10, 0) (r' := rowI ev C) bb (hv.mono hB0) (fun k hk => (hv.lt k hk).1)
                obtain ⟨e1, e2, e3, rfl⟩ := hv.at.shape
                clear hv
                have bW1 := bW0.trans (bb.mono hB0)
                have hB1 := bW1.size
                have hS1 : W1.cell? ⟨w.heap.size + 1, 0, none⟩ = some (.int .i64 p) ∧ W1.cell? ⟨w.heap.size + 1, 1, none⟩ = some (.slice la ln lc) ∧ W1.cell? ⟨w.heap.size + 1, 2, none⟩ = some (.slice ca cn cc) ∧ W1.cell? ⟨w.heap.size + 1, 3, none⟩ = some (.slice qa qn qc) := by obtain ⟨j0, j1, j2, j3⟩ := yA.out.below bW1; exact ⟨j0, j1, j2, j3⟩
                refine hK.out _ _ hS1 fun _ => ?_
                clear hK KK bb RW0 oo
                refine wpAnyH_ready (rs := [8, 12]) (by kernel_rfl) (by simp) (AllReadyH.cons rfl (fun KK hK => ?_) (AllReadyH.cons rfl (fun KK hK => ?_) (AllReadyH.nil)))
                · refine step_appIH rfl _ _ rfl wA.heap.size (.slice e1 e2 e3) (.slice aa an ac) C A rfl rfl (RW1.ownI n100) (hXA.out.below bW1) hCX.out hB1 ?_
                  intro ev W2 ho bb hgr hob
                  obtain ⟨f2, RW2, mm, oo⟩ := RW1.appI n100 ho hgr hob
                  clear n100
                  have n100 := mm
                  obtain ⟨e1, e2, e3, rfl⟩ := ho.at.shape
                  clear ho hgr hob mm
                  have bW2 := bW1.trans bb
                  have hB2 := bW2.size
                  have hS2 : W2.cell? ⟨w.heap.size + 1, 0, none⟩ = some (.int .i64 p) ∧ W2.cell? ⟨w.heap.size + 1, 1, none⟩ = some (.slice la ln lc) ∧ W2.cell? ⟨w.heap.size + 1, 2, none⟩ = some (.slice ca cn cc) ∧ W2.cell? ⟨w.heap.size + 1, 3, none⟩ = some (.slice qa qn qc) := by obtain ⟨j0, j1, j2, j3⟩ := yA.out.below bW2; exact ⟨j0, j1, j2, j3⟩
                  refine hK.out _ _ hS2 fun _ => ?_
                  clear hK KK bb RW1 oo
                  refine takeD (i := 11) (v := ?_) (some 93) rfl rfl (by kernel_rfl) (by kernel_rfl) (by kernel_rfl) (fun _ _ _ h => h) (Or.inl ⟨by rfl, ?_⟩) hS2 ?_
                  rotate_left
                  · rintro W' ⟨s0, s1, s2, s3⟩; go_simp; try with_reducible rfl
                  simp only [Act.put, List.setIfInBounds_toArray]
                  refine wpAnyH_ready (rs := [12]) (by kernel_rfl) (by simp) (AllReadyH.cons rfl (fun KK hK => ?_) (AllReadyH.nil))
                  · go_simp
                    obtain ⟨f3, RW3, n110, oo⟩ := RW2.box4 (11, 0) hB2 26 (.int .i64 0) (.slice none 0 0) (.slice none 0 0) (.slice none 0 0)
                    replace n100 := (oo (10, 0) (by decide)).trans n100
                    have bb := belowAlloc W2 (.cells #[.int .i64 0, .slice none 0 0, .slice none 0 0, .slice none 0 0] 26)
                    obtain ⟨gb, hgb⟩ : ∃ g, W2.heap.size = g := ⟨_, rfl⟩
                    obtain ⟨W3, hW3⟩ : ∃ W' : World, W2.alloc (.cells #[.int .i64 0, .slice none 0 0, .slice none 0 0, .slice none 0 0] 26) = W' := ⟨_, rfl⟩
                    rw [hW3] at RW3 bb
                    have bW3 := bW2.trans (bb.mono hB2)
                    have hB3 := bW3.size
                    have hS3 : W3.cell? ⟨w.heap.size + 1, 0, none⟩ = some (.int .i64 p) ∧ W3.cell? ⟨w.heap.size + 1, 1, none⟩ = some (.slice la ln lc) ∧ W3.cell? ⟨w.heap.size + 1, 2, none⟩ = some (.slice ca cn cc) ∧ W3.cell? ⟨w.heap.size + 1, 3, none⟩ = some (.slice qa qn qc) := by obtain ⟨j0, j1, j2, j3⟩ := yA.out.below bW3; exact ⟨j0, j1, j2, j3⟩
                    rw [hW3, hgb]
                    rw [hgb] at n110
                    replace hW3 := Lib.hid hW3
                    replace hgb := Lib.hid hgb
                    refine hK.out _ _ hS3 fun _ => ?_
                    clear hK KK bb RW2 oo
                    obtain ⟨t0, t1, t2, t3⟩ := RW3.cells4 n110
                    have ft0 := RW3.frz4 n110 0
                    have ft1 := RW3.frz4 n110 1
                    have ft2 := RW3.frz4 n110 2
                    have ft3 := RW3.frz4 n110 3
                    have lt := (RW3.low4 n110)
                    obtain ⟨f4, RW4, mm, oo⟩ := RW3.all4 n110 (.int .i64 p) (.slice la ln lc) (.slice e1 e2 e3) (.slice qa qn qc)
                    replace n100 := (oo (10, 0) (by decide)).trans n100
                    clear n110
                    have n110 := mm
                    have bW4 := Below.all4 (g := gb) bW3 lt.1 (.int .i64 p) (.slice la ln lc) (.slice e1 e2 e3) (.slice qa qn qc)
                    obtain ⟨W4, hW4⟩ : ∃ W' : World, (((W3.setCell ⟨gb, 0, none⟩ (.int .i64 p)).setCell ⟨gb, 1, none⟩ (.slice la ln lc)).setCell ⟨gb, 2, none⟩ (.slice e1 e2 e3)).setCell ⟨gb, 3, none⟩ (.slice qa qn qc) = W' := ⟨_, rfl⟩
                    rw [hW4] at RW4 bW4
                    have hS4 : W4.cell? ⟨w.heap.size + 1, 0, none⟩ = some (.int .i64 p) ∧ W4.cell? ⟨w.heap.size + 1, 1, none⟩ = some (.slice la ln lc) ∧ W4.cell? ⟨w.heap.size + 1, 2, none⟩ = some (.slice ca cn cc) ∧ W4.cell? ⟨w.heap.size + 1, 3, none⟩ = some (.slice qa qn qc) := by obtain ⟨j0, j1, j2, j3⟩ := yA.out.below bW4; exact ⟨j0, j1, j2, j3⟩
                    replace hW4 := Lib.hid hW4
                    refine wpAnyH_ready (rs := [13]) (by kernel_rfl) (by simp) (AllReadyH.cons rfl (fun KK hK => ?_) AllReadyH.nil)
                    go_simp
                    rw [hW4.out]
                    refine hK.out _ _ hS4 fun _ => ?_
                    clear hK KK t0 t1 t2 t3 ft0 ft1 ft2 ft3 mm oo lt RW3 hW4
                    refine wpAnyH_done (by kernel_rfl) ?_ _
                    refine NoPanic.normal ?_
                    replace n100 := Lib.hid n100
                    replace n110 := Lib.hid n110
                    replace RW4 := Lib.hid RW4
                    go_wp2
                    go_meet
                    case rel => exact ⟨gb, e1, e2, e3, f4, rfl, bW4, RW4.out, n100.out, n110.out⟩
                · go_simp
                  obtain ⟨f5, RW5, n110, oo⟩ := RW1.box4 (11, 0) hB1 26 (.int .i64 0) (.slice none 0 0) (.slice none 0 0) (.slice none 0 0)
                  replace n100 := (oo (10, 0) (by decide)).trans n100
                  have bb := belowAlloc W1 (.cells #[.int .i64 0, .slice none 0 0, .slice none 0 0, .slice none 0 0] 26)
                  obtain ⟨gb, hgb⟩ : ∃ g, W1.heap.size = g := ⟨_, rfl⟩
                  obtain ⟨W5, hW5⟩ : ∃ W' : World, W1.alloc (.cells #[.int .i64 0, .slice none 0 0, .slice none 0 0, .slice none 0 0] 26) = W' := ⟨_, rfl⟩
                  rw [hW5] at RW5 bb
                  have bW5 := bW1.trans (bb.mono hB1)
                  have hB5 := bW5.size
                  have hS5 : W5.cell? ⟨w.heap.size + 1, 0, none⟩ = some (.int .i64 p) ∧ W5.cell? ⟨w.heap.size + 1, 1, none⟩ = some (.slice la ln lc) ∧ W5.cell? ⟨w.heap.size + 1, 2, none⟩ = some (.slice ca cn cc) ∧ W5.cell? ⟨w.heap.size + 1, 3, none⟩ = some (.slice qa qn qc) := by obtain ⟨j0, j1, j2, j3⟩ := yA.out.below bW5; exact ⟨j0, j1, j2, j3⟩
                  rw [hW5, hgb]
                  rw [hgb] at n110
                  replace hW5 := Lib.hid hW5
                  replace hgb := Lib.hid hgb
                  refine hK.out _ _ hS5 fun _ => ?_
                  clear hK KK bb RW1 oo
                  refine wpAnyH_ready (rs := [8]) (by kernel_rfl) (by simp) (AllReadyH.cons rfl (fun KK hK => ?_) (AllReadyH.nil))
                  · refine step_appIH rfl _ _ rfl wA.heap.size (.slice e1 e2 e3) (.slice aa an ac) C A rfl rfl (RW5.ownI n100) (hXA.out.below bW5) hCX.out hB5 ?_
                    intro ev W6 ho bb hgr hob
                    obtain ⟨f6, RW6, mm, oo⟩ := RW5.appI n100 ho hgr hob
                    replace n110 := (oo (11, 0) (by decide)).trans n110
                    clear n100
                    have n100 := mm
                    obtain ⟨e1, e2, e3, rfl⟩ := ho.at.shape
                    clear ho hgr hob mm
                    have bW6 := bW5.trans bb
                    have hB6 := bW6.size
                    have hS6 : W6.cell? ⟨w.heap.size + 1, 0, none⟩ = some (.int .i64 p) ∧ W6.cell? ⟨w.heap.size + 1, 1, none⟩ = some (.slice la ln lc) ∧ W6.cell? ⟨w.heap.size + 1, 2, none⟩ = some (.slice ca cn cc) ∧ W6.cell? ⟨w.heap.size + 1, 3, none⟩ = some (.slice qa qn qc) := by obtain ⟨j0, j1, j2, j3⟩ := yA.out.below bW6; exact ⟨j0, j1, j2, j3⟩
                    refine hK.out _ _ hS6 fun _ => ?_
                    clear hK KK bb RW5 oo
                    refine takeD (i := 11) (v := ?_) (some 93) rfl rfl (by kernel_rfl) (by kernel_rfl) (by kernel_rfl) (fun _ _ _ h => h) (Or.inl ⟨by rfl, ?_⟩) hS6 ?_
                    rotate_left
                    · rintro W' ⟨s0, s1, s2, s3⟩; go_simp; try with_reducible rfl
                    simp only [Act.put, List.setIfInBounds_toArray]
                    obtain ⟨t0, t1, t2, t3⟩ := RW6.cells4 n110
                    have ft0 := RW6.frz4 n110 0
                    have ft1 := RW6.frz4 n110 1
                    have ft2 := RW6.frz4 n110 2
                    have ft3 := RW6.frz4 n110 3
                    have lt := (RW6.low4 n110)
                    obtain ⟨f7, RW7, mm, oo⟩ := RW6.all4 n110 (.int .i64 p) (.slice la ln lc) (.slice e1 e2 e3) (.slice qa qn qc)
                    replace n100 := (oo (10, 0) (by decide)).trans n100
                    clear n110
                    have n110 := mm
                    have bW7 := Below.all4 (g := gb) bW6 lt.1 (.int .i64 p) (.slice la ln lc) (.slice e1 e2 e3) (.slice qa qn qc)
                    obtain ⟨W7, hW7⟩ : ∃ W' : World, (((W6.setCell ⟨gb, 0, none⟩ (.int .i64 p)).setCell ⟨gb, 1, none⟩ (.slice la ln lc)).setCell ⟨gb, 2, none⟩ (.slice e1 e2 e3)).setCell ⟨gb, 3, none⟩ (.slice qa qn qc) = W' := ⟨_, rfl⟩
                    rw [hW7] at RW7 bW7
                    have hS7 : W7.cell? ⟨w.heap.size + 1, 0, none⟩ = some (.int .i64 p) ∧ W7.cell? ⟨w.heap.size + 1, 1, none⟩ = some (.slice la ln lc) ∧ W7.cell? ⟨w.heap.size + 1, 2, none⟩ = some (.slice ca cn cc) ∧ W7.cell? ⟨w.heap.size + 1, 3, none⟩ = some (.slice qa qn qc) := by obtain ⟨j0, j1, j2, j3⟩ := yA.out.below bW7; exact ⟨j0, j1, j2, j3⟩
                    replace hW7 := Lib.hid hW7
                    refine wpAnyH_ready (rs := [13]) (by kernel_rfl) (by simp) (AllReadyH.cons rfl (fun KK hK => ?_) AllReadyH.nil)
                    go_simp
                    rw [hW7.out]
                    refine hK.out _ _ hS7 fun _ => ?_
                    clear hK KK t0 t1 t2 t3 ft0 ft1 ft2 ft3 mm oo lt RW6 hW7
                    refine wpAnyH_done (by kernel_rfl) ?_ _
                    refine NoPanic.normal ?_
                    replace n100 := Lib.hid n100
                    replace n110 := Lib.hid n110
                    replace RW7 := Lib.hid RW7
                    go_wp2
                    go_meet
                    case rel => exact ⟨gb, e1, e2, e3, f7, rfl, bW7, RW7.out, n100.out, n110.out⟩
              · go_simp
                obtain ⟨f8, RW8, n110, oo⟩ := RW0.box4 (11, 0) hB0 26 (.int .i64 0) (.slice none 0 0) (.slice none 0 0) (.slice none 0 0)
                have bb := belowAlloc W0 (.cells #[.int .i64 0, .slice none 0 0, .slice none 0 0, .slice none 0 0] 26)
                obtain ⟨gb, hgb⟩ : ∃ g, W0.heap.size = g := ⟨_, rfl⟩
                obtain ⟨W8, hW8⟩ : ∃ W' : World, W0.alloc (.cells #[.int .i64 0, .slice none 0 0, .slice none 0 0, .slice none 0 0] 26) = W' := ⟨_, rfl⟩
                rw [hW8] at RW8 bb
                have bW8 := bW0.trans (bb.mono hB0)
                have hB8 := bW8.size
                have hS8 : W8.cell? ⟨w.heap.size + 1, 0, none⟩ = some (.int .i64 p) ∧ W8.cell? ⟨w.heap.size + 1, 1, none⟩ = some (.slice la ln lc) ∧ W8.cell? ⟨w.heap.size + 1, 2, none⟩ = some (.slice ca cn cc) ∧ W8.cell? ⟨w.heap.size + 1, 3, none⟩ = some (.slice qa qn qc) := by obtain ⟨j0, j1, j2, j3⟩ := yA.out.below bW8; exact ⟨j0, j1, j2, j3⟩
                rw [hW8, hgb]
                rw [hgb] at n110
                replace hW8 := Lib.hid hW8
                replace hgb := Lib.hid hgb
                refine hK.out _ _ hS8 fun _ => ?_
                clear hK KK bb RW0 oo
                refine wpAnyH_ready (rs := [6]) (by kernel_rfl) (by simp) (AllReadyH.cons rfl (fun KK hK => ?_) (AllReadyH.nil))
                · go_simp
                  refine (copy_any (.slice ca cn cc) C W8 (hCw.out.below bW8) hCl.out).mono ?_
                  rintro e W9 ⟨ev, rfl, bb, hv⟩
                  obtain ⟨f9, RW9, n100, oo⟩ := RW8.addE (10, 0) (r' := rowI ev C) bb (hv.mono hB8) (fun k hk => (hv.lt k hk).1)
                  replace n110 := (oo (11, 0) (by decide)).trans n110
                  obtain ⟨e1, e2, e3, rfl⟩ := hv.at.shape
                  clear hv
                  have bW9 := bW8.trans (bb.mono hB8)
                  have hB9 := bW9.size
                  have hS9 : W9.cell? ⟨w.heap.size + 1, 0, none⟩ = some (.int .i64 p) ∧ W9.cell? ⟨w.heap.size + 1, 1, none⟩ = some (.slice la ln lc) ∧ W9.cell? ⟨w.heap.size + 1, 2, none⟩ = some (.slice ca cn cc) ∧ W9.cell? ⟨w.heap.size + 1, 3, none⟩ = some (.slice qa qn qc) := by obtain ⟨j0, j1, j2, j3⟩ := yA.out.below bW9; exact ⟨j0, j1, j2, j3⟩
                  refine hK.out _ _ hS9 fun _ => ?_
                  clear hK KK bb RW8 oo
                  refine wpAnyH_ready (rs := [8]) (by kernel_rfl) (by simp) (AllReadyH.cons rfl (fun KK hK => ?_) (AllReadyH.nil))
                  · refine step_appIH rfl _ _ rfl wA.heap.size (.slice e1 e2 e3) (.slice aa an ac) C A rfl rfl (RW9.ownI n100) (hXA.out.below bW9) hCX.out hB9 ?_
                    intro ev W10 ho bb hgr hob
                    obtain ⟨f10, RW10, mm, oo⟩ := RW9.appI n100 ho hgr hob
                    replace n110 := (oo (11, 0) (by decide)).trans n110
                    clear n100
                    have n100 := mm
                    obtain ⟨e1, e2, e3, rfl⟩ := ho.at.shape
                    clear ho hgr hob mm
                    have bW10 := bW9.trans bb
                    have hB10 := bW10.size
                    have hS10 : W10.cell? ⟨w.heap.size + 1, 0, none⟩ = some (.int .i64 p) ∧ W10.cell? ⟨w.heap.size + 1, 1, none⟩ = some (.slice la ln lc) ∧ W10.cell? ⟨w.heap.size + 1, 2, none⟩ = some (.slice ca cn cc) ∧ W10.cell? ⟨w.heap.size + 1, 3, none⟩ = some (.slice qa qn qc) := by obtain ⟨j0, j1, j2, j3⟩ := yA.out.below bW10; exact ⟨j0, j1, j2, j3⟩
                    refine hK.out _ _ hS10 fun _ => ?_
                    clear hK KK bb RW9 oo
                    refine takeD (i := 11) (v := ?_) (some 93) rfl rfl (by kernel_rfl) (by kernel_rfl) (by kernel_rfl) (fun _ _ _ h => h) (Or.inl ⟨by rfl, ?_⟩) hS10 ?_
                    rotate_left
                    · rintro W' ⟨s0, s1, s2, s3⟩; go_simp; try with_reducible rfl
                    simp only [Act.put, List.setIfInBounds_toArray]
                    obtain ⟨t0, t1, t2, t3⟩ := RW10.cells4 n110
                    have ft0 := RW10.frz4 n110 0
                    have ft1 := RW10.frz4 n110 1
                    have ft2 := RW10.frz4 n110 2
                    have ft3 := RW10.frz4 n110 3
                    have lt := (RW10.low4 n110)
                    obtain ⟨f11, RW11, mm, oo⟩ := RW10.all4 n110 (.int .i64 p) (.slice la ln lc) (.slice e1 e2 e3) (.slice qa qn qc)
                    replace n100 := (oo (10, 0) (by decide)).trans n100
                    clear n110
                    have n110 := mm
                    have bW11 := Below.all4 (g := gb) bW10 lt.1 (.int .i64 p) (.slice la ln lc) (.slice e1 e2 e3) (.slice qa qn qc)
                    obtain ⟨W11, hW11⟩ : ∃ W' : World, (((W10.setCell ⟨gb, 0, none⟩ (.int .i64 p)).setCell ⟨gb, 1, none⟩ (.slice la ln lc)).setCell ⟨gb, 2, none⟩ (.slice e1 e2 e3)).setCell ⟨gb, 3, none⟩ (.slice qa qn qc) = W' := ⟨_, rfl⟩
                    rw [hW11] at RW11 bW11
                    have hS11 : W11.cell? ⟨w.heap.size + 1, 0, none⟩ = some (.int .i64 p) ∧ W11.cell? ⟨w.heap.size + 1, 1, none⟩ = some (.slice la ln lc) ∧ W11.cell? ⟨w.heap.size + 1, 2, none⟩ = some (.slice ca cn cc) ∧ W11.cell? ⟨w.heap.size + 1, 3, none⟩ = some (.slice qa qn qc) := by obtain ⟨j0, j1, j2, j3⟩ := yA.out.below bW11; exact ⟨j0, j1, j2, j3⟩
                    replace hW11 := Lib.hid hW11
                    refine wpAnyH_ready (rs := [13]) (by kernel_rfl) (by simp) (AllReadyH.cons rfl (fun KK hK => ?_) AllReadyH.nil)
                    go_simp
                    rw [hW11.out]
                    refine hK.out _ _ hS11 fun _ => ?_
                    clear hK KK t0 t1 t2 t3 ft0 ft1 ft2 ft3 mm oo lt RW10 hW11
                    refine wpAnyH_done (by kernel_rfl) ?_ _
                    refine NoPanic.normal ?_
                    replace n100 := Lib.hid n100
                    replace n110 := Lib.hid n110
                    replace RW11 := Lib.hid RW11
                    go_wp2
                    go_meet
                    case rel => exact ⟨gb, e1, e2, e3, f11, rfl, bW11, RW11.out, n100.out, n110.out⟩
            case rest =>
              obtain ⟨g1, e1, e2, e3, f1, rfl, bC, RC, n100, n110⟩ := hcut
              obtain ⟨wC, rfl⟩ : ∃ wC : World, wC = wc := ⟨_, rfl⟩
              replace RC := Lib.hid RC
              have n100' := Lib.hid n100
              have n110' := Lib.hid n110
              clear n100 n110
              go_upto_region 16 with fail
              go_cut [15] from 94 (fun s15 wx => ∃ (g : Nat) (u1 : Option Addr) (u2 u3 : Nat) (f : Names), s15 = .pointer (some ⟨g, 0, none⟩) ∧ Below wA.heap.size wA wx ∧ Rows wA.heap.size wx f ∧ f (20, 0) = some (rowI (.slice u1 u2 u3) (C ++ D)) ∧ f (21, 0) = some (box4 26 g [.int .i64 p, .slice la ln lc, .slice u1 u2 u3, .slice qa qn qc]) ∧ f (10, 0) = some (rowI (.slice e1 e2 e3) (C ++ A)) ∧ f (11, 0) = some (box4 26 g1 [.int .i64 p, .slice la ln lc, .slice e1 e2 e3, .slice qa qn qc]))
              case first =>
                obtain ⟨W0, hW0⟩ : ∃ W0 : World, W0 = wC.drew := ⟨_, rfl⟩
                have bW0 : Below wA.heap.size wA W0 := by rw [hW0]; exact bC.drew
                have RW0 : Rows wA.heap.size W0 f1 := by rw [hW0]; exact RC.out.drew
                have hB0 := bW0.size
                obtain ⟨y0, y1, y2, y3⟩ := yA.out.below bC
                have hS0 : W0.cell? ⟨w.heap.size + 1, 0, none⟩ = some (.int .i64 p) ∧ W0.cell? ⟨w.heap.size + 1, 1, none⟩ = some (.slice la ln lc) ∧ W0.cell? ⟨w.heap.size + 1, 2, none⟩ = some (.slice ca cn cc) ∧ W0.cell? ⟨w.heap.size + 1, 3, none⟩ = some (.slice qa qn qc) := by rw [hW0]; exact ⟨y0, y1, y2, y3⟩
                have n100 := n100'.out
                have n110 := n110'.out
                refine wp_region_noPanic ?_
                refine wp_region_any (by kernel_rfl) ?_
                change wpAny _ _ _ _ _ _ _ (World.drew _)
                rw [← hW0]
                clear hW0 y0 y1 y2 y3
                refine wpAny_of_held (S := fun w' => w'.cell? ⟨w.heap.size + 1, 0, none⟩ = some (.int .i64 p) ∧ w'.cell? ⟨w.heap.size + 1, 1, none⟩ = some (.slice la ln lc) ∧ w'.cell? ⟨w.heap.size + 1, 2, none⟩ = some (.slice ca cn cc) ∧ w'.cell? ⟨w.heap.size + 1, 3, none⟩ = some (.slice qa qn qc)) _ _ _ _ ?_
                refine takeD (i := 0) (v := ?_) (some 94) rfl rfl (by kernel_rfl) (by kernel_rfl) (by kernel_rfl) (fun _ _ _ h => h) (Or.inl ⟨by rfl, ?_⟩) hS0 ?_
                rotate_left
                · rintro W' ⟨s0, s1, s2, s3⟩; go_simp; try with_reducible rfl
                simp only [Act.put, List.setIfInBounds_toArray, List.set_cons_zero, List.set_cons_succ]
                refine takeD (i := 1) (v := ?_) (some 95) rfl rfl (by kernel_rfl) (by kernel_rfl) (by kernel_rfl) (fun _ _ _ h => h) (Or.inl ⟨by rfl, ?_⟩) hS0 ?_
                rotate_left
                · rintro W' ⟨s0, s1, s2, s3⟩; go_simp; try with_reducible rfl
                simp only [Act.put, List.setIfInBounds_toArray, List.set_cons_zero, List.set_cons_succ]
                refine takeD (i := 2) (v := ?_) (some 96) rfl rfl (by kernel_rfl) (by kernel_rfl) (by kernel_rfl) (fun _ _ _ h => h) (Or.inl ⟨by rfl, ?_⟩) hS0 ?_
                rotate_left
                · rintro W' ⟨s0, s1, s2, s3⟩; go_simp; try with_reducible rfl
                simp only [Act.put, List.setIfInBounds_toArray, List.set_cons_zero, List.set_cons_succ]
                refine takeD (i := 3) (v := ?_) (some 97) rfl rfl (by kernel_rfl) (by kernel_rfl) (by kernel_rfl) (fun _ _ _ h => h) (Or.inl ⟨by rfl, ?_⟩) hS0 ?_
                rotate_left
                · rintro W' ⟨s0, s1, s2, s3⟩; go_simp; try with_reducible rfl
                simp only [Act.put, List.setIfInBounds_toArray, List.set_cons_zero, List.set_cons_succ]
                refine takeD (i := 4) (v := ?_) (some 98) rfl rfl (by kernel_rfl) (by kernel_rfl) (by kernel_rfl) (fun _ _ _ h => h) (Or.inl ⟨by rfl, ?_⟩) hS0 ?_
                rotate_left
                · rintro W' ⟨s0, s1, s2, s3⟩; go_simp; try with_reducible rfl
                simp only [Act.put, List.setIfInBounds_toArray, List.set_cons_zero, List.set_cons_succ]
                refine takeD (i := 5) (v := ?_) (some 99) rfl rfl (by kernel_rfl) (by kernel_rfl) (by kernel_rfl) (fun _ _ _ h => h) (Or.inl ⟨by rfl, ?_⟩) hS0 ?_
                rotate_left
                · rintro W' ⟨s0, s1, s2, s3⟩; go_simp; try with_reducible rfl
                simp only [Act.put, List.setIfInBounds_toArray, List.set_cons_zero, List.set_cons_succ]
                refine takeD (i := 7) (v := ?_) (some 101) rfl rfl (by kernel_rfl) (by kernel_rfl) (by kernel_rfl) (fun _ _ _ h => h) (Or.inl ⟨by rfl, ?_⟩) hS0 ?_
                rotate_left
                · rintro W' ⟨s0, s1, s2, s3⟩; go_simp; try with_reducible rfl
                simp only [Act.put, List.setIfInBounds_toArray, List.set_cons_zero, List.set_cons_succ]
                refine takeD (i := 9) (v := ?_) (some 103) rfl rfl (by kernel_rfl) (by kernel_rfl) (by kernel_rfl) (fun _ _ _ h => h) (Or.inl ⟨by rfl, ?_⟩) hS0 ?_
                rotate_left
                · rintro W' ⟨s0, s1, s2, s3⟩; go_simp; try with_reducible rfl
                simp only [Act.put, List.setIfInBounds_toArray, List.set_cons_zero, List.set_cons_succ]
                refine takeD (i := 10) (v := ?_) (some 104) rfl rfl (by kernel_rfl) (by kernel_rfl) (by kernel_rfl) (fun _ _ _ h => h) (Or.inl ⟨by rfl, ?_⟩) hS0 ?_
                rotate_left
                · rintro W' ⟨s0, s1, s2, s3⟩; go_simp; try with_reducible rfl
                simp only [Act.put, List.setIfInBounds_toArray, List.set_cons_zero, List.set_cons_succ]
                refine wpAnyH_ready (rs := [6, 12]) (by kernel_rfl) (by simp) (AllReadyH.cons rfl (fun KK hK => ?_) (AllReadyH.cons rfl (fun KK hK => ?_) (AllReadyH.nil)))
                · go_simp
                  refine (copy_any (.slice ca cn cc) C W0 (hCw.out.below bW0) hCl.out).mono ?_
                  rintro e W1 ⟨ev, rfl, bb, hv⟩
                  obtain ⟨f1, RW1, n200, oo⟩ := RW0.addE (20, 0) (r' := rowI ev C) bb (hv.mono hB0) (fun k hk => (hv.lt k hk).1)
                  replace n100 := (oo (10, 0) (by decide)).trans n100
                  replace n110 := (oo (11, 0) (by decide)).trans n110
                  obtain ⟨u1, u2, u3, rfl⟩ := hv.at.shape
                  clear hv
                  have bW1 := bW0.trans (bb.mono hB0)
                  have hB1 := bW1.size
                  have hS1 : W1.cell? ⟨w.heap.size + 1, 0, none⟩ = some (.int .i64 p) ∧ W1.cell? ⟨w.heap.size + 1, 1, none⟩ = some (.slice la ln lc) ∧ W1.cell? ⟨w.heap.size + 1, 2, none⟩ = some (.slice ca cn cc) ∧ W1.cell? ⟨w.heap.size + 1, 3, none⟩ = some (.slice qa qn qc) := by obtain ⟨j0, j1, j2, j3⟩ := yA.out.below bW1; exact ⟨j0, j1, j2, j3⟩
                  refine hK.out _ _ hS1 fun _ => ?_
                  clear hK KK bb RW0 oo
                  refine wpAnyH_ready (rs := [8, 12]) (by kernel_rfl) (by simp) (AllReadyH.cons rfl (fun KK hK => ?_) (AllReadyH.cons rfl (fun KK hK => ?_) (AllReadyH.nil)))
                  · refine step_appIH rfl _ _ rfl wA.heap.size (.slice u1 u2 u3) (.slice ba bn bc) C D rfl rfl (RW1.ownI n200) (hYA.out.below bW1) hCY.out hB1 ?_
                    intro ev W2 ho bb hgr hob
                    obtain ⟨f2, RW2, mm, oo⟩ := RW1.appI n200 ho hgr hob
                    replace n100 := (oo (10, 0) (by decide)).trans n100
                    replace n110 := (oo (11, 0) (by decide)).trans n110
                    clear n200
                    have n200 := mm
                    obtain ⟨u1, u2, u3, rfl⟩ := ho.at.shape
                    clear ho hgr hob mm
                    have bW2 := bW1.trans bb
                    have hB2 := bW2.size
                    have hS2 : W2.cell? ⟨w.heap.size + 1, 0, none⟩ = some (.int .i64 p) ∧ W2.cell? ⟨w.heap.size + 1, 1, none⟩ = some (.slice la ln lc) ∧ W2.cell? ⟨w.heap.size + 1, 2, none⟩ = some (.slice ca cn cc) ∧ W2.cell? ⟨w.heap.size + 1, 3, none⟩ = some (.slice qa qn qc) := by obtain ⟨j0, j1, j2, j3⟩ := yA.out.below bW2; exact ⟨j0, j1, j2, j3⟩
                    refine hK.out _ _ hS2 fun _ => ?_
                    clear hK KK bb RW1 oo
                    refine takeD (i := 11) (v := ?_) (some 105) rfl rfl (by kernel_rfl) (by kernel_rfl) (by kernel_rfl) (fun _ _ _ h => h) (Or.inl ⟨by rfl, ?_⟩) hS2 ?_
                    rotate_left
                    · rintro W' ⟨s0, s1, s2, s3⟩; go_simp; try with_reducible rfl
                    simp only [Act.put, List.setIfInBounds_toArray]
                    refine wpAnyH_ready (rs := [12]) (by kernel_rfl) (by simp) (AllReadyH.cons rfl (fun KK hK => ?_) (AllReadyH.nil))
                    · go_simp
                      obtain ⟨f3, RW3, n210, oo⟩ := RW2.box4 (21, 0) hB2 26 (.int .i64 0) (.slice none 0 0) (.slice none 0 0) (.slice none 0 0)
                      replace n100 := (oo (10, 0) (by decide)).trans n100
                      replace n110 := (oo (11, 0) (by decide)).trans n110
                      replace n200 := (oo (20, 0) (by decide)).trans n200
                      have bb := belowAlloc W2 (.cells #[.int .i64 0, .slice none 0 0, .slice none 0 0, .slice none 0 0] 26)
                      obtain ⟨gb, hgb⟩ : ∃ g, W2.heap.size = g := ⟨_, rfl⟩
                      obtain ⟨W3, hW3⟩ : ∃ W' : World, W2.alloc (.cells #[.int .i64 0, .slice none 0 0, .slice none 0 0, .slice none 0 0] 26) = W' := ⟨_, rfl⟩
                      rw [hW3] at RW3 bb
                      have bW3 := bW2.trans (bb.mono hB2)
                      have hB3 := bW3.size
                      have hS3 : W3.cell? ⟨w.heap.size + 1, 0, none⟩ = some (.int .i64 p) ∧ W3.cell? ⟨w.heap.size + 1, 1, none⟩ = some (.slice la ln lc) ∧ W3.cell? ⟨w.heap.size + 1, 2, none⟩ = some (.slice ca cn cc) ∧ W3.cell? ⟨w.heap.size + 1, 3, none⟩ = some (.slice qa qn qc) := by obtain ⟨j0, j1, j2, j3⟩ := yA.out.below bW3; exact ⟨j0, j1, j2, j3⟩
                      rw [hW3, hgb]
                      rw [hgb] at n210
                      replace hW3 := Lib.hid hW3
                      replace hgb := Lib.hid hgb
                      refine hK.out _ _ hS3 fun _ => ?_
                      clear hK KK bb RW2 oo
                      obtain ⟨t0, t1, t2, t3⟩ := RW3.cells4 n210
                      have ft0 := RW3.frz4 n210 0
                      have ft1 := RW3.frz4 n210 1
                      have ft2 := RW3.frz4 n210 2
                      have ft3 := RW3.frz4 n210 3
                      have lt := (RW3.low4 n210)
                      obtain ⟨f4, RW4, mm, oo⟩ := RW3.all4 n210 (.int .i64 p) (.slice la ln lc) (.slice u1 u2 u3) (.slice qa qn qc)
                      replace n100 := (oo (10, 0) (by decide)).trans n100
                      replace n110 := (oo (11, 0) (by decide)).trans n110
                      replace n200 := (oo (20, 0) (by decide)).trans n200
                      clear n210
                      have n210 := mm
                      have bW4 := Below.all4 (g := gb) bW3 lt.1 (.int .i64 p) (.slice la ln lc) (.slice u1 u2 u3) (.slice qa qn qc)
                      obtain ⟨W4, hW4⟩ : ∃ W' : World, (((W3.setCell ⟨gb, 0, none⟩ (.int .i64 p)).setCell ⟨gb, 1, none⟩ (.slice la ln lc)).setCell ⟨gb, 2, none⟩ (.slice u1 u2 u3)).setCell ⟨gb, 3, none⟩ (.slice qa qn qc) = W' := ⟨_, rfl⟩
                      rw [hW4] at RW4 bW4
                      have hS4 : W4.cell? ⟨w.heap.size + 1, 0, none⟩ = some (.int .i64 p) ∧ W4.cell? ⟨w.heap.size + 1, 1, none⟩ = some (.slice la ln lc) ∧ W4.cell? ⟨w.heap.size + 1, 2, none⟩ = some (.slice ca cn cc) ∧ W4.cell? ⟨w.heap.size + 1, 3, none⟩ = some (.slice qa qn qc) := by obtain ⟨j0, j1, j2, j3⟩ := yA.out.below bW4; exact ⟨j0, j1, j2, j3⟩
                      replace hW4 := Lib.hid hW4
                      refine wpAnyH_ready (rs := [13]) (by kernel_rfl) (by simp) (AllReadyH.cons rfl (fun KK hK => ?_) AllReadyH.nil)
                      go_simp
                      rw [hW4.out]
                      refine hK.out _ _ hS4 fun _ => ?_
                      clear hK KK t0 t1 t2 t3 ft0 ft1 ft2 ft3 mm oo lt RW3 hW4
                      refine wpAnyH_done (by kernel_rfl) ?_ _
                      refine NoPanic.normal ?_
                      replace n200 := Lib.hid n200
                      replace n210 := Lib.hid n210
                      replace n100 := Lib.hid n100
                      replace n110 := Lib.hid n110
                      replace RW4 := Lib.hid RW4
                      go_wp2
                      go_meet
                      case rel => exact ⟨gb, u1, u2, u3, f4, rfl, bW4, RW4.out, n200.out, n210.out, n100.out, n110.out⟩
                  · go_simp
                    obtain ⟨f5, RW5, n210, oo⟩ := RW1.box4 (21, 0) hB1 26 (.int .i64 0) (.slice none 0 0) (.slice none 0 0) (.slice none 0 0)
                    replace n100 := (oo (10, 0) (by decide)).trans n100
                    replace n110 := (oo (11, 0) (by decide)).trans n110
                    replace n200 := (oo (20, 0) (by decide)).trans n200
                    have bb := belowAlloc W1 (.cells #[.int .i64 0, .slice none 0 0, .slice none 0 0, .slice none 0 0] 26)
                    obtain ⟨gb, hgb⟩ : ∃ g, W1.heap.size = g := ⟨_, rfl⟩
                    obtain ⟨W5, hW5⟩ : ∃ W' : World, W1.alloc (.cells #[.int .i64 0, .slice none 0 0, .slice none 0 0, .slice none 0 0] 26) = W' := ⟨_, rfl⟩
                    rw [hW5] at RW5 bb
                    have bW5 := bW1.trans (bb.mono hB1)
                    have hB5 := bW5.size
                    have hS5 : W5.cell? ⟨w.heap.size + 1, 0, none⟩ = some (.int .i64 p) ∧ W5.cell? ⟨w.heap.size + 1, 1, none⟩ = some (.slice la ln lc) ∧ W5.cell? ⟨w.heap.size + 1, 2, none⟩ = some (.slice ca cn cc) ∧ W5.cell? ⟨w.heap.size + 1, 3, none⟩ = some (.slice qa qn qc) := by obtain ⟨j0, j1, j2, j3⟩ := yA.out.below bW5; exact ⟨j0, j1, j2, j3⟩
                    rw [hW5, hgb]
                    rw [hgb] at n210
                    replace hW5 := Lib.hid hW5
                    replace hgb := Lib.hid hgb
                    refine hK.out _ _ hS5 fun _ => ?_
                    clear hK KK bb RW1 oo
                    refine wpAnyH_ready (rs := [8]) (by kernel_rfl) (by simp) (AllReadyH.cons rfl (fun KK hK => ?_) (AllReadyH.nil))
                    · refine step_appIH rfl _ _ rfl wA.heap.size (.slice u1 u2 u3) (.slice ba bn bc) C D rfl rfl (RW5.ownI n200) (hYA.out.below bW5) hCY.out hB5 ?_
                      intro ev W6 ho bb hgr hob
                      obtain ⟨f6, RW6, mm, oo⟩ := RW5.appI n200 ho hgr hob
                      replace n100 := (oo (10, 0) (by decide)).trans n100
                      replace n110 := (oo (11, 0) (by decide)).trans n110
                      replace n210 := (oo (21, 0) (by decide)).trans n210
                      clear n200
                      have n200 := mm
                      obtain ⟨u1, u2, u3, rfl⟩ := ho.at.shape
                      clear ho hgr hob mm
                      have bW6 := bW5.trans bb
                      have hB6 := bW6.size
                      have hS6 : W6.cell? ⟨w.heap.size + 1, 0, none⟩ = some (.int .i64 p) ∧ W6.cell? ⟨w.heap.size + 1, 1, none⟩ = some (.slice la ln lc) ∧ W6.cell? ⟨w.heap.size + 1, 2, none⟩ = some (.slice ca cn cc) ∧ W6.cell? ⟨w.heap.size + 1, 3, none⟩ = some (.slice qa qn qc) := by obtain ⟨j0, j1, j2, j3⟩ := yA.out.below bW6; exact ⟨j0, j1, j2, j3⟩
                      refine hK.out _ _ hS6 fun _ => ?_
                      clear hK KK bb RW5 oo
                      refine takeD (i := 11) (v := ?_) (some 105) rfl rfl (by kernel_rfl) (by kernel_rfl) (by kernel_rfl) (fun _ _ _ h => h) (Or.inl ⟨by rfl, ?_⟩) hS6 ?_
                      rotate_left
                      · rintro W' ⟨s0, s1, s2, s3⟩; go_simp; try with_reducible rfl
                      simp only [Act.put, List.setIfInBounds_toArray]
                      obtain ⟨t0, t1, t2, t3⟩ := RW6.cells4 n210
                      have ft0 := RW6.frz4 n210 0
                      have ft1 := RW6.frz4 n210 1
                      have ft2 := RW6.frz4 n210 2
                      have ft3 := RW6.frz4 n210 3
                      have lt := (RW6.low4 n210)
                      obtain ⟨f7, RW7, mm, oo⟩ := RW6.all4 n210 (.int .i64 p) (.slice la ln lc) (.slice u1 u2 u3) (.slice qa qn qc)
                      replace n100 := (oo (10, 0) (by decide)).trans n100
                      replace n110 := (oo (11, 0) (by decide)).trans n110
                      replace n200 := (oo (20, 0) (by decide)).trans n200
                      clear n210
                      have n210 := mm
                      have bW7 := Below.all4 (g := gb) bW6 lt.1 (.int .i64 p) (.slice la ln lc) (.slice u1 u2 u3) (.slice qa qn qc)
                      obtain ⟨W7, hW7⟩ : ∃ W' : World, (((W6.setCell ⟨gb, 0, none⟩ (.int .i64 p)).setCell ⟨gb, 1, none⟩ (.slice la ln lc)).setCell ⟨gb, 2, none⟩ (.slice u1 u2 u3)).setCell ⟨gb, 3, none⟩ (.slice qa qn qc) = W' := ⟨_, rfl⟩
                      rw [hW7] at RW7 bW7
                      have hS7 : W7.cell? ⟨w.heap.size + 1, 0, none⟩ = some (.int .i64 p) ∧ W7.cell? ⟨w.heap.size + 1, 1, none⟩ = some (.slice la ln lc) ∧ W7.cell? ⟨w.heap.size + 1, 2, none⟩ = some (.slice ca cn cc) ∧ W7.cell? ⟨w.heap.size + 1, 3, none⟩ = some (.slice qa qn qc) := by obtain ⟨j0, j1, j2, j3⟩ := yA.out.below bW7; exact ⟨j0, j1, j2, j3⟩
                      replace hW7 := Lib.hid hW7
                      refine wpAnyH_ready (rs := [13]) (by kernel_rfl) (by simp) (AllReadyH.cons rfl (fun KK hK => ?_) AllReadyH.nil)
                      go_simp
                      rw [hW7.out]
                      refine hK.out _ _ hS7 fun _ => ?_
                      clear hK KK t0 t1 t2 t3 ft0 ft1 ft2 ft3 mm oo lt RW6 hW7
                      refine wpAnyH_done (by kernel_rfl) ?_ _
                      refine NoPanic.normal ?_
                      replace n200 := Lib.hid n200
                      replace n210 := Lib.hid n210
                      replace n100 := Lib.hid n100
                      replace n110 := Lib.hid n110
                      replace RW7 := Lib.hid RW7
                      go_wp2
                      go_meet
                      case rel => exact ⟨gb, u1, u2, u3, f7, rfl, bW7, RW7.out, n200.out, n210.out, n100.out, n110.out⟩
                · go_simp
                  obtain ⟨f8, RW8, n210, oo⟩ := RW0.box4 (21, 0) hB0 26 (.int .i64 0) (.slice none 0 0) (.slice none 0 0) (.slice none 0 0)
                  replace n100 := (oo (10, 0) (by decide)).trans n100
                  replace n110 := (oo (11, 0) (by decide)).trans n110
                  have bb := belowAlloc W0 (.cells #[.int .i64 0, .slice none 0 0, .slice none 0 0, .slice none 0 0] 26)
                  obtain ⟨gb, hgb⟩ : ∃ g, W0.heap.size = g := ⟨_, rfl⟩
                  obtain ⟨W8, hW8⟩ : ∃ W' : World, W0.alloc (.cells #[.int .i64 0, .slice none 0 0, .slice none 0 0, .slice none 0 0] 26) = W' := ⟨_, rfl⟩
                  rw [hW8] at RW8 bb
                  have bW8 := bW0.trans (bb.mono hB0)
                  have hB8 := bW8.size
                  have hS8 : W8.cell? ⟨w.heap.size + 1, 0, none⟩ = some (.int .i64 p) ∧ W8.cell? ⟨w.heap.size + 1, 1, none⟩ = some (.slice la ln lc) ∧ W8.cell? ⟨w.heap.size + 1, 2, none⟩ = some (.slice ca cn cc) ∧ W8.cell? ⟨w.heap.size + 1, 3, none⟩ = some (.slice qa qn qc) := by obtain ⟨j0, j1, j2, j3⟩ := yA.out.below bW8; exact ⟨j0, j1, j2, j3⟩
                  rw [hW8, hgb]
                  rw [hgb] at n210
                  replace hW8 := Lib.hid hW8
                  replace hgb := Lib.hid hgb
                  refine hK.out _ _ hS8 fun _ => ?_
                  clear hK KK bb RW0 oo
                  refine wpAnyH_ready (rs := [6]) (by kernel_rfl) (by simp) (AllReadyH.cons rfl (fun KK hK => ?_) (AllReadyH.nil))
                  · go_simp
                    refine (copy_any (.slice ca cn cc) C W8 (hCw.out.below bW8) hCl.out).mono ?_
                    rintro e W9 ⟨ev, rfl, bb, hv⟩
                    obtain ⟨f9, RW9, n200, oo⟩ := RW8.addE (20, 0) (r' := rowI ev C) bb (hv.mono hB8) (fun k hk => (hv.lt k hk).1)
                    replace n100 := (oo (10, 0) (by decide)).trans n100
                    replace n110 := (oo (11, 0) (by decide)).trans n110
                    replace n210 := (oo (21, 0) (by decide)).trans n210
                    obtain ⟨u1, u2, u3, rfl⟩ := hv.at.shape
                    clear hv
                    have bW9 := bW8.trans (bb.mono hB8)
                    have hB9 := bW9.size
                    have hS9 : W9.cell? ⟨w.heap.size + 1, 0, none⟩ = some (.int .i64 p) ∧ W9.cell? ⟨w.heap.size + 1, 1, none⟩ = some (.slice la ln lc) ∧ W9.cell? ⟨w.heap.size + 1, 2, none⟩ = some (.slice ca cn cc) ∧ W9.cell? ⟨w.heap.size + 1, 3, none⟩ = some (.slice qa qn qc) := by obtain ⟨j0, j1, j2, j3⟩ := yA.out.below bW9; exact ⟨j0, j1, j2, j3⟩
                    refine hK.out _ _ hS9 fun _ => ?_
                    clear hK KK bb RW8 oo
                    refine wpAnyH_ready (rs := [8]) (by kernel_rfl) (by simp) (AllReadyH.cons rfl (fun KK hK => ?_) (AllReadyH.nil))
                    · refine step_appIH rfl _ _ rfl wA.heap.size (.slice u1 u2 u3) (.slice ba bn bc) C D rfl rfl (RW9.ownI n200) (hYA.out.below bW9) hCY.out hB9 ?_
                      intro ev W10 ho bb hgr hob
                      obtain ⟨f10, RW10, mm, oo⟩ := RW9.appI n200 ho hgr hob
                      replace n100 := (oo (10, 0) (by decide)).trans n100
                      replace n110 := (oo (11, 0) (by decide)).trans n110
                      replace n210 := (oo (21, 0) (by decide)).trans n210
                      clear n200
                      have n200 := mm
                      obtain ⟨u1, u2, u3, rfl⟩ := ho.at.shape
                      clear ho hgr hob mm
                      have bW10 := bW9.trans bb
                      have hB10 := bW10.size
                      have hS10 : W10.cell? ⟨w.heap.size + 1, 0, none⟩ = some (.int .i64 p) ∧ W10.cell? ⟨w.heap.size + 1, 1, none⟩ = some (.slice la ln lc) ∧ W10.cell? ⟨w.heap.size + 1, 2, none⟩ = some (.slice ca cn cc) ∧ W10.cell? ⟨w.heap.size + 1, 3, none⟩ = some (.slice qa qn qc) := by obtain ⟨j0, j1, j2, j3⟩ := yA.out.below bW10; exact ⟨j0, j1, j2, j3⟩
                      refine hK.out _ _ hS10 fun _ => ?_
                      clear hK KK bb RW9 oo
                      refine takeD (i := 11) (v := ?_) (some 105) rfl rfl (by kernel_rfl) (by kernel_rfl) (by kernel_rfl) (fun _ _ _ h => h) (Or.inl ⟨by rfl, ?_⟩) hS10 ?_
                      rotate_left
                      · rintro W' ⟨s0, s1, s2, s3⟩; go_simp; try with_reducible rfl
                      simp only [Act.put, List.setIfInBounds_toArray]
                      obtain ⟨t0, t1, t2, t3⟩ := RW10.cells4 n210
                      have ft0 := RW10.frz4 n210 0
                      have ft1 := RW10.frz4 n210 1
                      have ft2 := RW10.frz4 n210 2
                      have ft3 := RW10.frz4 n210 3
                      have lt := (RW10.low4 n210)
                      obtain ⟨f11, RW11, mm, oo⟩ := RW10.all4 n210 (.int .i64 p) (.slice la ln lc) (.slice u1 u2 u3) (.slice qa qn qc)
                      replace n100 := (oo (10, 0) (by decide)).trans n100
                      replace n110 := (oo (11, 0) (by decide)).trans n110
                      replace n200 := (oo (20, 0) (by decide)).trans n200
                      clear n210
                      have n210 := mm
                      have bW11 := Below.all4 (g := gb) bW10 lt.1 (.int .i64 p) (.slice la ln lc) (.slice u1 u2 u3) (.slice qa qn qc)
                      obtain ⟨W11, hW11⟩ : ∃ W' : World, (((W10.setCell ⟨gb, 0, none⟩ (.int .i64 p)).setCell ⟨gb, 1, none⟩ (.slice la ln lc)).setCell ⟨gb, 2, none⟩ (.slice u1 u2 u3)).setCell ⟨gb, 3, none⟩ (.slice qa qn qc) = W' := ⟨_, rfl⟩
                      rw [hW11] at RW11 bW11
                      have hS11 : W11.cell? ⟨w.heap.size + 1, 0, none⟩ = some (.int .i64 p) ∧ W11.cell? ⟨w.heap.size + 1, 1, none⟩ = some (.slice la ln lc) ∧ W11.cell? ⟨w.heap.size + 1, 2, none⟩ = some (.slice ca cn cc) ∧ W11.cell? ⟨w.heap.size + 1, 3, none⟩ = some (.slice qa qn qc) := by obtain ⟨j0, j1, j2, j3⟩ := yA.out.below bW11; exact ⟨j0, j1, j2, j3⟩
                      replace hW11 := Lib.hid hW11
                      refine wpAnyH_ready (rs := [13]) (by kernel_rfl) (by simp) (AllReadyH.cons rfl (fun KK hK => ?_) AllReadyH.nil)
                      go_simp
                      rw [hW11.out]
                      refine hK.out _ _ hS11 fun _ => ?_
                      clear hK KK t0 t1 t2 t3 ft0 ft1 ft2 ft3 mm oo lt RW10 hW11
                      refine wpAnyH_done (by kernel_rfl) ?_ _
                      refine NoPanic.normal ?_
                      replace n200 := Lib.hid n200
                      replace n210 := Lib.hid n210
                      replace n100 := Lib.hid n100
                      replace n110 := Lib.hid n110
                      replace RW11 := Lib.hid RW11
                      go_wp2
                      go_meet
                      case rel => exact ⟨gb, u1, u2, u3, f11, rfl, bW11, RW11.out, n200.out, n210.out, n100.out, n110.out⟩
              case rest =>
                obtain ⟨g2, u1, u2, u3, f2, rfl, bD, RD, n200, n210, n100, n110⟩ := hcut
                obtain ⟨wD, rfl⟩ : ∃ wD : World, wD = wc := ⟨_, rfl⟩
                have cD := bA.trans (bD.mono bA.size)
                obtain ⟨⟨z0, z1, z2⟩, -, -, -⟩ := q.below cD
                have T1 := RD.cells4 n110
                have T2 := RD.cells4 n210
                have iX := (RD.ownI n100).at
                have iY := (RD.ownI n200).at
                clear n100' n110' n200 n210 n100 n110 RC RD RA
                have hR3 := hr.out.r3
                have hroo := hro.out
                have hcx : (C ++ A).length = C.length + A.length := List.length_append
                have hcy : (C ++ D).length = (C ++ A).length := by rw [List.length_append, List.length_append, htA.out.len]
                have hs9 := hsum2.out
                have hl9 := hlow2.out
                have hroX : RowOk K p L (C ++ A) Q := ⟨hroo.k1, hroo.k4, hroo.p1, hroo.p2, hroo.l1, hroo.l2, hroo.q1, hroo.q2, by omega, hroo.sL, fun s hs => (List.mem_append.1 hs).elim (hroo.sC s) (htA.out.sa s), hroo.sQ⟩
                have hroY : RowOk K p L (C ++ D) Q := ⟨hroo.k1, hroo.k4, hroo.p1, hroo.p2, hroo.l1, hroo.l2, hroo.q1, hroo.q2, by omega, hroo.sL, fun s hs => (List.mem_append.1 hs).elim (hroo.sC s) (htA.out.sb s), hroo.sQ⟩
                have hp2 := hroo.p2
                have hl1 := hroo.l1
                have hl2 := hroo.l2
                have hq1 := hroo.q1
                have hq2 := hroo.q2
                have hsame := row_same r p K la ln lc e1 e2 e3 qa qn qc L (C ++ A) Q la ln lc u1 u2 u3 qa qn qc L (C ++ D) Q wD (hg.out.below cD) (hL.out.below cD) iX (hQ.out.below cD) (hL.out.below cD) iY (hQ.out.below cD) rfl hcy rfl hroX hroY
                rw [decide_eq_false (piece_ne htA.out.len htA.out.ne (by omega) (by omega))] at hsame
                have himg : imgP K R T (pieceP p L (C ++ A) Q (p - R - L.length - R) (L.length + ((C ++ A).length + 2 * R) + Q.length + 2 * R)) = imgP K R T (pieceP p L (C ++ D) Q (p - R - L.length - R) (L.length + ((C ++ A).length + 2 * R) + Q.length + 2 * R)) := twins_piece htA.out (by omega) (by omega)
                have hIl : (imgP K R T (pieceP p L (C ++ A) Q (p - R - L.length - R) (L.length + ((C ++ A).length + 2 * R) + Q.length + 2 * R))).length = L.length + ((C ++ A).length + 2 * R) + Q.length := by rw [imgP_length, pieceP_len]; omega
                have hIs : Syms K (imgP K R T (pieceP p L (C ++ A) Q (p - R - L.length - R) (L.length + ((C ++ A).length + 2 * R) + Q.length + 2 * R))) := imgP_syms hroo.k1 hr.out.syms
                have stX := fun (w' : World) (hb : Below wD.heap.size wD w') => row_step r p K R va vn vc T la ln lc e1 e2 e3 qa qn qc L (C ++ A) Q w' (hg.out.below (Below.step cD hb)) (h.out.below (Below.step cD hb)) hr.out (hL.out.below (Below.step cD hb)) (iX.below hb) (hQ.out.below (Below.step cD hb)) hroX (by omega) (by omega)
                have stY := fun (w' : World) (hb : Below wD.heap.size wD w') => row_step r p K R va vn vc T la ln lc u1 u2 u3 qa qn qc L (C ++ D) Q w' (hg.out.below (Below.step cD hb)) (h.out.below (Below.step cD hb)) hr.out (hL.out.below (Below.step cD hb)) (iY.below hb) (hQ.out.below (Below.step cD hb)) hroY (by omega) (by omega)
                unfold StepPost at stX stY
                rw [hcy, ← himg] at stY
                obtain ⟨I, hI⟩ : ∃ I, imgP K R T (pieceP p L (C ++ A) Q (p - R - L.length - R) (L.length + ((C ++ A).length + 2 * R) + Q.length + 2 * R)) = I := ⟨_, rfl⟩
                rw [hI] at stX stY hIl hIs
                obtain ⟨n, hn⟩ : ∃ n, (C ++ A).length + 2 * R = n := ⟨_, rfl⟩
                rw [hn] at stX stY hIl
                have g1l : (I.take L.length).length = L.length := by rw [List.length_take]; omega
                have g2l : ((I.drop L.length).take n).length = n := by rw [List.length_take, List.length_drop]; omega
                have g3l : (I.drop (L.length + n)).length = Q.length := by rw [List.length_drop]; omega
                have hroI : RowOk K (p - (R : Int)) (I.take L.length) ((I.drop L.length).take n) (I.drop (L.length + n)) := ⟨hroo.k1, hroo.k4, by omega, by omega, by omega, by omega, by omega, by omega, by omega, syms_take hIs _, syms_take (syms_drop hIs _) _, syms_drop hIs _⟩
                obtain ⟨I1, hI1⟩ : ∃ I1, I.take L.length = I1 := ⟨_, rfl⟩
                obtain ⟨I2, hI2⟩ : ∃ I2, (I.drop L.length).take n = I2 := ⟨_, rfl⟩
                obtain ⟨I3, hI3⟩ : ∃ I3, I.drop (L.length + n) = I3 := ⟨_, rfl⟩
                rw [hI1, hI2, hI3] at stX stY hroI
                obtain ⟨a9, ha9⟩ : ∃ a9, p - (R : Int) = a9 := ⟨_, rfl⟩
                rw [ha9] at stX stY hroI
                have T1' := Lib.hid T1
                have T2' := Lib.hid T2
                replace hsame := Lib.hid hsame
                replace stX := Lib.hid stX
                replace stY := Lib.hid stY
                replace hroI := Lib.hid hroI
                replace hroX := Lib.hid hroX
                replace hroY := Lib.hid hroY
                replace himg := Lib.hid himg
                replace hI := Lib.hid hI
                replace hI1 := Lib.hid hI1
                replace hI2 := Lib.hid hI2
                replace hI3 := Lib.hid hI3
                replace hn := Lib.hid hn
                replace hIl := Lib.hid hIl
                replace hIs := Lib.hid hIs
                replace g1l := Lib.hid g1l
                replace g2l := Lib.hid g2l
                replace g3l := Lib.hid g3l
                replace ha9 := Lib.hid ha9
                replace iX := Lib.hid iX
                replace iY := Lib.hid iY
                replace hcx := Lib.hid hcx
                replace hcy := Lib.hid hcy
                replace hs9 := Lib.hid hs9
                replace hl9 := Lib.hid hl9
                replace hroo := Lib.hid hroo
                replace hR3 := Lib.hid hR3
                obtain ⟨t0, t1, t2, t3⟩ := T1
                obtain ⟨t4, t5, t6, t7⟩ := T2
                go_wp2_with fail
                refine hsame.out.mono ?_
                rintro e wE ⟨_, _, rfl, bE, rfl, rfl⟩
                have cE := Below.step cD bE
                clear z0 z1 z2 t0 t1 t2 t3 t4 t5 t6 t7
                obtain ⟨⟨z0, z1, z2⟩, -, -, -⟩ := q.below cE
                obtain ⟨t0, t1, t2, t3⟩ := T1'.out.below bE
                go_wp2_with fail
                refine (stX.out wE bE).mono ?_
                rintro e wF ⟨_, _, rfl, bF, rfl, v1, v2, v3, rfl, o1, o2, o3⟩
                obtain ⟨v1a, v1n, v1c, rfl⟩ := o1.at.shape
                obtain ⟨v2a, v2n, v2c, rfl⟩ := o2.at.shape
                obtain ⟨v3a, v3n, v3c, rfl⟩ := o3.at.shape
                have V4 := Cells4.alloc wF 26 (.int .i64 a9) (.slice v1a v1n v1c) (.slice v2a v2n v2c) (.slice v3a v3n v3c)
                have bG := belowAlloc wF (.cells #[.int .i64 a9, .slice v1a v1n v1c, .slice v2a v2n v2c, .slice v3a v3n v3c] 26)
                obtain ⟨wG, hwG⟩ : ∃ W : World, wF.alloc (.cells #[.int .i64 a9, .slice v1a v1n v1c, .slice v2a v2n v2c, .slice v3a v3n v3c] 26) = W := ⟨_, rfl⟩
                obtain ⟨gG, hgG⟩ : ∃ g, wF.heap.size = g := ⟨_, rfl⟩
                rw [hwG] at V4 bG
                rw [hgG] at V4
                replace o1 := Lib.hid o1.at
                replace o2 := Lib.hid o2.at
                replace o3 := Lib.hid o3.at
                replace hwG := Lib.hid hwG
                replace hgG := Lib.hid hgG
                have bFG := Below.step bF bG
                have bDG := Below.step bE bFG
                have cG := Below.step cE bFG
                clear z0 z1 z2 t0 t1 t2 t3
                obtain ⟨⟨z0, z1, z2⟩, -, -, -⟩ := q.below cG
                obtain ⟨t4, t5, t6, t7⟩ := T2'.out.below bDG
                go_upto_region 19 with fail
                rw [hwG.out, hgG.out]
                go_wp2_with fail
                refine (stY.out wG bDG).mono ?_
                rintro e wH ⟨_, _, rfl, bH, rfl, m1, m2, m3, rfl, r1, r2, r3⟩
                obtain ⟨m1a, m1n, m1c, rfl⟩ := r1.at.shape
                obtain ⟨m2a, m2n, m2c, rfl⟩ := r2.at.shape
                obtain ⟨m3a, m3n, m3c, rfl⟩ := r3.at.shape
                have M4 := Cells4.alloc wH 26 (.int .i64 a9) (.slice m1a m1n m1c) (.slice m2a m2n m2c) (.slice m3a m3n m3c)
                have bI := belowAlloc wH (.cells #[.int .i64 a9, .slice m1a m1n m1c, .slice m2a m2n m2c, .slice m3a m3n m3c] 26)
                obtain ⟨wI, hwI⟩ : ∃ W : World, wH.alloc (.cells #[.int .i64 a9, .slice m1a m1n m1c, .slice m2a m2n m2c, .slice m3a m3n m3c] 26) = W := ⟨_, rfl⟩
                obtain ⟨gI, hgI⟩ : ∃ g, wH.heap.size = g := ⟨_, rfl⟩
                rw [hwI] at M4 bI
                rw [hgI] at M4
                have bGI := Below.step bH bI
                have cI := Below.step cG bGI
                have last := row_same r a9 K v1a v1n v1c v2a v2n v2c v3a v3n v3c I1 I2 I3 m1a m1n m1c m2a m2n m2c m3a m3n m3c I1 I2 I3 wI (hg.out.below cI) (o1.out.below (Below.step bG bGI)) (o2.out.below (Below.step bG bGI)) (o3.out.below (Below.step bG bGI)) (r1.at.below bI) (r2.at.below bI) (r3.at.below bI) rfl rfl rfl hroI.out hroI.out
                rw [decide_eq_true rfl] at last
                replace last := Lib.hid last
                replace hwI := Lib.hid hwI
                replace hgI := Lib.hid hgI
                clear z0 z1 z2 t4 t5 t6 t7 r1 r2 r3
                obtain ⟨⟨z0, z1, z2⟩, -, -, -⟩ := q.below cI
                obtain ⟨t0, t1, t2, t3⟩ := V4.below bGI
                obtain ⟨t4, t5, t6, t7⟩ := M4
                go_upto_region 20 with fail
                rw [hwI.out, hgI.out]
                go_wp2_with fail
                refine last.out.mono ?_
                rintro e wJ ⟨_, _, rfl, bJ, rfl, rfl⟩
                have bEnd := Below.step b0 (Below.step cI bJ)
                go_wp2
                go_ret
                exact ⟨_, rfl, bEnd, rfl⟩
    | some t =>
      rw [htp] at hxe
      obtain ⟨T2, a2, rfl⟩ := ErrIs.some_shape hxe
      have hX := hoa.out.at.below b3
      have hY := hob.out.at.below b3
      have hXb : x1.length ≤ 100000 := by have := hxb.out; omega
      replace hXb := Lib.hid hXb
      replace htp := Lib.hid htp
      replace hxe := Lib.hid hxe
      replace hX := Lib.hid hX
      replace hY := Lib.hid hY
      clear z0 z1 z2
      obtain ⟨⟨z0, z1, z2⟩, -, -, -⟩ := q.below cB
      obtain ⟨y0, y1, y2, y3⟩ := y.below cB
      have lC := hC.out.len
      go_wp2_with fail
      refine (row_check r K p la ln lc ca cn cc qa qn qc L C Q wB (hg.out.below cB) (hL.out.below cB) (hC.out.below cB) (hQ.out.below cB)).mono ?_
      rintro e wA ⟨xe, rfl, bA0, hxe⟩
      have bA := Below.step cB bA0
      clear z0 z1 z2 y0 y1 y2 y3
      obtain ⟨⟨z0, z1, z2⟩, -, -, -⟩ := q.below bA
      obtain ⟨y0, y1, y2, y3⟩ := y.below bA
      cases hrp : rowP K p L C Q with
      | some t =>
        rw [hrp] at hxe
        obtain ⟨T2, a2, rfl⟩ := ErrIs.some_shape hxe
        replace hrp := Lib.hid hrp
        replace hxe := Lib.hid hxe
        have bE := Below.step b0 bA
        go_wp2
        go_ret
        exact ⟨_, rfl, bE, rfl⟩
      | none =>
        rw [hrp] at hxe
        obtain rfl : xe = .nilIface := hxe
        have hro : RowOk K p L C Q := by
          obtain ⟨K', e, hk⟩ := rowP_none hrp
          obtain rfl : K = K' := by omega
          exact hk
        have hcb := hro.c2
        replace hrp := Lib.hid hrp
        have hXb : x1.length ≤ 100000 := hXb.out
        by_cases hsum : 9000 < C.length + x1.length
        · have d1 : decide ((9000 : Int) < (C.length : Int) + (x1.length : Int)) = true := decide_eq_true (by omega)
          have bE := Below.step b0 bA
          go_wp2
          go_ret
          exact ⟨_, rfl, bE, rfl⟩
        · have d1 : decide ((9000 : Int) < (C.length : Int) + (x1.length : Int)) = false := decide_eq_false (by omega)
          by_cases hlow : p < -4000
          · have d2 : decide (p < -4000) = true := decide_eq_true hlow
            have bE := Below.step b0 bA
            go_wp2
            go_ret
            exact ⟨_, rfl, bE, rfl⟩
          · have d2 : decide (p < -4000) = false := decide_eq_false hlow
            have hXA := hX.out.below bA0
            have hYA := hY.out.below bA0
            have hlen := htw.out.len
            have lY := hYA.len
            replace hXA := Lib.hid hXA
            replace hYA := Lib.hid hYA
            have hCw := Lib.hid (hC.out.below bA)
            have yA := Lib.hid (y.below bA)
            have RA : Rows wA.heap.size wA (fun _ => Option.none) := Rows.void _ _
            obtain ⟨fA, hfA⟩ : ∃ fA : Names, (fun _ => Option.none) = fA := ⟨_, rfl⟩
            rw [hfA] at RA
            clear hfA
            replace RA := Lib.hid RA
            have hCl : C.length ≤ 17592186044416 := by omega
            have hCX : C.length + x1.length ≤ 17592186044416 := by omega
            have hCY : C.length + x2.length ≤ 17592186044416 := by omega
            have hsum2 : C.length + x1.length ≤ 9000 := by omega
            have hlow2 : -4000 ≤ p := by omega
            replace hCX := Lib.hid hCX
            replace hCY := Lib.hid hCY
            replace hCl := Lib.hid hCl
            replace hsum2 := Lib.hid hsum2
            replace hlow2 := Lib.hid hlow2
            replace hlen := Lib.hid hlen
            replace hro := Lib.hid hro
            go_upto_region 15 with fail
            clear y0 y1 y2 y3 z0 z1 z2
            go_cut [14] from 82 (fun s14 wx => ∃ (g : Nat) (e1 : Option Addr) (e2 e3 : Nat) (f : Names), s14 = .pointer (some ⟨g, 0, none⟩) ∧ Below wA.heap.size wA wx ∧ Rows wA.heap.size wx f ∧ f (10, 0) = some (rowI (.slice e1 e2 e3) (C ++ x1)) ∧ f (11, 0) = some (box4 26 g [.int .i64 p, .slice la ln lc, .slice e1 e2 e3, .slice qa qn qc]))
            case first =>
              obtain ⟨W0, hW0⟩ : ∃ W0 : World, W0 = wA.drew := ⟨_, rfl⟩
              have bW0 : Below wA.heap.size wA W0 := by rw [hW0]; exact (Below.refl wA.heap.size wA).drew
              have RW0 : Rows wA.heap.size W0 fA := by rw [hW0]; exact RA.out.drew
              have hB0 := bW0.size
              obtain ⟨y0, y1, y2, y3⟩ := yA.out.below (Below.refl wA.heap.size wA)
              have hS0 : W0.cell? ⟨w.heap.size + 1, 0, none⟩ = some (.int .i64 p) ∧ W0.cell? ⟨w.heap.size + 1, 1, none⟩ = some (.slice la ln lc) ∧ W0.cell? ⟨w.heap.size + 1, 2, none⟩ = some (.slice ca cn cc) ∧ W0.cell? ⟨w.heap.size + 1, 3, none⟩ = some (.slice qa qn qc) := by rw [hW0]; exact ⟨y0, y1, y2, y3⟩
              refine wp_region_noPanic ?_
              refine wp_region_any (by kernel_rfl) ?_
              change wpAny _ _ _ _ _ _ _ (World.drew _)
              rw [← hW0]
              clear hW0 y0 y1 y2 y3
              refine wpAny_of_held (S := fun w' => w'.cell? ⟨w.heap.size + 1, 0, none⟩ = some (.int .i64 p) ∧ w'.cell? ⟨w.heap.size + 1, 1, none⟩ = some (.slice la ln lc) ∧ w'.cell? ⟨w.heap.size + 1, 2, none⟩ = some (.slice ca cn cc) ∧ w'.cell? ⟨w.heap.size + 1, 3, none⟩ = some (.slice qa qn qc)) _ _ _ _ ?_
              refine takeD (i := 0) (v := ?_) (some 82) rfl rfl (by kernel_rfl) (by kernel_rfl) (by kernel_rfl) (fun _ _ _ h => h) (Or.inl ⟨by rfl, ?_⟩) hS0 ?_
              rotate_left
              · rintro W' ⟨s0, s1, s2, s3⟩; go_simp; try with_reducible rfl
              simp only [Act.put, List.setIfInBounds_toArray, List.set_cons_zero, List.set_cons_succ]
              refine takeD (i := 1) (v := ?_) (some 83) rfl rfl (by kernel_rfl) (by kernel_rfl) (by kernel_rfl) (fun _ _ _ h => h) (Or.inl ⟨by rfl, ?_⟩) hS0 ?_
              rotate_left
              · rintro W' ⟨s0, s1, s2, s3⟩; go_simp; try with_reducible rfl
              simp only [Act.put, List.setIfInBounds_toArray, List.set_cons_zero, List.set_cons_succ]
              refine takeD (i := 2) (v := ?_) (some 84) rfl rfl (by kernel_rfl) (by kernel_rfl) (by kernel_rfl) (fun _ _ _ h => h) (Or.inl ⟨by rfl, ?_⟩) hS0 ?_
              rotate_left
              · rintro W' ⟨s0, s1, s2, s3⟩; go_simp; try with_reducible rfl
              simp only [Act.put, List.setIfInBounds_toArray, List.set_cons_zero, List.set_cons_succ]
              refine takeD (i := 3) (v := ?_) (some 85) rfl rfl (by kernel_rfl) (by kernel_rfl) (by kernel_rfl) (fun _ _ _ h => h) (Or.inl ⟨by rfl, ?_⟩) hS0 ?_
              rotate_left
              · rintro W' ⟨s0, s1, s2, s3⟩; go_simp; try with_reducible rfl
              simp only [Act.put, List.setIfInBounds_toArray, List.set_cons_zero, List.set_cons_succ]
              refine takeD (i := 4) (v := ?_) (some 86) rfl rfl (by kernel_rfl) (by kernel_rfl) (by kernel_rfl) (fun _ _ _ h => h) (Or.inl ⟨by rfl, ?_⟩) hS0 ?_
              rotate_left
              · rintro W' ⟨s0, s1, s2, s3⟩; go_simp; try with_reducible rfl
              simp only [Act.put, List.setIfInBounds_toArray, List.set_cons_zero, List.set_cons_succ]
              refine takeD (i := 5) (v := ?_) (some 87) rfl rfl (by kernel_rfl) (by kernel_rfl) (by kernel_rfl) (fun _ _ _ h => h) (Or.inl ⟨by rfl, ?_⟩) hS0 ?_
              rotate_left
              · rintro W' ⟨s0, s1, s2, s3⟩; go_simp; try with_reducible rfl
              simp only [Act.put, List.setIfInBounds_toArray, List.set_cons_zero, List.set_cons_succ]
              refine takeD (i := 7) (v := ?_) (some 89) rfl rfl (by kernel_rfl) (by kernel_rfl) (by kernel_rfl) (fun _ _ _ h => h) (Or.inl ⟨by rfl, ?_⟩) hS0 ?_
              rotate_left
              · rintro W' ⟨s0, s1, s2, s3⟩; go_simp; try with_reducible rfl
              simp only [Act.put, List.setIfInBounds_toArray, List.set_cons_zero, List.set_cons_succ]
              refine takeD (i := 9) (v := ?_) (some 91) rfl rfl (by kernel_rfl) (by kernel_rfl) (by kernel_rfl) (fun _ _ _ h => h) (Or.inl ⟨by rfl, ?_⟩) hS0 ?_
              rotate_left
              · rintro W' ⟨s0, s1, s2, s3⟩; go_simp; try with_reducible rfl
              simp only [Act.put, List.setIfInBounds_toArray, List.set_cons_zero, List.set_cons_succ]
              refine takeD (i := 10) (v := ?_) (some 92) rfl rfl (by kernel_rfl) (by kernel_rfl) (by kernel_rfl) (fun _ _ _ h => h) (Or.inl ⟨by rfl, ?_⟩) hS0 ?_
              rotate_left
              · rintro W' ⟨s0, s1, s2, s3⟩; go_simp; try with_reducible rfl
              simp only [Act.put, List.setIfInBounds_toArray, List.set_cons_zero, List.set_cons_succ]
              refine wpAnyH_ready (rs := [6, 12]) (by kernel_rfl) (by simp) (AllReadyH.cons rfl (fun KK hK => ?_) (AllReadyH.cons rfl (fun KK hK => ?_) (AllReadyH.nil)))
              · go_simp
                refine (copy_any (.slice ca cn cc) C W0 (hCw.out.below bW0) hCl.out).mono ?_
                rintro e W1 ⟨ev, rfl, bb, hv⟩
                obtain ⟨f1, RW1, n100, oo⟩ := RW0.addE (10, 0) (r' := rowI ev C) bb (hv.mono hB0) (fun k hk => (hv.lt k hk).1)
                obtain ⟨e1, e2, e3, rfl⟩ := hv.at.shape
                clear hv
                have bW1 := bW0.trans (bb.mono hB0)
                have hB1 := bW1.size
                have hS1 : W1.cell? ⟨w.heap.size + 1, 0, none⟩ = some (.int .i64 p) ∧ W1.cell? ⟨w.heap.size + 1, 1, none⟩ = some (.slice la ln lc) ∧ W1.cell? ⟨w.heap.size + 1, 2, none⟩ = some (.slice ca cn cc) ∧ W1.cell? ⟨w.heap.size + 1, 3, none⟩ = some (.slice qa qn qc) := by obtain ⟨j0, j1, j2, j3⟩ := yA.out.below bW1; exact ⟨j0, j1, j2, j3⟩
                refine hK.out _ _ hS1 fun _ => ?_
                clear hK KK bb RW0 oo
                refine wpAnyH_ready (rs := [8, 12]) (by kernel_rfl) (by simp) (AllReadyH.cons rfl (fun KK hK => ?_) (AllReadyH.cons rfl (fun KK hK => ?_) (AllReadyH.nil)))
                · refine step_appIH rfl _ _ rfl wA.heap.size (.slice e1 e2 e3) (.slice ta tn tc) C x1 rfl rfl (RW1.ownI n100) (hXA.out.below bW1) hCX.out hB1 ?_
                  intro ev W2 ho bb hgr hob
                  obtain ⟨f2, RW2, mm, oo⟩ := RW1.appI n100 ho hgr hob
                  clear n100
                  have n100 := mm
                  obtain ⟨e1, e2, e3, rfl⟩ := ho.at.shape
                  clear ho hgr hob mm
                  have bW2 := bW1.trans bb
                  have hB2 := bW2.size
                  have hS2 : W2.cell? ⟨w.heap.size + 1, 0, none⟩ = some (.int .i64 p) ∧ W2.cell? ⟨w.heap.size + 1, 1, none⟩ = some (.slice la ln lc) ∧ W2.cell? ⟨w.heap.size + 1, 2, none⟩ = some (.slice ca cn cc) ∧ W2.cell? ⟨w.heap.size + 1, 3, none⟩ = some (.slice qa qn qc) := by obtain ⟨j0, j1, j2, j3⟩ := yA.out.below bW2; exact ⟨j0, j1, j2, j3⟩
                  refine hK.out _ _ hS2 fun _ => ?_
                  clear hK KK bb RW1 oo
                  refine takeD (i := 11) (v := ?_) (some 93) rfl rfl (by kernel_rfl) (by kernel_rfl) (by kernel_rfl) (fun _ _ _ h => h) (Or.inl ⟨by rfl, ?_⟩) hS2 ?_
                  rotate_left
                  · rintro W' ⟨s0, s1, s2, s3⟩; go_simp; try with_reducible rfl
                  simp only [Act.put, List.setIfInBounds_toArray]
                  refine wpAnyH_ready (rs := [12]) (by kernel_rfl) (by simp) (AllReadyH.cons rfl (fun KK hK => ?_) (AllReadyH.nil))
                  · go_simp
                    obtain ⟨f3, RW3, n110, oo⟩ := RW2.box4 (11, 0) hB2 26 (.int .i64 0) (.slice none 0 0) (.slice none 0 0) (.slice none 0 0)
                    replace n100 := (oo (10, 0) (by decide)).trans n100
                    have bb := belowAlloc W2 (.cells #[.int .i64 0, .slice none 0 0, .slice none 0 0, .slice none 0 0] 26)
                    obtain ⟨gb, hgb⟩ : ∃ g, W2.heap.size = g := ⟨_, rfl⟩
                    obtain ⟨W3, hW3⟩ : ∃ W' : World, W2.alloc (.cells #[.int .i64 0, .slice none 0 0, .slice none 0 0, .slice none 0 0] 26) = W' := ⟨_, rfl⟩
                    rw [hW3] at RW3 bb
                    have bW3 := bW2.trans (bb.mono hB2)
                    have hB3 := bW3.size
                    have hS3 : W3.cell? ⟨w.heap.size + 1, 0, none⟩ = some (.int .i64 p) ∧ W3.cell? ⟨w.heap.size + 1, 1, none⟩ = some (.slice la ln lc) ∧ W3.cell? ⟨w.heap.size + 1, 2, none⟩ = some (.slice ca cn cc) ∧ W3.cell? ⟨w.heap.size + 1, 3, none⟩ = some (.slice qa qn qc) := by obtain ⟨j0, j1, j2, j3⟩ := yA.out.below bW3; exact ⟨j0, j1, j2, j3⟩
                    rw [hW3, hgb]
                    rw [hgb] at n110
                    replace hW3 := Lib.hid hW3
                    replace hgb := Lib.hid hgb
                    refine hK.out _ _ hS3 fun _ => ?_
                    clear hK KK bb RW2 oo
                    obtain ⟨t0, t1, t2, t3⟩ := RW3.cells4 n110
                    have ft0 := RW3.frz4 n110 0
                    have ft1 := RW3.frz4 n110 1
                    have ft2 := RW3.frz4 n110 2
                    have ft3 := RW3.frz4 n110 3
                    have lt := (RW3.low4 n110)
                    obtain ⟨f4, RW4, mm, oo⟩ := RW3.all4 n110 (.int .i64 p) (.slice la ln lc) (.slice e1 e2 e3) (.slice qa qn qc)
                    replace n100 := (oo (10, 0) (by decide)).trans n100
                    clear n110
                    have n110 := mm
                    have bW4 := Below.all4 (g := gb) bW3 lt.1 (.int .i64 p) (.slice la ln lc) (.slice e1 e2 e3) (.slice qa qn qc)
                    obtain ⟨W4, hW4⟩ : ∃ W' : World, (((W3.setCell ⟨gb, 0, none⟩ (.int .i64 p)).setCell ⟨gb, 1, none⟩ (.slice la ln lc)).setCell ⟨gb, 2, none⟩ (.slice e1 e2 e3)).setCell ⟨gb, 3, none⟩ (.slice qa qn qc) = W' := ⟨_, rfl⟩
                    rw [hW4] at RW4 bW4
                    have hS4 : W4.cell? ⟨w.heap.size + 1, 0, none⟩ = some (.int .i64 p) ∧ W4.cell? ⟨w.heap.size + 1, 1, none⟩ = some (.slice la ln lc) ∧ W4.cell? ⟨w.heap.size + 1, 2, none⟩ = some (.slice ca cn cc) ∧ W4.cell? ⟨w.heap.size + 1, 3, none⟩ = some (.slice qa qn qc) := by obtain ⟨j0, j1, j2, j3⟩ := yA.out.below bW4; exact ⟨j0, j1, j2, j3⟩
                    replace hW4 := Lib.hid hW4
                    refine wpAnyH_ready (rs := [13]) (by kernel_rfl) (by simp) (AllReadyH.cons rfl (fun KK hK => ?_) AllReadyH.nil)
                    go_simp
                    rw [hW4.out]
                    refine hK.out _ _ hS4 fun _ => ?_
                    clear hK KK t0 t1 t2 t3 ft0 ft1 ft2 ft3 mm oo lt RW3 hW4
                    refine wpAnyH_done (by kernel_rfl) ?_ _
                    refine NoPanic.normal ?_
                    replace n100 := Lib.hid n100
                    replace n110 := Lib.hid n110
                    replace RW4 := Lib.hid RW4
                    go_wp2
                    go_meet
                    case rel => exact ⟨gb, e1, e2, e3, f4, rfl, bW4, RW4.out, n100.out, n110.out⟩
                · go_simp
                  obtain ⟨f5, RW5, n110, oo⟩ := RW1.box4 (11, 0) hB1 26 (.int .i64 0) (.slice none 0 0) (.slice none 0 0) (.slice none 0 0)
                  replace n100 := (oo (10, 0) (by decide)).trans n100
                  have bb := belowAlloc W1 (.cells #[.int .i64 0, .slice none 0 0, .slice none 0 0, .slice none 0 0] 26)
                  obtain ⟨gb, hgb⟩ : ∃ g, W1.heap.size = g := ⟨_, rfl⟩
                  obtain ⟨W5, hW5⟩ : ∃ W' : World, W1.alloc (.cells #[.int .i64 0, .slice none 0 0, .slice none 0 0, .slice none 0 0] 26) = W' := ⟨_, rfl⟩
                  rw [hW5] at RW5 bb
                  have bW5 := bW1.trans (bb.mono hB1)
                  have hB5 := bW5.size
                  have hS5 : W5.cell? ⟨w.heap.size + 1, 0, none⟩ = some (.int .i64 p) ∧ W5.cell? ⟨w.heap.size + 1, 1, none⟩ = some (.slice la ln lc) ∧ W5.cell? ⟨w.heap.size + 1, 2, none⟩ = some (.slice ca cn cc) ∧ W5.cell? ⟨w.heap.size + 1, 3, none⟩ = some (.slice qa qn qc) := by obtain ⟨j0, j1, j2, j3⟩ := yA.out.below bW5; exact ⟨j0, j1, j2, j3⟩
                  rw [hW5, hgb]
                  rw [hgb] at n110
                  replace hW5 := Lib.hid hW5
                  replace hgb := Lib.hid hgb
                  refine hK.out _ _ hS5 fun _ => ?_
                  clear hK KK bb RW1 oo
                  refine wpAnyH_ready (rs := [8]) (by kernel_rfl) (by simp) (AllReadyH.cons rfl (fun KK hK => ?_) (AllReadyH.nil))
                  · refine step_appIH rfl _ _ rfl wA.heap.size (.slice e1 e2 e3) (.slice ta tn tc) C x1 rfl rfl (RW5.ownI n100) (hXA.out.below bW5) hCX.out hB5 ?_
                    intro ev W6 ho bb hgr hob
                    obtain ⟨f6, RW6, mm, oo⟩ := RW5.appI n100 ho hgr hob
                    replace n110 := (oo (11, 0) (by decide)).trans n110
                    clear n100
                    have n100 := mm
                    obtain ⟨e1, e2, e3, rfl⟩ := ho.at.shape
                    clear ho hgr hob mm
                    have bW6 := bW5.trans bb
                    have hB6 := bW6.size
                    have hS6 : W6.cell? ⟨w.heap.size + 1, 0, none⟩ = some (.int .i64 p) ∧ W6.cell? ⟨w.heap.size + 1, 1, none⟩ = some (.slice la ln lc) ∧ W6.cell? ⟨w.heap.size + 1, 2, none⟩ = some (.slice ca cn cc) ∧ W6.cell? ⟨w.heap.size + 1, 3, none⟩ = some (.slice qa qn qc) := by obtain ⟨j0, j1, j2, j3⟩ := yA.out.below bW6; exact ⟨j0, j1, j2, j3⟩
                    refine hK.out _ _ hS6 fun _ => ?_
                    clear hK KK bb RW5 oo
                    refine takeD (i := 11) (v := ?_) (some 93) rfl rfl (by kernel_rfl) (by kernel_rfl) (by kernel_rfl) (fun _ _ _ h => h) (Or.inl ⟨by rfl, ?_⟩) hS6 ?_
                    rotate_left
                    · rintro W' ⟨s0, s1, s2, s3⟩; go_simp; try with_reducible rfl
                    simp only [Act.put, List.setIfInBounds_toArray]
                    obtain ⟨t0, t1, t2, t3⟩ := RW6.cells4 n110
                    have ft0 := RW6.frz4 n110 0
                    have ft1 := RW6.frz4 n110 1
                    have ft2 := RW6.frz4 n110 2
                    have ft3 := RW6.frz4 n110 3
                    have lt := (RW6.low4 n110)
                    obtain ⟨f7, RW7, mm, oo⟩ := RW6.all4 n110 (.int .i64 p) (.slice la ln lc) (.slice e1 e2 e3) (.slice qa qn qc)
                    replace n100 := (oo (10, 0) (by decide)).trans n100
                    clear n110
                    have n110 := mm
                    have bW7 := Below.all4 (g := gb) bW6 lt.1 (.int .i64 p) (.slice la ln lc) (.slice e1 e2 e3) (.slice qa qn qc)
                    obtain ⟨W7, hW7⟩ : ∃ W' : World, (((W6.setCell ⟨gb, 0, none⟩ (.int .i64 p)).setCell ⟨gb, 1, none⟩ (.slice la ln lc)).setCell ⟨gb, 2, none⟩ (.slice e1 e2 e3)).setCell ⟨gb, 3, none⟩ (.slice qa qn qc) = W' := ⟨_, rfl⟩
                    rw [hW7] at RW7 bW7
                    have hS7 : W7.cell? ⟨w.heap.size + 1, 0, none⟩ = some (.int .i64 p) ∧ W7.cell? ⟨w.heap.size + 1, 1, none⟩ = some (.slice la ln lc) ∧ W7.cell? ⟨w.heap.size + 1, 2, none⟩ = some (.slice ca cn cc) ∧ W7.cell? ⟨w.heap.size + 1, 3, none⟩ = some (.slice qa qn qc) := by obtain ⟨j0, j1, j2, j3⟩ := yA.out.below bW7; exact ⟨j0, j1, j2, j3⟩
                    replace hW7 := Lib.hid hW7
                    refine wpAnyH_ready (rs := [13]) (by kernel_rfl) (by simp) (AllReadyH.cons rfl (fun KK hK => ?_) AllReadyH.nil)
                    go_simp
                    rw [hW7.out]
                    refine hK.out _ _ hS7 fun _ => ?_
                    clear hK KK t0 t1 t2 t3 ft0 ft1 ft2 ft3 mm oo lt RW6 hW7
                    refine wpAnyH_done (by kernel_rfl) ?_ _
                    refine NoPanic.normal ?_
                    replace n100 := Lib.hid n100
                    replace n110 := Lib.hid n110
                    replace RW7 := Lib.hid RW7
                    go_wp2
                    go_meet
                    case rel => exact ⟨gb, e1, e2, e3, f7, rfl, bW7, RW7.out, n100.out, n110.out⟩
              · go_simp
                obtain ⟨f8, RW8, n110, oo⟩ := RW0.box4 (11, 0) hB0 26 (.int .i64 0) (.slice none 0 0) (.slice none 0 0) (.slice none 0 0)
                have bb := belowAlloc W0 (.cells #[.int .i64 0, .slice none 0 0, .slice none 0 0, .slice none 0 0] 26)
                obtain ⟨gb, hgb⟩ : ∃ g, W0.heap.size = g := ⟨_, rfl⟩
                obtain ⟨W8, hW8⟩ : ∃ W' : World, W0.alloc (.cells #[.int .i64 0, .slice none 0 0, .slice none 0 0, .slice none 0 0] 26) = W' := ⟨_, rfl⟩
                rw [hW8] at RW8 bb
                have bW8 := bW0.trans (bb.mono hB0)
                have hB8 := bW8.size
                have hS8 : W8.cell? ⟨w.heap.size + 1, 0, none⟩ = some (.int .i64 p) ∧ W8.cell? ⟨w.heap.size + 1, 1, none⟩ = some (.slice la ln lc) ∧ W8.cell? ⟨w.heap.size + 1, 2, none⟩ = some (.slice ca cn cc) ∧ W8.cell? ⟨w.heap.size + 1, 3, none⟩ = some (.slice qa qn qc) := by obtain ⟨j0, j1, j2, j3⟩ := yA.out.below bW8; exact ⟨j0, j1, j2, j3⟩
                rw [hW8, hgb]
                rw [hgb] at n110
                replace hW8 := Lib.hid hW8
                replace hgb := Lib.hid hgb
                refine hK.out _ _ hS8 fun _ => ?_
                clear hK KK bb RW0 oo
                refine wpAnyH_ready (rs := [6]) (by kernel_rfl) (by simp) (AllReadyH.cons rfl (fun KK hK => ?_) (AllReadyH.nil))
                · go_simp
                  refine (copy_any (.slice ca cn cc) C W8 (hCw.out.below bW8) hCl.out).mono ?_
                  rintro e W9 ⟨ev, rfl, bb, hv⟩
                  obtain ⟨f9, RW9, n100, oo⟩ := RW8.addE (10, 0) (r' := rowI ev C) bb (hv.mono hB8) (fun k hk => (hv.lt k hk).1)
                  replace n110 := (oo (11, 0) (by decide)).trans n110
                  obtain ⟨e1, e2, e3, rfl⟩ := hv.at.shape
                  clear hv
                  have bW9 := bW8.trans (bb.mono hB8)
                  have hB9 := bW9.size
                  have hS9 : W9.cell? ⟨w.heap.size + 1, 0, none⟩ = some (.int .i64 p) ∧ W9.cell? ⟨w.heap.size + 1, 1, none⟩ = some (.slice la ln lc) ∧ W9.cell? ⟨w.heap.size + 1, 2, none⟩ = some (.slice ca cn cc) ∧ W9.cell? ⟨w.heap.size + 1, 3, none⟩ = some (.slice qa qn qc) := by obtain ⟨j0, j1, j2, j3⟩ := yA.out.below bW9; exact ⟨j0, j1, j2, j3⟩
                  refine hK.out _ _ hS9 fun _ => ?_
                  clear hK KK bb RW8 oo
                  refine wpAnyH_ready (rs := [8]) (by kernel_rfl) (by simp) (AllReadyH.cons rfl (fun KK hK => ?_) (AllReadyH.nil))
                  · refine step_appIH rfl _ _ rfl wA.heap.size (.slice e1 e2 e3) (.slice ta tn tc) C x1 rfl rfl (RW9.ownI n100) (hXA.out.below bW9) hCX.out hB9 ?_
                    intro ev W10 ho bb hgr hob
                    obtain ⟨f10, RW10, mm, oo⟩ := RW9.appI n100 ho hgr hob
                    replace n110 := (oo (11, 0) (by decide)).trans n110
                    clear n100
                    have n100 := mm
                    obtain ⟨e1, e2, e3, rfl⟩ := ho.at.shape
                    clear ho hgr hob mm
                    have bW10 := bW9.trans bb
                    have hB10 := bW10.size
                    have hS10 : W10.cell? ⟨w.heap.size + 1, 0, none⟩ = some (.int .i64 p) ∧ W10.cell? ⟨w.heap.size + 1, 1, none⟩ = some (.slice la ln lc) ∧ W10.cell? ⟨w.heap.size + 1, 2, none⟩ = some (.slice ca cn cc) ∧ W10.cell? ⟨w.heap.size + 1, 3, none⟩ = some (.slice qa qn qc) := by obtain ⟨j0, j1, j2, j3⟩ := yA.out.below bW10; exact ⟨j0, j1, j2, j3⟩
                    refine hK.out _ _ hS10 fun _ => ?_
                    clear hK KK bb RW9 oo
                    refine takeD (i := 11) (v := ?_) (some 93) rfl rfl (by kernel_rfl) (by kernel_rfl) (by kernel_rfl) (fun _ _ _ h => h) (Or.inl ⟨by rfl, ?_⟩) hS10 ?_
                    rotate_left
                    · rintro W' ⟨s0, s1, s2, s3⟩; go_simp; try with_reducible rfl
                    simp only [Act.put, List.setIfInBounds_toArray]
                    obtain ⟨t0, t1, t2, t3⟩ := RW10.cells4 n110
                    have ft0 := RW10.frz4 n110 0
                    have ft1 := RW10.frz4 n110 1
                    have ft2 := RW10.frz4 n110 2
                    have ft3 := RW10.frz4 n110 3
                    have lt := (RW10.low4 n110)
                    obtain ⟨f11, RW11, mm, oo⟩ := RW10.all4 n110 (.int .i64 p) (.slice la ln lc) (.slice e1 e2 e3) (.slice qa qn qc)
                    replace n100 := (oo (10, 0) (by decide)).trans n100
                    clear n110
                    have n110 := mm
                    have bW11 := Below.all4 (g := gb) bW10 lt.1 (.int .i64 p) (.slice la ln lc) (.slice e1 e2 e3) (.slice qa qn qc)
                    obtain ⟨W11, hW11⟩ : ∃ W' : World, (((W10.setCell ⟨gb, 0, none⟩ (.int .i64 p)).setCell ⟨gb, 1, none⟩ (.slice la ln lc)).setCell ⟨gb, 2, none⟩ (.slice e1 e2 e3)).setCell ⟨gb, 3, none⟩ (.slice qa qn qc) = W' := ⟨_, rfl⟩
                    rw [hW11] at RW11 bW11
                    have hS11 : W11.cell? ⟨w.heap.size + 1, 0, none⟩ = some (.int .i64 p) ∧ W11.cell? ⟨w.heap.size + 1, 1, none⟩ = some (.slice la ln lc) ∧ W11.cell? ⟨w.heap.size + 1, 2, none⟩ = some (.slice ca cn cc) ∧ W11.cell? ⟨w.heap.size + 1, 3, none⟩ = some (.slice qa qn qc) := by obtain ⟨j0, j1, j2, j3⟩ := yA.out.below bW11; exact ⟨j0, j1, j2, j3⟩
                    replace hW11 := Lib.hid hW11
                    refine wpAnyH_ready (rs := [13]) (by kernel_rfl) (by simp) (AllReadyH.cons rfl (fun KK hK => ?_) AllReadyH.nil)
                    go_simp
                    rw [hW11.out]
                    refine hK.out _ _ hS11 fun _ => ?_
                    clear hK KK t0 t1 t2 t3 ft0 ft1 ft2 ft3 mm oo lt RW10 hW11
                    refine wpAnyH_done (by kernel_rfl) ?_ _
                    refine NoPanic.normal ?_
                    replace n100 := Lib.hid n100
                    replace n110 := Lib.hid n110
                    replace RW11 := Lib.hid RW11
                    go_wp2
                    go_meet
                    case rel => exact ⟨gb, e1, e2, e3, f11, rfl, bW11, RW11.out, n100.out, n110.out⟩
            case rest =>
              obtain ⟨g1, e1, e2, e3, f1, rfl, bC, RC, n100, n110⟩ := hcut
              obtain ⟨wC, rfl⟩ : ∃ wC : World, wC = wc := ⟨_, rfl⟩
              replace RC := Lib.hid RC
              have n100' := Lib.hid n100
              have n110' := Lib.hid n110
              clear n100 n110
              go_upto_region 16 with fail
              go_cut [15] from 94 (fun s15 wx => ∃ (g : Nat) (u1 : Option Addr) (u2 u3 : Nat) (f : Names), s15 = .pointer (some ⟨g, 0, none⟩) ∧ Below wA.heap.size wA wx ∧ Rows wA.heap.size wx f ∧ f (20, 0) = some (rowI (.slice u1 u2 u3) (C ++ x2)) ∧ f (21, 0) = some (box4 26 g [.int .i64 p, .slice la ln lc, .slice u1 u2 u3, .slice qa qn qc]) ∧ f (10, 0) = some (rowI (.slice e1 e2 e3) (C ++ x1)) ∧ f (11, 0) = some (box4 26 g1 [.int .i64 p, .slice la ln lc, .slice e1 e2 e3, .slice qa qn qc]))
              case first =>
                obtain ⟨W0, hW0⟩ : ∃ W0 : World, W0 = wC.drew := ⟨_, rfl⟩
                have bW0 : Below wA.heap.size wA W0 := by rw [hW0]; exact bC.drew
                have RW0 : Rows wA.heap.size W0 f1 := by rw [hW0]; exact RC.out.drew
                have hB0 := bW0.size
                obtain ⟨y0, y1, y2, y3⟩ := yA.out.below bC
                have hS0 : W0.cell? ⟨w.heap.size + 1, 0, none⟩ = some (.int .i64 p) ∧ W0.cell? ⟨w.heap.size + 1, 1, none⟩ = some (.slice la ln lc) ∧ W0.cell? ⟨w.heap.size + 1, 2, none⟩ = some (.slice ca cn cc) ∧ W0.cell? ⟨w.heap.size + 1, 3, none⟩ = some (.slice qa qn qc) := by rw [hW0]; exact ⟨y0, y1, y2, y3⟩
                have n100 := n100'.out
                have n110 := n110'.out
                refine wp_region_noPanic ?_
                refine wp_region_any (by kernel_rfl) ?_
                change wpAny _ _ _ _ _ _ _ (World.drew _)
                rw [← hW0]
                clear hW0 y0 y1 y2 y3
                refine wpAny_of_held (S := fun w' => w'.cell? ⟨w.heap.size + 1, 0, none⟩ = some (.int .i64 p) ∧ w'.cell? ⟨w.heap.size + 1, 1, none⟩ = some (.slice la ln lc) ∧ w'.cell? ⟨w.heap.size + 1, 2, none⟩ = some (.slice ca cn cc) ∧ w'.cell? ⟨w.heap.size + 1, 3, none⟩ = some (.slice qa qn qc)) _ _ _ _ ?_
                refine takeD (i := 0) (v := ?_) (some 94) rfl rfl (by kernel_rfl) (by kernel_rfl) (by kernel_rfl) (fun _ _ _ h => h) (Or.inl ⟨by rfl, ?_⟩) hS0 ?_
                rotate_left
                · rintro W' ⟨s0, s1, s2, s3⟩; go_simp; try with_reducible rfl
                simp only [Act.put, List.setIfInBounds_toArray, List.set_cons_zero, List.set_cons_succ]
                refine takeD (i := 1) (v := ?_) (some 95) rfl rfl (by kernel_rfl) (by kernel_rfl) (by kernel_rfl) (fun _ _ _ h => h) (Or.inl ⟨by rfl, ?_⟩) hS0 ?_
                rotate_left
                · rintro W' ⟨s0, s1, s2, s3⟩; go_simp; try with_reducible rfl
                simp only [Act.put, List.setIfInBounds_toArray, List.set_cons_zero, List.set_cons_succ]
                refine takeD (i := 2) (v := ?_) (some 96) rfl rfl (by kernel_rfl) (by kernel_rfl) (by kernel_rfl) (fun _ _ _ h => h) (Or.inl ⟨by rfl, ?_⟩) hS0 ?_
                rotate_left
                · rintro W' ⟨s0, s1, s2, s3⟩; go_simp; try with_reducible rfl
                simp only [Act.put, List.setIfInBounds_toArray, List.set_cons_zero, List.set_cons_succ]
                refine takeD (i := 3) (v := ?_) (some 97) rfl rfl (by kernel_rfl) (by kernel_rfl) (by kernel_rfl) (fun _ _ _ h => h) (Or.inl ⟨by rfl, ?_⟩) hS0 ?_
                rotate_left
                · rintro W' ⟨s0, s1, s2, s3⟩; go_simp; try with_reducible rfl
                simp only [Act.put, List.setIfInBounds_toArray, List.set_cons_zero, List.set_cons_succ]
                refine takeD (i := 4) (v := ?_) (some 98) rfl rfl (by kernel_rfl) (by kernel_rfl) (by kernel_rfl) (fun _ _ _ h => h) (Or.inl ⟨by rfl, ?_⟩) hS0 ?_
                rotate_left
                · rintro W' ⟨s0, s1, s2, s3⟩; go_simp; try with_reducible rfl
                simp only [Act.put, List.setIfInBounds_toArray, List.set_cons_zero, List.set_cons_succ]
                refine takeD (i := 5) (v := ?_) (some 99) rfl rfl (by kernel_rfl) (by kernel_rfl) (by kernel_rfl) (fun _ _ _ h => h) (Or.inl ⟨by rfl, ?_⟩) hS0 ?_
                rotate_left
                · rintro W' ⟨s0, s1, s2, s3⟩; go_simp; try with_reducible rfl
                simp only [Act.put, List.setIfInBounds_toArray, List.set_cons_zero, List.set_cons_succ]
                refine takeD (i := 7) (v := ?_) (some 101) rfl rfl (by kernel_rfl) (by kernel_rfl) (by kernel_rfl) (fun _ _ _ h => h) (Or.inl ⟨by rfl, ?_⟩) hS0 ?_
                rotate_left
                · rintro W' ⟨s0, s1, s2, s3⟩; go_simp; try with_reducible rfl
                simp only [Act.put, List.setIfInBounds_toArray, List.set_cons_zero, List.set_cons_succ]
                refine takeD (i := 9) (v := ?_) (some 103) rfl rfl (by kernel_rfl) (by kernel_rfl) (by kernel_rfl) (fun _ _ _ h => h) (Or.inl ⟨by rfl, ?_⟩) hS0 ?_
                rotate_left
                · rintro W' ⟨s0, s1, s2, s3⟩; go_simp; try with_reducible rfl
                simp only [Act.put, List.setIfInBounds_toArray, List.set_cons_zero, List.set_cons_succ]
                refine takeD (i := 10) (v := ?_) (some 104) rfl rfl (by kernel_rfl) (by kernel_rfl) (by kernel_rfl) (fun _ _ _ h => h) (Or.inl ⟨by rfl, ?_⟩) hS0 ?_
                rotate_left
                · rintro W' ⟨s0, s1, s2, s3⟩; go_simp; try with_reducible rfl
                simp only [Act.put, List.setIfInBounds_toArray, List.set_cons_zero, List.set_cons_succ]
                refine wpAnyH_ready (rs := [6, 12]) (by kernel_rfl) (by simp) (AllReadyH.cons rfl (fun KK hK => ?_) (AllReadyH.cons rfl (fun KK hK => ?_) (AllReadyH.nil)))
                · go_simp
                  refine (copy_any (.slice ca cn cc) C W0 (hCw.out.below bW0) hCl.out).mono ?_
                  rintro e W1 ⟨ev, rfl, bb, hv⟩
                  obtain ⟨f1, RW1, n200, oo⟩ := RW0.addE (20, 0) (r' := rowI ev C) bb (hv.mono hB0) (fun k hk => (hv.lt k hk).1)
                  replace n100 := (oo (10, 0) (by decide)).trans n100
                  replace n110 := (oo (11, 0) (by decide)).trans n110
                  obtain ⟨u1, u2, u3, rfl⟩ := hv.at.shape
                  clear hv
                  have bW1 := bW0.trans (bb.mono hB0)
                  have hB1 := bW1.size
                  have hS1 : W1.cell? ⟨w.heap.size + 1, 0, none⟩ = some (.int .i64 p) ∧ W1.cell? ⟨w.heap.size + 1, 1, none⟩ = some (.slice la ln lc) ∧ W1.cell? ⟨w.heap.size + 1, 2, none⟩ = some (.slice ca cn cc) ∧ W1.cell? ⟨w.heap.size + 1, 3, none⟩ = some (.slice qa qn qc) := by obtain ⟨j0, j1, j2, j3⟩ := yA.out.below bW1; exact ⟨j0, j1, j2, j3⟩
                  refine hK.out _ _ hS1 fun _ => ?_
                  clear hK KK bb RW0 oo
                  refine wpAnyH_ready (rs := [8, 12]) (by kernel_rfl) (by simp) (AllReadyH.cons rfl (fun KK hK => ?_) (AllReadyH.cons rfl (fun KK hK => ?_) (AllReadyH.nil)))
                  · refine step_appIH rfl _ _ rfl wA.heap.size (.slice u1 u2 u3) (.slice sa sn sc) C x2 rfl rfl (RW1.ownI n200) (hYA.out.below bW1) hCY.out hB1 ?_
                    intro ev W2 ho bb hgr hob
                    obtain ⟨f2, RW2, mm, oo⟩ := RW1.appI n200 ho hgr hob
                    replace n100 := (oo (10, 0) (by decide)).trans n100
                    replace n110 := (oo (11, 0) (by decide)).trans n110
                    clear n200
                    have n200 := mm
                    obtain ⟨u1, u2, u3, rfl⟩ := ho.at.shape
                    clear ho hgr hob mm
                    have bW2 := bW1.trans bb
                    have hB2 := bW2.size
                    have hS2 : W2.cell? ⟨w.heap.size + 1, 0, none⟩ = some (.int .i64 p) ∧ W2.cell? ⟨w.heap.size + 1, 1, none⟩ = some (.slice la ln lc) ∧ W2.cell? ⟨w.heap.size + 1, 2, none⟩ = some (.slice ca cn cc) ∧ W2.cell? ⟨w.heap.size + 1, 3, none⟩ = some (.slice qa qn qc) := by obtain ⟨j0, j1, j2, j3⟩ := yA.out.below bW2; exact ⟨j0, j1, j2, j3⟩
                    refine hK.out _ _ hS2 fun _ => ?_
                    clear hK KK bb RW1 oo
                    refine takeD (i := 11) (v := ?_) (some 105) rfl rfl (by kernel_rfl) (by kernel_rfl) (by kernel_rfl) (fun _ _ _ h => h) (Or.inl ⟨by rfl, ?_⟩) hS2 ?_
                    rotate_left
                    · rintro W' ⟨s0, s1, s2, s3⟩; go_simp; try with_reducible rfl
                    simp only [Act.put, List.setIfInBounds_toArray]
                    refine wpAnyH_ready (rs := [12]) (by kernel_rfl) (by simp) (AllReadyH.cons rfl (fun KK hK => ?_) (AllReadyH.nil))
                    · go_simp
                      obtain ⟨f3, RW3, n210, oo⟩ := RW2.box4 (21, 0) hB2 26 (.int .i64 0) (.slice none 0 0) (.slice none 0 0) (.slice none 0 0)
                      replace n100 := (oo (10, 0) (by decide)).trans n100
                      replace n110 := (oo (11, 0) (by decide)).trans n110
                      replace n200 := (oo (20, 0) (by decide)).trans n200
                      have bb := belowAlloc W2 (.cells #[.int .i64 0, .slice none 0 0, .slice none 0 0, .slice none 0 0] 26)
                      obtain ⟨gb, hgb⟩ : ∃ g, W2.heap.size = g := ⟨_, rfl⟩
                      obtain ⟨W3, hW3⟩ : ∃ W' : World, W2.alloc (.cells #[.int .i64 0, .slice none 0 0, .slice none 0 0, .slice none 0 0] 26) = W' := ⟨_, rfl⟩
                      rw [hW3] at RW3 bb
                      have bW3 := bW2.trans (bb.mono hB2)
                      have hB3 := bW3.size
                      have hS3 : W3.cell? ⟨w.heap.size + 1, 0, none⟩ = some (.int .i64 p) ∧ W3.cell? ⟨w.heap.size + 1, 1, none⟩ = some (.slice la ln lc) ∧ W3.cell? ⟨w.heap.size + 1, 2, none⟩ = some (.slice ca cn cc) ∧ W3.cell? ⟨w.heap.size + 1, 3, none⟩ = some (.slice qa qn qc) := by obtain ⟨j0, j1, j2, j3⟩ := yA.out.below bW3; exact ⟨j0, j1, j2, j3⟩
                      rw [hW3, hgb]
                      rw [hgb] at n210
                      replace hW3 := Lib.hid hW3
                      replace hgb := Lib.hid hgb
                      refine hK.out _ _ hS3 fun _ => ?_
                      clear hK KK bb RW2 oo
                      obtain ⟨t0, t1, t2, t3⟩ := RW3.cells4 n210
                      have ft0 := RW3.frz4 n210 0
                      have ft1 := RW3.frz4 n210 1
                      have ft2 := RW3.frz4 n210 2
                      have ft3 := RW3.frz4 n210 3
                      have lt := (RW3.low4 n210)
                      obtain ⟨f4, RW4, mm, oo⟩ := RW3.all4 n210 (.int .i64 p) (.slice la ln lc) (.slice u1 u2 u3) (.slice qa qn qc)
                      replace n100 := (oo (10, 0) (by decide)).trans n100
                      replace n110 := (oo (11, 0) (by decide)).trans n110
                      replace n200 := (oo (20, 0) (by decide)).trans n200
                      clear n210
                      have n210 := mm
                      have bW4 := Below.all4 (g := gb) bW3 lt.1 (.int .i64 p) (.slice la ln lc) (.slice u1 u2 u3) (.slice qa qn qc)
                      obtain ⟨W4, hW4⟩ : ∃ W' : World, (((W3.setCell ⟨gb, 0, none⟩ (.int .i64 p)).setCell ⟨gb, 1, none⟩ (.slice la ln lc)).setCell ⟨gb, 2, none⟩ (.slice u1 u2 u3)).setCell ⟨gb, 3, none⟩ (.slice qa qn qc) = W' := ⟨_, rfl⟩
                      rw [hW4] at RW4 bW4
                      have hS4 : W4.cell? ⟨w.heap.size + 1, 0, none⟩ = some (.int .i64 p) ∧ W4.cell? ⟨w.heap.size + 1, 1, none⟩ = some (.slice la ln lc) ∧ W4.cell? ⟨w.heap.size + 1, 2, none⟩ = some (.slice ca cn cc) ∧ W4.cell? ⟨w.heap.size + 1, 3, none⟩ = some (.slice qa qn qc) := by obtain ⟨j0, j1, j2, j3⟩ := yA.out.below bW4; exact ⟨j0, j1, j2, j3⟩
                      replace hW4 := Lib.hid hW4
                      refine wpAnyH_ready (rs := [13]) (by kernel_rfl) (by simp) (AllReadyH.cons rfl (fun KK hK => ?_) AllReadyH.nil)
                      go_simp
                      rw [hW4.out]
                      refine hK.out _ _ hS4 fun _ => ?_
                      clear hK KK t0 t1 t2 t3 ft0 ft1 ft2 ft3 mm oo lt RW3 hW4
                      refine wpAnyH_done (by kernel_rfl) ?_ _
                      refine NoPanic.normal ?_
                      replace n200 := Lib.hid n200
                      replace n210 := Lib.hid n210
                      replace n100 := Lib.hid n100
                      replace n110 := Lib.hid n110
                      replace RW4 := Lib.hid RW4
                      go_wp2
                      go_meet
                      case rel => exact ⟨gb, u1, u2, u3, f4, rfl, bW4, RW4.out, n200.out, n210.out, n100.out, n110.out⟩
                  · go_simp
                    obtain ⟨f5, RW5, n210, oo⟩ := RW1.box4 (21, 0) hB1 26 (.int .i64 0) (.slice none 0 0) (.slice none 0 0) (.slice none 0 0)
                    replace n100 := (oo (10, 0) (by decide)).trans n100
                    replace n110 := (oo (11, 0) (by decide)).trans n110
                    replace n200 := (oo (20, 0) (by decide)).trans n200
                    have bb := belowAlloc W1 (.cells #[.int .i64 0, .slice none 0 0, .slice none 0 0, .slice none 0 0] 26)
                    obtain ⟨gb, hgb⟩ : ∃ g, W1.heap.size = g := ⟨_, rfl⟩
                    obtain ⟨W5, hW5⟩ : ∃ W' : World, W1.alloc (.cells #[.int .i64 0, .slice none 0 0, .slice none 0 0, .slice none 0 0] 26) = W' := ⟨_, rfl⟩
                    rw [hW5] at RW5 bb
                    have bW5 := bW1.trans (bb.mono hB1)
                    have hB5 := bW5.size
                    have hS5 : W5.cell? ⟨w.heap.size + 1, 0, none⟩ = some (.int .i64 p) ∧ W5.cell? ⟨w.heap.size + 1, 1, none⟩ = some (.slice la ln lc) ∧ W5.cell? ⟨w.heap.size + 1, 2, none⟩ = some (.slice ca cn cc) ∧ W5.cell? ⟨w.heap.size + 1, 3, none⟩ = some (.slice qa qn qc) := by obtain ⟨j0, j1, j2, j3⟩ := yA.out.below bW5; exact ⟨j0, j1, j2, j3⟩
                    rw [hW5, hgb]
                    rw [hgb] at n210
                    replace hW5 := Lib.hid hW5
                    replace hgb := Lib.hid hgb
                    refine hK.out _ _ hS5 fun _ => ?_
                    clear hK KK bb RW1 oo
                    refine wpAnyH_ready (rs := [8]) (by kernel_rfl) (by simp) (AllReadyH.cons rfl (fun KK hK => ?_) (AllReadyH.nil))
                    · refine step_appIH rfl _ _ rfl wA.heap.size (.slice u1 u2 u3) (.slice sa sn sc) C x2 rfl rfl (RW5.ownI n200) (hYA.out.below bW5) hCY.out hB5 ?_
                      intro ev W6 ho bb hgr hob
                      obtain ⟨f6, RW6, mm, oo⟩ := RW5.appI n200 ho hgr hob
                      replace n100 := (oo (10, 0) (by decide)).trans n100
                      replace n110 := (oo (11, 0) (by decide)).trans n110
                      replace n210 := (oo (21, 0) (by decide)).trans n210
                      clear n200
                      have n200 := mm
                      obtain ⟨u1, u2, u3, rfl⟩ := ho.at.shape
                      clear ho hgr hob mm
                      have bW6 := bW5.trans bb
                      have hB6 := bW6.size
                      have hS6 : W6.cell? ⟨w.heap.size + 1, 0, none⟩ = some (.int .i64 p) ∧ W6.cell? ⟨w.heap.size + 1, 1, none⟩ = some (.slice la ln lc) ∧ W6.cell? ⟨w.heap.size + 1, 2, none⟩ = some (.slice ca cn cc) ∧ W6.cell? ⟨w.heap.size + 1, 3, none⟩ = some (.slice qa qn qc) := by obtain ⟨j0, j1, j2, j3⟩ := yA.out.below bW6; exact ⟨j0, j1, j2, j3⟩
                      refine hK.out _ _ hS6 fun _ => ?_
                      clear hK KK bb RW5 oo
                      refine takeD (i := 11) (v := ?_) (some 105) rfl rfl (by kernel_rfl) (by kernel_rfl) (by kernel_rfl) (fun _ _ _ h => h) (Or.inl ⟨by rfl, ?_⟩) hS6 ?_
                      rotate_left
                      · rintro W' ⟨s0, s1, s2, s3⟩; go_simp; try with_reducible rfl
                      simp only [Act.put, List.setIfInBounds_toArray]
                      obtain ⟨t0, t1, t2, t3⟩ := RW6.cells4 n210
                      have ft0 := RW6.frz4 n210 0
                      have ft1 := RW6.frz4 n210 1
                      have ft2 := RW6.frz4 n210 2
                      have ft3 := RW6.frz4 n210 3
                      have lt := (RW6.low4 n210)
                      obtain ⟨f7, RW7, mm, oo⟩ := RW6.all4 n210 (.int .i64 p) (.slice la ln lc) (.slice u1 u2 u3) (.slice qa qn qc)
                      replace n100 := (oo (10, 0) (by decide)).trans n100
                      replace n110 := (oo (11, 0) (by decide)).trans n110
                      replace n200 := (oo (20, 0) (by decide)).trans n200
                      clear n210
                      have n210 := mm
                      have bW7 := Below.all4 (g := gb) bW6 lt.1 (.int .i64 p) (.slice la ln lc) (.slice u1 u2 u3) (.slice qa qn qc)
                      obtain ⟨W7, hW7⟩ : ∃ W' : World, (((W6.setCell ⟨gb, 0, none⟩ (.int .i64 p)).setCell ⟨gb, 1, none⟩ (.slice la ln lc)).setCell ⟨gb, 2, none⟩ (.slice u1 u2 u3)).setCell ⟨gb, 3, none⟩ (.slice qa qn qc) = W' := ⟨_, rfl⟩
                      rw [hW7] at RW7 bW7
                      have hS7 : W7.cell? ⟨w.heap.size + 1, 0, none⟩ = some (.int .i64 p) ∧ W7.cell? ⟨w.heap.size + 1, 1, none⟩ = some (.slice la ln lc) ∧ W7.cell? ⟨w.heap.size + 1, 2, none⟩ = some (.slice ca cn cc) ∧ W7.cell? ⟨w.heap.size + 1, 3, none⟩ = some (.slice qa qn qc) := by obtain ⟨j0, j1, j2, j3⟩ := yA.out.below bW7; exact ⟨j0, j1, j2, j3⟩
                      replace hW7 := Lib.hid hW7
                      refine wpAnyH_ready (rs := [13]) (by kernel_rfl) (by simp) (AllReadyH.cons rfl (fun KK hK => ?_) AllReadyH.nil)
                      go_simp
                      rw [hW7.out]
                      refine hK.out _ _ hS7 fun _ => ?_
                      clear hK KK t0 t1 t2 t3 ft0 ft1 ft2 ft3 mm oo lt RW6 hW7
                      refine wpAnyH_done (by kernel_rfl) ?_ _
                      refine NoPanic.normal ?_
                      replace n200 := Lib.hid n200
                      replace n210 := Lib.hid n210
                      replace n100 := Lib.hid n100
                      replace n110 := Lib.hid n110
                      replace RW7 := Lib.hid RW7
                      go_wp2
                      go_meet
                      case rel => exact ⟨gb, u1, u2, u3, f7, rfl, bW7, RW7.out, n200.out, n210.out, n100.out, n110.out⟩
                · go_simp
                  obtain ⟨f8, RW8, n210, oo⟩ := RW0.box4 (21, 0) hB0 26 (.int .i64 0) (.slice none 0 0) (.slice none 0 0) (.slice none 0 0)
                  replace n100 := (oo (10, 0) (by decide)).trans n100
                  replace n110 := (oo (11, 0) (by decide)).trans n110
                  have bb := belowAlloc W0 (.cells #[.int .i64 0, .slice none 0 0, .slice none 0 0, .slice none 0 0] 26)
                  obtain ⟨gb, hgb⟩ : ∃ g, W0.heap.size = g := ⟨_, rfl⟩
                  obtain ⟨W8, hW8⟩ : ∃ W' : World, W0.alloc (.cells #[.int .i64 0, .slice none 0 0, .slice none 0 0, .slice none 0 0] 26) = W' := ⟨_, rfl⟩
                  rw [hW8] at RW8 bb
                  have bW8 := bW0.trans (bb.mono hB0)
                  have hB8 := bW8.size
                  have hS8 : W8.cell? ⟨w.heap.size + 1, 0, none⟩ = some (.int .i64 p) ∧ W8.cell? ⟨w.heap.size + 1, 1, none⟩ = some (.slice la ln lc) ∧ W8.cell? ⟨w.heap.size + 1, 2, none⟩ = some (.slice ca cn cc) ∧ W8.cell? ⟨w.heap.size + 1, 3, none⟩ = some (.slice qa qn qc) := by obtain ⟨j0, j1, j2, j3⟩ := yA.out.below bW8; exact ⟨j0, j1, j2, j3⟩
                  rw [hW8, hgb]
                  rw [hgb] at n210
                  replace hW8 := Lib.hid hW8
                  replace hgb := Lib.hid hgb
                  refine hK.out _ _ hS8 fun _ => ?_
                  clear hK KK bb RW0 oo
                  refine wpAnyH_ready (rs := [6]) (by kernel_rfl) (by simp) (AllReadyH.cons rfl (fun KK hK => ?_) (AllReadyH.nil))
                  · go_simp
                    refine (copy_any (.slice ca cn cc) C W8 (hCw.out.below bW8) hCl.out).mono ?_
                    rintro e W9 ⟨ev, rfl, bb, hv⟩
                    obtain ⟨f9, RW9, n200, oo⟩ := RW8.addE (20, 0) (r' := rowI ev C) bb (hv.mono hB8) (fun k hk => (hv.lt k hk).1)
                    replace n100 := (oo (10, 0) (by decide)).trans n100
                    replace n110 := (oo (11, 0) (by decide)).trans n110
                    replace n210 := (oo (21, 0) (by decide)).trans n210
                    obtain ⟨u1, u2, u3, rfl⟩ := hv.at.shape
                    clear hv
                    have bW9 := bW8.trans (bb.mono hB8)
                    have hB9 := bW9.size
                    have hS9 : W9.cell? ⟨w.heap.size + 1, 0, none⟩ = some (.int .i64 p) ∧ W9.cell? ⟨w.heap.size + 1, 1, none⟩ = some (.slice la ln lc) ∧ W9.cell? ⟨w.heap.size + 1, 2, none⟩ = some (.slice ca cn cc) ∧ W9.cell? ⟨w.heap.size + 1, 3, none⟩ = some (.slice qa qn qc) := by obtain ⟨j0, j1, j2, j3⟩ := yA.out.below bW9; exact ⟨j0, j1, j2, j3⟩
                    refine hK.out _ _ hS9 fun _ => ?_
                    clear hK KK bb RW8 oo
                    refine wpAnyH_ready (rs := [8]) (by kernel_rfl) (by simp) (AllReadyH.cons rfl (fun KK hK => ?_) (AllReadyH.nil))
                    · refine step_appIH rfl _ _ rfl wA.heap.size (.slice u1 u2 u3) (.slice sa sn sc) C x2 rfl rfl (RW9.ownI n200) (hYA.out.below bW9) hCY.out hB9 ?_
                      intro ev W10 ho bb hgr hob
                      obtain ⟨f10, RW10, mm, oo⟩ := RW9.appI n200 ho hgr hob
                      replace n100 := (oo (10, 0) (by decide)).trans n100
                      replace n110 := (oo (11, 0) (by decide)).trans n110
                      replace n210 := (oo (21, 0) (by decide)).trans n210
                      clear n200
                      have n200 := mm
                      obtain ⟨u1, u2, u3, rfl⟩ := ho.at.shape
                      clear ho hgr hob mm
                      have bW10 := bW9.trans bb
                      have hB10 := bW10.size
                      have hS10 : W10.cell? ⟨w.heap.size + 1, 0, none⟩ = some (.int .i64 p) ∧ W10.cell? ⟨w.heap.size + 1, 1, none⟩ = some (.slice la ln lc) ∧ W10.cell? ⟨w.heap.size + 1, 2, none⟩ = some (.slice ca cn cc) ∧ W10.cell? ⟨w.heap.size + 1, 3, none⟩ = some (.slice qa qn qc) := by obtain ⟨j0, j1, j2, j3⟩ := yA.out.below bW10; exact ⟨j0, j1, j2, j3⟩
                      refine hK.out _ _ hS10 fun _ => ?_
                      clear hK KK bb RW9 oo
                      refine takeD (i := 11) (v := ?_) (some 105) rfl rfl (by kernel_rfl) (by kernel_rfl) (by kernel_rfl) (fun _ _ _ h => h) (Or.inl ⟨by rfl, ?_⟩) hS10 ?_
                      rotate_left
                      · rintro W' ⟨s0, s1, s2, s3⟩; go_simp; try with_reducible rfl
                      simp only [Act.put, List.setIfInBounds_toArray]
                      obtain ⟨t0, t1, t2, t3⟩ := RW10.cells4 n210
                      have ft0 := RW10.frz4 n210 0
                      have ft1 := RW10.frz4 n210 1
                      have ft2 := RW10.frz4 n210 2
                      have ft3 := RW10.frz4 n210 3
                      have lt := (RW10.low4 n210)
                      obtain ⟨f11, RW11, mm, oo⟩ := RW10.all4 n210 (.int .i64 p) (.slice la ln lc) (.slice u1 u2 u3) (.slice qa qn qc)
                      replace n100 := (oo (10, 0) (by decide)).trans n100
                      replace n110 := (oo (11, 0) (by decide)).trans n110
                      replace n200 := (oo (20, 0) (by decide)).trans n200
                      clear n210
                      have n210 := mm
                      have bW11 := Below.all4 (g := gb) bW10 lt.1 (.int .i64 p) (.slice la ln lc) (.slice u1 u2 u3) (.slice qa qn qc)
                      obtain ⟨W11, hW11⟩ : ∃ W' : World, (((W10.setCell ⟨gb, 0, none⟩ (.int .i64 p)).setCell ⟨gb, 1, none⟩ (.slice la ln lc)).setCell ⟨gb, 2, none⟩ (.slice u1 u2 u3)).setCell ⟨gb, 3, none⟩ (.slice qa qn qc) = W' := ⟨_, rfl⟩
                      rw [hW11] at RW11 bW11
                      have hS11 : W11.cell? ⟨w.heap.size + 1, 0, none⟩ = some (.int .i64 p) ∧ W11.cell? ⟨w.heap.size + 1, 1, none⟩ = some (.slice la ln lc) ∧ W11.cell? ⟨w.heap.size + 1, 2, none⟩ = some (.slice ca cn cc) ∧ W11.cell? ⟨w.heap.size + 1, 3, none⟩ = some (.slice qa qn qc) := by obtain ⟨j0, j1, j2, j3⟩ := yA.out.below bW11; exact ⟨j0, j1, j2, j3⟩
                      replace hW11 := Lib.hid hW11
                      refine wpAnyH_ready (rs := [13]) (by kernel_rfl) (by simp) (AllReadyH.cons rfl (fun KK hK => ?_) AllReadyH.nil)
                      go_simp
                      rw [hW11.out]
                      refine hK.out _ _ hS11 fun _ => ?_
                      clear hK KK t0 t1 t2 t3 ft0 ft1 ft2 ft3 mm oo lt RW10 hW11
                      refine wpAnyH_done (by kernel_rfl) ?_ _
                      refine NoPanic.normal ?_
                      replace n200 := Lib.hid n200
                      replace n210 := Lib.hid n210
                      replace n100 := Lib.hid n100
                      replace n110 := Lib.hid n110
                      replace RW11 := Lib.hid RW11
                      go_wp2
                      go_meet
                      case rel => exact ⟨gb, u1, u2, u3, f11, rfl, bW11, RW11.out, n200.out, n210.out, n100.out, n110.out⟩
              case rest =>
                obtain ⟨g2, u1, u2, u3, f2, rfl, bD, RD, n200, n210, n100, n110⟩ := hcut
                obtain ⟨wD, rfl⟩ : ∃ wD : World, wD = wc := ⟨_, rfl⟩
                have cD := bA.trans (bD.mono bA.size)
                obtain ⟨⟨z0, z1, z2⟩, -, -, -⟩ := q.below cD
                have T1 := RD.cells4 n110
                have T2 := RD.cells4 n210
                have iX := (RD.ownI n100).at
                have iY := (RD.ownI n200).at
                clear n100' n110' n200 n210 n100 n110 RC RD RA
                have hR3 := hr.out.r3
                have hroo := hro.out
                have hcx : (C ++ x1).length = C.length + x1.length := List.length_append
                have hcy : (C ++ x2).length = (C ++ x1).length := by rw [List.length_append, List.length_append, htw.out.len]
                have hs9 := hsum2.out
                have hl9 := hlow2.out
                have hroX : RowOk K p L (C ++ x1) Q := ⟨hroo.k1, hroo.k4, hroo.p1, hroo.p2, hroo.l1, hroo.l2, hroo.q1, hroo.q2, by omega, hroo.sL, fun s hs => (List.mem_append.1 hs).elim (hroo.sC s) (htw.out.sa s), hroo.sQ⟩
                have hroY : RowOk K p L (C ++ x2) Q := ⟨hroo.k1, hroo.k4, hroo.p1, hroo.p2, hroo.l1, hroo.l2, hroo.q1, hroo.q2, by omega, hroo.sL, fun s hs => (List.mem_append.1 hs).elim (hroo.sC s) (htw.out.sb s), hroo.sQ⟩
                have hp2 := hroo.p2
                have hl1 := hroo.l1
                have hl2 := hroo.l2
                have hq1 := hroo.q1
                have hq2 := hroo.q2
                have hsame := row_same r p K la ln lc e1 e2 e3 qa qn qc L (C ++ x1) Q la ln lc u1 u2 u3 qa qn qc L (C ++ x2) Q wD (hg.out.below cD) (hL.out.below cD) iX (hQ.out.below cD) (hL.out.below cD) iY (hQ.out.below cD) rfl hcy rfl hroX hroY
                rw [decide_eq_false (piece_ne htw.out.len htw.out.ne (by omega) (by omega))] at hsame
                have himg : imgP K R T (pieceP p L (C ++ x1) Q (p - R - L.length - R) (L.length + ((C ++ x1).length + 2 * R) + Q.length + 2 * R)) = imgP K R T (pieceP p L (C ++ x2) Q (p - R - L.length - R) (L.length + ((C ++ x1).length + 2 * R) + Q.length + 2 * R)) := twins_piece htw.out (by omega) (by omega)
                have hIl : (imgP K R T (pieceP p L (C ++ x1) Q (p - R - L.length - R) (L.length + ((C ++ x1).length + 2 * R) + Q.length + 2 * R))).length = L.length + ((C ++ x1).length + 2 * R) + Q.length := by rw [imgP_length, pieceP_len]; omega
                have hIs : Syms K (imgP K R T (pieceP p L (C ++ x1) Q (p - R - L.length - R) (L.length + ((C ++ x1).length + 2 * R) + Q.length + 2 * R))) := imgP_syms hroo.k1 hr.out.syms
                have stX := fun (w' : World) (hb : Below wD.heap.size wD w') => row_step r p K R va vn vc T la ln lc e1 e2 e3 qa qn qc L (C ++ x1) Q w' (hg.out.below (Below.step cD hb)) (h.out.below (Below.step cD hb)) hr.out (hL.out.below (Below.step cD hb)) (iX.below hb) (hQ.out.below (Below.step cD hb)) hroX (by omega) (by omega)
                have stY := fun (w' : World) (hb : Below wD.heap.size wD w') => row_step r p K R va vn vc T la ln lc u1 u2 u3 qa qn qc L (C ++ x2) Q w' (hg.out.below (Below.step cD hb)) (h.out.below (Below.step cD hb)) hr.out (hL.out.below (Below.step cD hb)) (iY.below hb) (hQ.out.below (Below.step cD hb)) hroY (by omega) (by omega)
                unfold StepPost at stX stY
                rw [hcy, ← himg] at stY
                obtain ⟨I, hI⟩ : ∃ I, imgP K R T (pieceP p L (C ++ x1) Q (p - R - L.length - R) (L.length + ((C ++ x1).length + 2 * R) + Q.length + 2 * R)) = I := ⟨_, rfl⟩
                rw [hI] at stX stY hIl hIs
                obtain ⟨n, hn⟩ : ∃ n, (C ++ x1).length + 2 * R = n := ⟨_, rfl⟩
                rw [hn] at stX stY hIl
                have g1l : (I.take L.length).length = L.length := by rw [List.length_take]; omega
                have g2l : ((I.drop L.length).take n).length = n := by rw [List.length_take, List.length_drop]; omega
                have g3l : (I.drop (L.length + n)).length = Q.length := by rw [List.length_drop]; omega
                have hroI : RowOk K (p - (R : Int)) (I.take L.length) ((I.drop L.length).take n) (I.drop (L.length + n)) := ⟨hroo.k1, hroo.k4, by omega, by omega, by omega, by omega, by omega, by omega, by omega, syms_take hIs _, syms_take (syms_drop hIs _) _, syms_drop hIs _⟩
                obtain ⟨I1, hI1⟩ : ∃ I1, I.take L.length = I1 := ⟨_, rfl⟩
                obtain ⟨I2, hI2⟩ : ∃ I2, (I.drop L.length).take n = I2 := ⟨_, rfl⟩
                obtain ⟨I3, hI3⟩ : ∃ I3, I.drop (L.length + n) = I3 := ⟨_, rfl⟩
                rw [hI1, hI2, hI3] at stX stY hroI
                obtain ⟨a9, ha9⟩ : ∃ a9, p - (R : Int) = a9 := ⟨_, rfl⟩
                rw [ha9] at stX stY hroI
                have T1' := Lib.hid T1
                have T2' := Lib.hid T2
                replace hsame := Lib.hid hsame
                replace stX := Lib.hid stX
                replace stY := Lib.hid stY
                replace hroI := Lib.hid hroI
                replace hroX := Lib.hid hroX
                replace hroY := Lib.hid hroY
                replace himg := Lib.hid himg
                replace hI := Lib.hid hI
                replace hI1 := Lib.hid hI1
                replace hI2 := Lib.hid hI2
                replace hI3 := Lib.hid hI3
                replace hn := Lib.hid hn
                replace hIl := Lib.hid hIl
                replace hIs := Lib.hid hIs
                replace g1l := Lib.hid g1l
                replace g2l := Lib.hid g2l
                replace g3l := Lib.hid g3l
                replace ha9 := Lib.hid ha9
                replace iX := Lib.hid iX
                replace iY := Lib.hid iY
                replace hcx := Lib.hid hcx
                replace hcy := Lib.hid hcy
                replace hs9 := Lib.hid hs9
                replace hl9 := Lib.hid hl9
                replace hroo := Lib.hid hroo
                replace hR3 := Lib.hid hR3
                obtain ⟨t0, t1, t2, t3⟩ := T1
                obtain ⟨t4, t5, t6, t7⟩ := T2
                go_wp2_with fail
                refine hsame.out.mono ?_
                rintro e wE ⟨_, _, rfl, bE, rfl, rfl⟩
                have cE := Below.step cD bE
                clear z0 z1 z2 t0 t1 t2 t3 t4 t5 t6 t7
                obtain ⟨⟨z0, z1, z2⟩, -, -, -⟩ := q.below cE
                obtain ⟨t0, t1, t2, t3⟩ := T1'.out.below bE
                go_wp2_with fail
                refine (stX.out wE bE).mono ?_
                rintro e wF ⟨_, _, rfl, bF, rfl, v1, v2, v3, rfl, o1, o2, o3⟩
                obtain ⟨v1a, v1n, v1c, rfl⟩ := o1.at.shape
                obtain ⟨v2a, v2n, v2c, rfl⟩ := o2.at.shape
                obtain ⟨v3a, v3n, v3c, rfl⟩ := o3.at.shape
                have V4 := Cells4.alloc wF 26 (.int .i64 a9) (.slice v1a v1n v1c) (.slice v2a v2n v2c) (.slice v3a v3n v3c)
                have bG := belowAlloc wF (.cells #[.int .i64 a9, .slice v1a v1n v1c, .slice v2a v2n v2c, .slice v3a v3n v3c] 26)
                obtain ⟨wG, hwG⟩ : ∃ W : World, wF.alloc (.cells #[.int .i64 a9, .slice v1a v1n v1c, .slice v2a v2n v2c, .slice v3a v3n v3c] 26) = W := ⟨_, rfl⟩
                obtain ⟨gG, hgG⟩ : ∃ g, wF.heap.size = g := ⟨_, rfl⟩
                rw [hwG] at V4 bG
                rw [hgG] at V4
                replace o1 := Lib.hid o1.at
                replace o2 := Lib.hid o2.at
                replace o3 := Lib.hid o3.at
                replace hwG := Lib.hid hwG
                replace hgG := Lib.hid hgG
                have bFG := Below.step bF bG
                have bDG := Below.step bE bFG
                have cG := Below.step cE bFG
                clear z0 z1 z2 t0 t1 t2 t3
                obtain ⟨⟨z0, z1, z2⟩, -, -, -⟩ := q.below cG
                obtain ⟨t4, t5, t6, t7⟩ := T2'.out.below bDG
                go_upto_region 19 with fail
                rw [hwG.out, hgG.out]
                go_wp2_with fail
                refine (stY.out wG bDG).mono ?_
                rintro e wH ⟨_, _, rfl, bH, rfl, m1, m2, m3, rfl, r1, r2, r3⟩
                obtain ⟨m1a, m1n, m1c, rfl⟩ := r1.at.shape
                obtain ⟨m2a, m2n, m2c, rfl⟩ := r2.at.shape
                obtain ⟨m3a, m3n, m3c, rfl⟩ := r3.at.shape
                have M4 := Cells4.alloc wH 26 (.int .i64 a9) (.slice m1a m1n m1c) (.slice m2a m2n m2c) (.slice m3a m3n m3c)
                have bI := belowAlloc wH (.cells #[.int .i64 a9, .slice m1a m1n m1c, .slice m2a m2n m2c, .slice m3a m3n m3c] 26)
                obtain ⟨wI, hwI⟩ : ∃ W : World, wH.alloc (.cells #[.int .i64 a9, .slice m1a m1n m1c, .slice m2a m2n m2c, .slice m3a m3n m3c] 26) = W := ⟨_, rfl⟩
                obtain ⟨gI, hgI⟩ : ∃ g, wH.heap.size = g := ⟨_, rfl⟩
                rw [hwI] at M4 bI
                rw [hgI] at M4
                have bGI := Below.step bH bI
                have cI := Below.step cG bGI
                have last := row_same r a9 K v1a v1n v1c v2a v2n v2c v3a v3n v3c I1 I2 I3 m1a m1n m1c m2a m2n m2c m3a m3n m3c I1 I2 I3 wI (hg.out.below cI) (o1.out.below (Below.step bG bGI)) (o2.out.below (Below.step bG bGI)) (o3.out.below (Below.step bG bGI)) (r1.at.below bI) (r2.at.below bI) (r3.at.below bI) rfl rfl rfl hroI.out hroI.out
                rw [decide_eq_true rfl] at last
                replace last := Lib.hid last
                replace hwI := Lib.hid hwI
                replace hgI := Lib.hid hgI
                clear z0 z1 z2 t4 t5 t6 t7 r1 r2 r3
                obtain ⟨⟨z0, z1, z2⟩, -, -, -⟩ := q.below cI
                obtain ⟨t0, t1, t2, t3⟩ := V4.below bGI
                obtain ⟨t4, t5, t6, t7⟩ := M4
                go_upto_region 20 with fail
                rw [hwI.out, hgI.out]
                go_wp2_with fail
                refine last.out.mono ?_
                rintro e wJ ⟨_, _, rfl, bJ, rfl, rfl⟩
                have bEnd := Below.step b0 (Below.step cI bJ)
                go_wp2
                go_ret
                exact ⟨_, rfl, bEnd, rfl⟩

theorem twinsStand_any (r : Nat → Addr) (k R : Int) (tv : Value) (T : List Int) (p : Int) (lv cv qv : Value) (L C Q : List Int) (av : Value) (A : List Int) (dv : Value) (D : List Int) (w : World) (hg : Glob r w) (h : IntsAt w tv T) (hL : IntsAt w lv L) (hC : IntsAt w cv C) (hQ : IntsAt w qv Q) (hA : IntsAt w av A) (hD : IntsAt w dv D) :
    Calls Tryd.prog 3 #[.agg #[.int .i64 k, .int .i64 R, tv], .agg #[.int .i64 p, lv, cv, qv], av, dv] w (Ret1 (fun x _ => x = .bool true) w) := by
  obtain ⟨va, vn, vc, rfl⟩ := h.shape
  obtain ⟨la, ln, lc, rfl⟩ := hL.shape
  obtain ⟨ca, cn, cc, rfl⟩ := hC.shape
  obtain ⟨qa, qn, qc, rfl⟩ := hQ.shape
  obtain ⟨aa, an, ac, rfl⟩ := hA.shape
  obtain ⟨ba, bn, bc, rfl⟩ := hD.shape
  cases hc : smallP k R T with
  | some t => exact ts_bad r k R va vn vc T p la ln lc ca cn cc qa qn qc L C Q aa an ac A ba bn bc D w hg h hL hC hQ hA hD t hc
  | none =>
    obtain ⟨hck, hl⟩ := smallP_none hc
    obtain ⟨K, N, rfl, rfl, hr⟩ := checkP_none hck
    exact ts_ok r K N va vn vc T p la ln lc ca cn cc qa qn qc L C Q aa an ac A ba bn bc D w hg h hL hC hQ hA hD hr hl
end Go.Proofs.YtilpckngghffoaaDoor

namespace Go.Proofs.YtilpckngghffoaaDoor
open Go.ChangeShapes Go.WideShapes Go.ChangeAt Go.RowKit Go.Joins
set_option maxRecDepth 100000

theorem own : ownKnob Tryd.prog.godebug = none := by kernel_rfl
theorem laidOut : laidOutB Tryd.prog = true := by kernel_rfl
theorem cellsInt : Tryd.prog.cellsOf 3 = 1 := by kernel_rfl
theorem uInt : Tryd.prog.underlying 3 = some (.int .i64) := by kernel_rfl
theorem bytesInt : Tryd.prog.bytesOf 3 = 8 := by kernel_rfl

theorem i64_of_wf {n : Int} (h : (Lit.int .i64 n).wf = true) : I64 n := by
  have := bounds_i64 h
  unfold I64
  omega

/-- A []int that came in. -/
theorem open_intsV {H : Type} {enc : TypeId × Value → H} {W : World} {held : Bool} {fuel : Nat} {v : Value} {y : DataW H × List MemPlace}
    (h : DataW.trod enc Tryd.prog W 0 (fun _ => true) held fuel 22 [v] = some y) (hw : ∀ n ∈ y.1.weights Tryd.prog 22, n ≤ reachBytes) :
    ∃ xs, IntsAt W v xs ∧ xs.length ≤ 17592186043904 ∧ ∀ x ∈ xs, I64 x := by
  rcases open_ints uInts uInt cellsInt h with ⟨hcs, _⟩ | ⟨a, len, cap, zs, hcs, _, hl, hm, hz, hx, hcell, hwz⟩
  · simp at hcs
    subst hcs
    exact ⟨[], (OwnI.nil 0 W).at, by simp, by simp⟩
  · simp at hcs
    subst hcs
    simp only [if_true] at hz
    have hzl : (zs.take len).length = len := by simp; omega
    refine ⟨zs.take len, ⟨some a, cap, by rw [hzl], by rw [hzl]; exact hl, hm, (fun e => by cases e), fun i hi => ?_⟩, ?_, fun x hx => i64_of_wf (hwz x (List.mem_of_mem_take hx))⟩
    · have hi' : i < zs.length := by rw [hzl] at hi; omega
      show W.cell? (a.add i) = _
      rw [hcell i hi']
      simp [List.getD, hi']
    · rw [hx] at hw
      have := hw ((lits (H := H) .i64 (zs.take len)).length * 8 + (lits (H := H) .i64 (zs.drop len)).length * 8) (by
        simp only [DataW.weights, uInts, bytesInt, List.mem_cons]
        left; omega)
      simp only [lits, List.length_map, reachBytes] at this
      omega

theorem open_intsT {H : Type} {enc : TypeId × Value → H} {W : World} {held : Bool} {v : Value} {d : DataW H} {p : List MemPlace} {b0 : Nat}
    (hv : Value.okWide Tryd.prog W .any b0 22 v) (h : DataW.Trod enc Tryd.prog W 0 (fun _ => true) held 22 v d p) (hw : ∀ n ∈ d.weights Tryd.prog 22, n ≤ reachBytes) :
    ∃ xs, IntsAt W v xs ∧ xs.length ≤ 17592186043904 ∧ ∀ x ∈ xs, I64 x := by
  obtain ⟨a, l, c, rfl⟩ := okWide_slice uInts hv
  obtain ⟨fuel, hf⟩ := h
  exact open_intsV (y := (d, p)) (by simpa [Value.cells] using hf) hw

theorem weights_each3 {H : Type} {t0 t1 t2 : TypeId} {y0 y1 y2 : DataW H} {n : Nat} (h : n ∈ y2.weights Tryd.prog t2) : n ∈ DataW.weightsEach Tryd.prog [t0, t1, t2] [y0, y1, y2] := by
  simp only [DataW.weightsEach, List.mem_append]
  exact .inr (.inr (.inl h))

/-- A rule that came in. -/
theorem open_ruleV {H : Type} {enc : TypeId × Value → H} {W : World} {held : Bool} {v : Value} {d : DataW H} {p : List MemPlace} {b0 : Nat}
    (hv : Value.okWide Tryd.prog W .any b0 24 v) (h : DataW.Trod enc Tryd.prog W 0 (fun _ => true) held 24 v d p) (hw : ∀ n ∈ d.weights Tryd.prog 24, n ≤ reachBytes) :
    ∃ (k R : Int) (u : Value) (xs : List Int), v = .agg #[.int .i64 k, .int .i64 R, u] ∧ IntsAt W u xs ∧ xs.length ≤ 17592186043904 ∧ (∀ x ∈ xs, I64 x) ∧ I64 k ∧ I64 R := by
  obtain ⟨v0, v1, v2, y0, y1, y2, n, rfl, rfl, rfl, h0, h1, h2⟩ := open_agg3 Tryd.underlying24 (by kernel_rfl) (by kernel_rfl) hv h
  obtain ⟨a, e0, _, wa⟩ := DataW.trod_int uInt h0
  obtain ⟨b, e1, _, wb⟩ := DataW.trod_int uInt h1
  simp at e0 e1
  subst e0 e1
  obtain ⟨xs, hx, hl, hb⟩ := open_intsV h2 fun n hn => hw n (by
    simp only [DataW.weights, Tryd.underlying24]
    exact weights_each3 (t0 := 3) (t1 := 3) (t2 := 22) hn)
  exact ⟨a, b, v2, xs, rfl, hx, hl, hb, i64_of_wf wa, i64_of_wf wb⟩

/-! The package-level errors. -/
theorem star : "*" ++ "errors.errorString" = "*errors.errorString" := by decide
theorem rowES (u : TypeId) (h : Tryd.prog.typeName? 3 u = some "*errors.errorString") : u = 122 :=
  typeName_ptr_named (nm := "errors.errorString") (by rw [star]; kernel_rfl) (by kernel_rfl) (by decide) u (by rw [star]; exact h)
theorem pES : Tryd.prog.underlying 122 = some (.pointer 139) := by kernel_rfl
theorem cES : Tryd.prog.cellsOf 139 = 1 := by kernel_rfl
theorem cStr : Tryd.prog.cellsOf 9 = 1 := by kernel_rfl

def laid12 : List (String × DataW Unit) := [("eden/api.BadRule", Rows.laid_eden_api_BadRule), ("eden/api.BadWord", Rows.laid_eden_api_BadWord), ("eden/api.BadArg", Rows.laid_eden_api_BadArg), ("eden/api.TooBig", Rows.laid_eden_api_TooBig), ("eden/api.NoBudget", Rows.laid_eden_api_NoBudget), ("eden/api.BadText", Rows.laid_eden_api_BadText), ("eden/api.BadPatch", Rows.laid_eden_api_BadPatch), ("eden/api.BadCert", Rows.laid_eden_api_BadCert), ("eden/api.NoInverse", Rows.laid_eden_api_NoInverse), ("eden/api.BadLine", Rows.laid_eden_api_BadLine), ("eden/api.BadState", Rows.laid_eden_api_BadState), ("eden/api.Unknown", Rows.laid_eden_api_Unknown)]

theorem sentinel {n : String} {text : List UInt8} {r : List (String × DataW Unit)} {W : World} {g : Nat}
    (h : laidMet Tryd.prog ((n, .iface "*errors.errorString" (.ptr (.agg [.lit (.string text)]))) :: r) W)
    (hg : Tryd.prog.globalNamed n = some g) (ht : (Tryd.prog.globals[g]?).map (·.type) = some 29) :
    (∃ a : Addr, W.cell? ⟨g, 0, none⟩ = some (.iface 122 (.pointer (some a))) ∧ ∃ s, W.cell? a = some (.string s) ∧ s.data.toList = text) ∧ laidMet Tryd.prog r W := by
  refine ⟨?_, h.tail⟩
  obtain ⟨a, s, hv, hc, hs, _⟩ := laid_sentinel h hg ht Tryd.underlying29 rowES pES Tryd.underlying139 rfl rfl Tryd.underlying9 cES cStr
  exact ⟨a, by simpa using World.var?_cell hg hv 0, s, hc, hs⟩

def txt : Nat → List UInt8
  | 1 => [98, 97, 100, 32, 114, 117, 108, 101]
  | 2 => [98, 97, 100, 32, 119, 111, 114, 100]
  | 3 => [98, 97, 100, 32, 97, 114, 103, 117, 109, 101, 110, 116]
  | 4 => [116, 111, 111, 32, 98, 105, 103]
  | 5 => [110, 111, 32, 98, 117, 100, 103, 101, 116]
  | 6 => [98, 97, 100, 32, 116, 101, 120, 116]
  | 7 => [98, 97, 100, 32, 112, 97, 116, 99, 104]
  | 8 => [98, 97, 100, 32, 99, 101, 114, 116, 105, 102, 105, 99, 97, 116, 101]
  | 9 => [110, 111, 32, 105, 110, 118, 101, 114, 115, 101]
  | 10 => [98, 97, 100, 32, 108, 105, 110, 101]
  | 11 => [98, 97, 100, 32, 115, 116, 97, 116, 101]
  | 99 => [117, 110, 107, 110, 111, 119, 110]
  | _ => []
theorem txt_apart : ∀ m n : Fin 12, 1 ≤ m.val → 1 ≤ n.val → txt m.val = txt n.val → m = n := by decide

theorem glob_of_laid {W : World} (h : laidMet Tryd.prog laid12 W) : ∃ r, Glob r W := by
  obtain ⟨⟨a1, c1, s1, e1, t1⟩, h⟩ := sentinel (text := txt 1) h (g := 0) (by kernel_rfl) (by kernel_rfl)
  obtain ⟨⟨a2, c2, s2, e2, t2⟩, h⟩ := sentinel (text := txt 2) h (g := 1) (by kernel_rfl) (by kernel_rfl)
  obtain ⟨⟨a3, c3, s3, e3, t3⟩, h⟩ := sentinel (text := txt 3) h (g := 2) (by kernel_rfl) (by kernel_rfl)
  obtain ⟨⟨a4, c4, s4, e4, t4⟩, h⟩ := sentinel (text := txt 4) h (g := 3) (by kernel_rfl) (by kernel_rfl)
  obtain ⟨⟨a5, c5, s5, e5, t5⟩, h⟩ := sentinel (text := txt 5) h (g := 4) (by kernel_rfl) (by kernel_rfl)
  obtain ⟨⟨a6, c6, s6, e6, t6⟩, h⟩ := sentinel (text := txt 6) h (g := 5) (by kernel_rfl) (by kernel_rfl)
  obtain ⟨⟨a7, c7, s7, e7, t7⟩, h⟩ := sentinel (text := txt 7) h (g := 6) (by kernel_rfl) (by kernel_rfl)
  obtain ⟨⟨a8, c8, s8, e8, t8⟩, h⟩ := sentinel (text := txt 8) h (g := 7) (by kernel_rfl) (by kernel_rfl)
  obtain ⟨⟨a9, c9, s9, e9, t9⟩, h⟩ := sentinel (text := txt 9) h (g := 8) (by kernel_rfl) (by kernel_rfl)
  obtain ⟨⟨a10, c10, s10, e10, t10⟩, h⟩ := sentinel (text := txt 10) h (g := 9) (by kernel_rfl) (by kernel_rfl)
  obtain ⟨⟨a11, c11, s11, e11, t11⟩, h⟩ := sentinel (text := txt 11) h (g := 10) (by kernel_rfl) (by kernel_rfl)
  obtain ⟨⟨a99, c99, s99, e99, t99⟩, h⟩ := sentinel (text := txt 99) h (g := 11) (by kernel_rfl) (by kernel_rfl)
  clear h
  have key : ∀ n : Nat, (1 ≤ n ∧ n ≤ 11) ∨ n = 99 → ∃ s, W.cell? ((fun n : Nat => match n with | 1 => a1 | 2 => a2 | 3 => a3 | 4 => a4 | 5 => a5 | 6 => a6 | 7 => a7 | 8 => a8 | 9 => a9 | 10 => a10 | 11 => a11 | _ => a99) n) = some (.string s) ∧ s.data.toList = txt n := by
    intro n hn
    have : n = 1 ∨ n = 2 ∨ n = 3 ∨ n = 4 ∨ n = 5 ∨ n = 6 ∨ n = 7 ∨ n = 8 ∨ n = 9 ∨ n = 10 ∨ n = 11 ∨ n = 99 := by omega
    rcases this with rfl | rfl | rfl | rfl | rfl | rfl | rfl | rfl | rfl | rfl | rfl | rfl
    · exact ⟨s1, e1, t1⟩
    · exact ⟨s2, e2, t2⟩
    · exact ⟨s3, e3, t3⟩
    · exact ⟨s4, e4, t4⟩
    · exact ⟨s5, e5, t5⟩
    · exact ⟨s6, e6, t6⟩
    · exact ⟨s7, e7, t7⟩
    · exact ⟨s8, e8, t8⟩
    · exact ⟨s9, e9, t9⟩
    · exact ⟨s10, e10, t10⟩
    · exact ⟨s11, e11, t11⟩
    · exact ⟨s99, e99, t99⟩
  refine ⟨(fun n : Nat => match n with | 1 => a1 | 2 => a2 | 3 => a3 | 4 => a4 | 5 => a5 | 6 => a6 | 7 => a7 | 8 => a8 | 9 => a9 | 10 => a10 | 11 => a11 | _ => a99), c1, c2, c3, c4, c5, c6, c7, c8, c9, c10, c11, c99, (fun n hn => ?_), fun m n hm1 hm2 hn1 hn2 he => ?_⟩
  · obtain ⟨s, hs, _⟩ := key n hn
    exact ⟨s, hs⟩
  · obtain ⟨s, hs, ts⟩ := key m.toNat (by omega)
    obtain ⟨s', hs', ts'⟩ := key n.toNat (by omega)
    have hss : s = s' := by
      have := hs.symm.trans ((congrArg W.cell? he).trans hs')
      simpa using this
    subst hss
    have := txt_apart ⟨m.toNat, by omega⟩ ⟨n.toNat, by omega⟩ (by simp; omega) (by simp; omega) (ts.symm.trans ts')
    have := congrArg Fin.val this
    simp at this
    omega
end Go.Proofs.YtilpckngghffoaaDoor

namespace Go.Proofs.YtilpckngghffoaaDoor
open Go.ChangeShapes Go.WideShapes Go.ChangeAt Go.RowKit Go.Joins
set_option maxRecDepth 100000

theorem weights_each4 {H : Type} {t0 t1 t2 t3 : TypeId} {y0 y1 y2 y3 : DataW H} {n : Nat} (h : n ∈ y1.weights Tryd.prog t1 ∨ n ∈ y2.weights Tryd.prog t2 ∨ n ∈ y3.weights Tryd.prog t3) : n ∈ DataW.weightsEach Tryd.prog [t0, t1, t2, t3] [y0, y1, y2, y3] := by
  simp only [DataW.weightsEach, List.mem_append]
  rcases h with h | h | h
  · exact .inr (.inl h)
  · exact .inr (.inr (.inl h))
  · exact .inr (.inr (.inr (.inl h)))

/-- A row that came in. -/
theorem open_rowV {H : Type} {enc : TypeId × Value → H} {W : World} {held : Bool} {v : Value} {d : DataW H} {p : List MemPlace} {b0 : Nat}
    (hv : Value.okWide Tryd.prog W .any b0 26 v) (h : DataW.Trod enc Tryd.prog W 0 (fun _ => true) held 26 v d p) (hw : ∀ n ∈ d.weights Tryd.prog 26, n ≤ reachBytes) :
    ∃ (k : Int) (u1 u2 u3 : Value) (x1 x2 x3 : List Int), v = .agg #[.int .i64 k, u1, u2, u3] ∧ IntsAt W u1 x1 ∧ IntsAt W u2 x2 ∧ IntsAt W u3 x3 ∧ I64 k := by
  obtain ⟨v0, v1, v2, v3, y0, y1, y2, y3, n, rfl, rfl, rfl, h0, h1, h2, h3⟩ := open_agg4 Tryd.underlying26 (by kernel_rfl) (by kernel_rfl) hv h
  obtain ⟨a, e0, _, wa⟩ := DataW.trod_int uInt h0
  simp at e0
  subst e0
  have hh : ∀ n, (n ∈ y1.1.weights Tryd.prog 22 ∨ n ∈ y2.1.weights Tryd.prog 22 ∨ n ∈ y3.1.weights Tryd.prog 22) → n ≤ reachBytes := fun n hn => hw n (by
    simp only [DataW.weights, Tryd.underlying26]
    exact weights_each4 (t0 := 3) (t1 := 22) (t2 := 22) (t3 := 22) hn)
  obtain ⟨x1, hx1, _, _⟩ := open_intsV h1 fun n hn => hh n (.inl hn)
  obtain ⟨x2, hx2, _, _⟩ := open_intsV h2 fun n hn => hh n (.inr (.inl hn))
  obtain ⟨x3, hx3, _, _⟩ := open_intsV h3 fun n hn => hh n (.inr (.inr hn))
  exact ⟨a, v1, v2, v3, x1, x2, x3, rfl, hx1, hx2, hx3, i64_of_wf wa⟩
end Go.Proofs.YtilpckngghffoaaDoor
