/-
  Walks: edenref15.Finite.
  Walk: rule.Step at all operands.
  Plain mathematics: the image and the twins of a mirrored rule.
  Plain mathematics of layer 14: words of any length that differ in the middle and have one image; the theorem of the garden of Eden, one half.
  Walk: pairs.look.
  Walks: twins.symbols, twins.image.
  Plain mathematics of layer 7: the symbol of a row at a place, pieces of rows, twins in a row.
  Plain mathematics of layers 7 and 15: a row's fault, that of two words that are no twins.
  Walk: twins.Check at a small rule.
-/
import Derived.Test.YtilpckngghffoaaGreatDoorMTt6
namespace Go.Proofs.YtilpckngghffoaaGreatDoor
open Go.RowKit
set_option maxRecDepth 100000

theorem tabI_zero15 (n : Nat) : tabI n (fun x => (((fun _ => 0 : Nat → Nat) x : Nat) : Int)) = List.replicate n 0 := by
  unfold tabI; apply List.ext_getElem <;> simp
theorem updN_cast (D : Nat → Nat) (t d : Nat) : updN (fun x => ((D x : Nat) : Int)) t ((d : Int) + 1) = fun x => ((updN D t (d + 1) x : Nat) : Int) := by
  funext x
  unfold updN
  split <;> simp
/-- What edenref15.Finite leaves. -/
def RFin (K R : Nat) (T : List Int) (x y z : Value) : Prop :=
  z = .agg #[.int .i64 0, .slice none 0 0, .slice none 0 0] ∧ ((x = .bool true ∧ y = .int .i64 0 ∧ ∀ a b, ¬ IsTwins K R T a b) ∨ ∃ n : Nat, x = .bool false ∧ y = .int .i64 n ∧ TwinLen K R T n ∧ n ≤ 7000)

set_option maxHeartbeats 2000000 in
theorem ref15f_bad (k R : Int) (va : Option Addr) (vn vc : Nat) (T : List Int) (t : Int × List (ByteArray × Int)) (w : World) (h : IntsAt w (.slice va vn vc) T) (hc : smallP k R T = some t) :
    Calls Tryz.prog 11 #[.agg #[.int .i64 k, .int .i64 R, .slice va vn vc]] w (Ret3 (fun x y z w' => x = .bool false ∧ y = .int .i64 0 ∧ EOwn w.heap.size w' (under sTwins 0 (under sPairs 0 (some t))) z) w) := by
  have bA := Below.step (belowAlloc w (.cells #[.int .i64 k, .int .i64 R, .slice va vn vc] 24)) (belowAlloc _ (.cells #[.int .i64 0, .slice none 0 0, .slice none 0 0] 33))
  have qA : Box3 ((w.alloc (.cells #[.int .i64 k, .int .i64 R, .slice va vn vc] 24)).alloc (.cells #[.int .i64 0, .slice none 0 0, .slice none 0 0] 33)) w.heap.size (.int .i64 k) (.int .i64 R) (.slice va vn vc) := by simp [Box3, go_sem]
  have q4 : Box3 ((w.alloc (.cells #[.int .i64 k, .int .i64 R, .slice va vn vc] 24)).alloc (.cells #[.int .i64 0, .slice none 0 0, .slice none 0 0] 33)) (w.heap.size + 1) (.int .i64 0) (.slice none 0 0) (.slice none 0 0) := by simp [Box3, go_sem]
  have s0 : ((w.alloc (.cells #[.int .i64 k, .int .i64 R, .slice va vn vc] 24)).alloc (.cells #[.int .i64 0, .slice none 0 0, .slice none 0 0] 33)).heap.size = w.heap.size + 2 := by simp
  obtain ⟨WA, hWA⟩ : ∃ W : World, ((w.alloc (.cells #[.int .i64 k, .int .i64 R, .slice va vn vc] 24)).alloc (.cells #[.int .i64 0, .slice none 0 0, .slice none 0 0] 33)) = W := ⟨_, rfl⟩
  replace h := h.below bA
  rw [hWA] at h bA qA q4 s0
  replace h := Lib.hid h
  replace s0 := Lib.hid s0
  replace hWA := Lib.hid hWA
  have qA0 := qA
  obtain ⟨⟨z0, z1, z2⟩, -, -, -⟩ := qA0
  replace hc := Lib.hid hc
  go_enter Tryz.func11, Tryz.ntmps11
  go_upto_region 1 with fail
  rw [hWA.out]
  go_wp2_with fail
  refine (ref13_graph_bad k R va vn vc T t WA h.out hc.out).mono ?_
  rintro e w1 ⟨_, x, rfl, b1, rfl, he⟩
  obtain ⟨n, l⟩ := t
  have hn := smallP_num hc.out
  have he' := he
  obtain ⟨a1, n1, c1, a2, n2, c2, rfl, _, _⟩ := he'
  obtain ⟨be, q6⟩ := err_box8 w1 (.int .i64 n) (.slice a1 n1 c1) (.slice a2 n2 c2)
  have c1e := Below.step b1 be
  have hs1 := b1.size
  rw [s0.out] at hs1
  have hn0 : (n != 0) = true := by rw [bne_iff_ne]; omega
  have heb := he.below be
  obtain ⟨W2, hW2⟩ : ∃ W2 : World, w1.alloc (.cells #[.int .i64 n, .slice a1 n1 c1, .slice a2 n2 c2] 33) = W2 := ⟨_, rfl⟩
  rw [hW2] at be c1e heb q6
  replace hW2 := Lib.hid hW2
  replace he := Lib.hid he
  replace heb := Lib.hid heb
  clear z0 z1 z2
  have q60 := q6
  obtain ⟨⟨y0, y1, y2⟩, -, -, -⟩ := q60
  go_upto_region 2 with fail
  rw [hW2.out]
  go_wp2_with fail
  refine (err_bad _ _ _ _ _ _ _ W2).mono ?_
  rintro e w3 ⟨_, rfl, b3, rfl⟩
  rw [hn0]
  have hey := heb.out.below b3
  have c3 := Below.step c1e b3
  clear y0 y1 y2
  obtain ⟨⟨y0, y1, y2⟩, -, -, -⟩ := q6.below b3
  replace hey := Lib.hid hey
  go_wp2_with fail
  refine (raw_under sTwins 0 (under sPairs 0 (some (n, l))) _ w3 hey.out.at (fun n' l' e => by cases e; exact ⟨hn.1, by simp, by simp only [List.length_cons]; omega⟩)).mono ?_
  rintro e w4 ⟨z, rfl, b4, hz⟩
  have c4 := Below.step c3 b4
  have hz' := hz
  obtain ⟨d1, m1, k1, d2, m2, k2, rfl, _, _⟩ := hz'
  obtain ⟨⟨g0, g1, g2⟩, f0, f1, f2⟩ := q4.below c4
  have sW := c3.size
  rw [s0.out] at sW
  have hz9 := (hz.set3 (b := w.heap.size + 1) (by omega) (.int .i64 n) (.slice d1 m1 k1) (.slice d2 m2 k2)).mono (B' := w.heap.size) (by omega)
  replace hz := Lib.hid hz
  replace hz9 := Lib.hid hz9
  clear y0 y1 y2
  go_wp2
  (try simp only [Exit.inBlock, Exit.then])
  exact bodyPost_ret (v := .tuple #[.bool false, .int .i64 0, .agg #[.int .i64 n, .slice d1 m1 k1, .slice d2 m2 k2]]) (by simp [results, Tryz.results11, go_sem, g0, g1, g2]) rfl ⟨_, _, _, rfl, below_set3 (Below.step bA c4) (by omega) _ _ _, rfl, rfl, hz9.out⟩

set_option maxHeartbeats 2000000 in
theorem ref15f_zero (K : Nat) (va : Option Addr) (vn vc : Nat) (T : List Int) (w : World) (h : IntsAt w (.slice va vn vc) T) (hr : RuleOk K 0 T) (hl : T.length ≤ 256) :
    Calls Tryz.prog 11 #[.agg #[.int .i64 K, .int .i64 ((0 : Nat) : Int), .slice va vn vc]] w (Ret3 (fun x y z _ => RFin K 0 T x y z) w) := by
  have bA := Below.step (belowAlloc w (.cells #[.int .i64 K, .int .i64 0, .slice va vn vc] 24)) (belowAlloc _ (.cells #[.int .i64 0, .slice none 0 0, .slice none 0 0] 33))
  have qA : Box3 ((w.alloc (.cells #[.int .i64 K, .int .i64 0, .slice va vn vc] 24)).alloc (.cells #[.int .i64 0, .slice none 0 0, .slice none 0 0] 33)) w.heap.size (.int .i64 K) (.int .i64 0) (.slice va vn vc) := by simp [Box3, go_sem]
  have q4 : Box3 ((w.alloc (.cells #[.int .i64 K, .int .i64 0, .slice va vn vc] 24)).alloc (.cells #[.int .i64 0, .slice none 0 0, .slice none 0 0] 33)) (w.heap.size + 1) (.int .i64 0) (.slice none 0 0) (.slice none 0 0) := by simp [Box3, go_sem]
  have s0 : ((w.alloc (.cells #[.int .i64 K, .int .i64 0, .slice va vn vc] 24)).alloc (.cells #[.int .i64 0, .slice none 0 0, .slice none 0 0] 33)).heap.size = w.heap.size + 2 := by simp
  obtain ⟨WA, hWA⟩ : ∃ W : World, ((w.alloc (.cells #[.int .i64 K, .int .i64 0, .slice va vn vc] 24)).alloc (.cells #[.int .i64 0, .slice none 0 0, .slice none 0 0] 33)) = W := ⟨_, rfl⟩
  replace h := h.below bA
  rw [hWA] at h bA qA q4 s0
  replace h := Lib.hid h
  replace s0 := Lib.hid s0
  replace hWA := Lib.hid hWA
  have qA0 := qA
  obtain ⟨⟨z0, z1, z2⟩, -, -, -⟩ := qA0
  have hTK : T.length = K := by rw [hr.len]; simp [pw]
  have hk1 := hr.k1
  have hk4 := hr.k4
  have hgraph := fun (w' : World) (h' : IntsAt w' (.slice va vn vc) T) => ref13_graph_ok K 0 va vn vc T w' h' hr hl
  have hyes := fun (x y : Nat) (h1 : x < T.length) (h2 : y < x) (h3 : T.getD x 0 = T.getD y 0) => zero_twinLen hTK h1 h2 h3
  have hnot := fun (hn : ∀ i j, j < i → i < T.length → T.getD i 0 ≠ T.getD j 0) => zero_none hTK hn
  have hKT : ∀ x, x < K → x < T.length := fun x hx => by omega
  have hKT2 : ∀ x, x < T.length → x < K := fun x hx => by omega
  replace hgraph := Lib.hid hgraph
  replace hTK := Lib.hid hTK
  replace hyes := Lib.hid hyes
  replace hnot := Lib.hid hnot
  replace hKT := Lib.hid hKT
  replace hKT2 := Lib.hid hKT2
  replace hr := Lib.hid hr
  go_enter Tryz.func11, Tryz.ntmps11
  go_upto_region 1 with fail
  rw [hWA.out]
  go_wp2_with fail
  refine (hgraph.out WA h.out).mono ?_
  rintro e w1 ⟨gv, _, rfl, b1, rfl, hgf⟩
  obtain ⟨be, ⟨⟨y0, y1, y2⟩, -, -, -⟩⟩ := err_box8 w1 (.int .i64 0) (.slice none 0 0) (.slice none 0 0)
  have c1e := Below.step b1 be
  have hL := hgf.at.below be
  obtain ⟨ga, gc, rfl⟩ := hL.shape
  obtain ⟨W2, hW2⟩ : ∃ W2 : World, w1.alloc (.cells #[.int .i64 0, .slice none 0 0, .slice none 0 0] 33) = W2 := ⟨_, rfl⟩
  rw [hW2] at be c1e hL y0 y1 y2
  replace hW2 := Lib.hid hW2
  replace hL := Lib.hid hL
  clear z0 z1 z2 hgf
  go_upto_region 2 with fail
  rw [hW2.out]
  go_wp2_with fail
  refine (err_bad _ _ _ _ _ _ _ W2).mono ?_
  rintro e w3 ⟨_, rfl, b3, rfl⟩
  rw [show ((0 : Int) != 0) = false from rfl]
  have c3 := Below.step c1e b3
  clear y0 y1 y2
  obtain ⟨⟨z0, z1, z2⟩, -, -, -⟩ := qA.below c3
  have hT3 := h.out.below c3
  have qA3 := qA.below c3
  replace hT3 := Lib.hid hT3
  replace qA3 := Lib.hid qA3
  clear z2
  go_wp2_with fail
  go_loopw [7] (fun xv wr => ∃ x : Nat, x ≤ K ∧ xv = .int .i64 x ∧ Below w3.heap.size w3 wr ∧ ∀ i j, j < i → i < x → T.getD i 0 ≠ T.getD j 0) (fun xv _ => K - (intOf xv).toNat)
  case atStart => exact ⟨0, Nat.zero_le _, rfl, Below.refl _ _, fun i j _ hi => absurd hi (Nat.not_lt_zero _)⟩
  case round =>
    obtain ⟨x, hx, rfl, bI, hno⟩ := hrel
    obtain ⟨wo, rfl⟩ : ∃ wo : World, wo = wr := ⟨_, rfl⟩
    clear z0 z1
    obtain ⟨⟨z0, z1, z2⟩, -, -, -⟩ := qA3.out.below bI
    clear z1 z2
    replace hno := Lib.hid hno
    by_cases hxK : x < K
    · have dx : decide ((x : Int) < (K : Int)) = true := decide_eq_true (by omega)
      go_wp2_with fail
      go_loopw [8] (fun yv wr => ∃ y : Nat, y ≤ x ∧ yv = .int .i64 y ∧ Below w3.heap.size w3 wr ∧ ∀ j, j < y → T.getD x 0 ≠ T.getD j 0) (fun yv _ => x - (intOf yv).toNat)
      case atStart => exact ⟨0, Nat.zero_le _, rfl, bI, fun j hj => absurd hj (Nat.not_lt_zero _)⟩
      case round =>
        clear z0 bI
        obtain ⟨y, hy, rfl, bJ, hny⟩ := hrel
        obtain ⟨wp', rfl⟩ : ∃ wo : World, wo = wr := ⟨_, rfl⟩
        replace hny := Lib.hid hny
        by_cases hyx : y < x
        · have dy : decide ((y : Int) < (x : Int)) = true := decide_eq_true (by omega)
          have hTp := hT3.out.below bJ.drew
          have hxT := hKT.out x hxK
          have iX := fun w' => hTp.idx x hxT w'
          have iY := fun w' => hTp.idx y (by omega) w'
          have cX := hTp.cellD x hxT
          have cY := hTp.cellD y (by omega)
          obtain ⟨⟨_, _, z2⟩, -, -, -⟩ := qA3.out.below bJ.drew
          obtain ⟨V, hV⟩ : ∃ V : World, wp'.drew = V := ⟨_, rfl⟩
          have bV : Below w3.heap.size w3 V := by rw [← hV]; exact bJ.drew
          rw [hV] at cX cY z2
          obtain ⟨tx, htx⟩ : ∃ z, T.getD x 0 = z := ⟨_, rfl⟩
          obtain ⟨ty, hty⟩ : ∃ z, T.getD y 0 = z := ⟨_, rfl⟩
          rw [htx] at cX
          rw [hty] at cY
          generalize valAt (.slice va vn vc) x = xa at *
          generalize valAt (.slice va vn vc) y = ya at *
          have hS : V.cell? ⟨w.heap.size, 2, none⟩ = some (.slice va vn vc) ∧ V.cell? xa = some (.int .i64 tx) ∧ V.cell? ya = some (.int .i64 ty) := ⟨z2, cX, cY⟩
          replace hV := Lib.hid hV
          replace hTp := Lib.hid hTp
          replace htx := Lib.hid htx
          replace hty := Lib.hid hty
          clear cX cY z2
          go_upto_region 11 with fail
          refine wp_region_plan (fun w' => w'.cell? ⟨w.heap.size, 2, none⟩ = some (.slice va vn vc) ∧ w'.cell? xa = some (.int .i64 tx) ∧ w'.cell? ya = some (.int .i64 ty)) 10 [(0, true), (1, true), (2, true), (3, true), (4, true), (5, true), (6, true), (7, true), (8, true), (9, true)] (by kernel_rfl) (by kernel_rfl) ?_
          rw [hV.out]
          refine headY (v := ?_) (some 40) rfl rfl (Or.inl ⟨by rfl, ?_⟩) hS ?_
          rotate_left
          · rintro W' ⟨s0, s1, s2⟩; go_simp; try with_reducible rfl
          simp only [Act.put, List.setIfInBounds_toArray, List.set_cons_zero, List.set_cons_succ]
          refine headY (v := ?_) (some 41) rfl rfl (Or.inl ⟨by rfl, ?_⟩) hS ?_
          rotate_left
          · rintro W' ⟨s0, s1, s2⟩; go_simp; try with_reducible rfl
          simp only [Act.put, List.setIfInBounds_toArray, List.set_cons_zero, List.set_cons_succ]
          refine headY (v := ?_) (some 42) rfl rfl (Or.inl ⟨by rfl, ?_⟩) hS ?_
          rotate_left
          · rintro W' ⟨s0, s1, s2⟩; go_simp; try with_reducible rfl
          simp only [Act.put, List.setIfInBounds_toArray, List.set_cons_zero, List.set_cons_succ]
          refine headY (v := ?_) (some 43) rfl rfl (Or.inl ⟨by rfl, ?_⟩) hS ?_
          rotate_left
          · rintro W' ⟨s0, s1, s2⟩; go_simp; try with_reducible rfl
          simp only [Act.put, List.setIfInBounds_toArray, List.set_cons_zero, List.set_cons_succ]
          refine headY (v := ?_) (some 44) rfl rfl (Or.inl ⟨by rfl, ?_⟩) hS ?_
          rotate_left
          · rintro W' ⟨s0, s1, s2⟩; go_simp; try with_reducible rfl
          simp only [Act.put, List.setIfInBounds_toArray, List.set_cons_zero, List.set_cons_succ]
          refine headY (v := ?_) (some 45) rfl rfl (Or.inl ⟨by rfl, ?_⟩) hS ?_
          rotate_left
          · rintro W' ⟨s0, s1, s2⟩; go_simp; try with_reducible rfl
          simp only [Act.put, List.setIfInBounds_toArray, List.set_cons_zero, List.set_cons_succ]
          refine headY (v := ?_) (some 46) rfl rfl (Or.inl ⟨by rfl, ?_⟩) hS ?_
          rotate_left
          · rintro W' ⟨s0, s1, s2⟩; go_simp; try with_reducible rfl
          simp only [Act.put, List.setIfInBounds_toArray, List.set_cons_zero, List.set_cons_succ]
          refine headY (v := ?_) (some 47) rfl rfl (Or.inl ⟨by rfl, ?_⟩) hS ?_
          rotate_left
          · rintro W' ⟨s0, s1, s2⟩; go_simp; try with_reducible rfl
          simp only [Act.put, List.setIfInBounds_toArray, List.set_cons_zero, List.set_cons_succ]
          refine headY (v := ?_) (some 48) rfl rfl (Or.inl ⟨by rfl, ?_⟩) hS ?_
          rotate_left
          · rintro W' ⟨s0, s1, s2⟩; go_simp; try with_reducible rfl
          simp only [Act.put, List.setIfInBounds_toArray, List.set_cons_zero, List.set_cons_succ]
          refine headY (v := ?_) (some 49) rfl rfl (Or.inl ⟨by rfl, ?_⟩) hS ?_
          rotate_left
          · rintro W' ⟨s0, s1, s2⟩; go_simp; try with_reducible rfl
          simp only [Act.put, List.setIfInBounds_toArray, List.set_cons_zero, List.set_cons_succ]
          refine head0 ?_
          simp only [List.drop_succ_cons, List.drop_zero]
          clear hS
          by_cases e : tx = ty
          · have q1 : (tx == ty) = true := by rw [beq_iff_eq]; exact e
            have htl := hyes.out x y hxT hyx (by rw [htx.out, hty.out]; exact e)
            have c9 := Below.step c3 bV
            obtain ⟨⟨g0, g1, g2⟩, f0, f1, f2⟩ := q4.below c9
            replace htl := Lib.hid htl
            replace e := Lib.hid e
            go_wp2
            refine NoPanic.normal ?_
            go_wp2
            (try simp only [Exit.inBlock, Exit.then])
            exact bodyPost_ret (v := .tuple #[.bool false, .int .i64 1, .agg #[.int .i64 0, .slice none 0 0, .slice none 0 0]]) (by simp [results, Tryz.results11, go_sem, g0, g1, g2]) rfl ⟨_, _, _, rfl, below_set3 (Below.step bA c9) (by have := s0.out; omega) _ _ _, rfl, .inr ⟨1, rfl, rfl, htl.out, by decide⟩⟩
          · have q1 : (tx == ty) = false := by rw [beq_eq_false_iff_ne]; exact e
            replace e := Lib.hid e
            go_wp2
            refine NoPanic.normal ?_
            go_wp2
            go_roundw
            case measure => simp [intOf]; omega
            case rel =>
              refine ⟨y + 1, by omega, by go_num, bV, fun j hj => ?_⟩
              by_cases ej : j = y
              · subst ej; rw [htx.out, hty.out]; exact e.out
              · exact hny.out j (by omega)
        · have dy : decide ((y : Int) < (x : Int)) = false := decide_eq_false (by omega)
          go_wp2_with fail
          go_roundw
          case measure => simp [intOf]; omega
          case rel =>
            refine ⟨x + 1, by omega, by go_num, bJ, fun i j hj hi => ?_⟩
            by_cases ei : i = x
            · subst ei; exact hny.out j (by omega)
            · exact hno.out i j hj (by omega)
    · have dx : decide ((x : Int) < (K : Int)) = false := decide_eq_false (by omega)
      have c9 := Below.step c3 bI
      obtain ⟨⟨g0, g1, g2⟩, f0, f1, f2⟩ := q4.below c9
      have hn := hnot.out (fun i j hj hi => hno.out i j hj (by have := hKT2.out i hi; omega))
      replace hn := Lib.hid hn
      go_wp2
      (try simp only [Exit.inBlock, Exit.then])
      exact bodyPost_ret (v := .tuple #[.bool true, .int .i64 0, .agg #[.int .i64 0, .slice none 0 0, .slice none 0 0]]) (by simp [results, Tryz.results11, go_sem, g0, g1, g2]) rfl ⟨_, _, _, rfl, below_set3 (Below.step bA c9) (by have := s0.out; omega) _ _ _, rfl, .inl ⟨rfl, rfl, hn.out⟩⟩

set_option maxHeartbeats 4000000 in
theorem ref15f_pos (K R : Nat) (va : Option Addr) (vn vc : Nat) (T : List Int) (w : World) (h : IntsAt w (.slice va vn vc) T) (hr : RuleOk K R T) (hl : T.length ≤ 256) (hR : 1 ≤ R) :
    Calls Tryz.prog 11 #[.agg #[.int .i64 K, .int .i64 R, .slice va vn vc]] w (Ret3 (fun x y z _ => RFin K R T x y z) w) := by
  have bA := Below.step (belowAlloc w (.cells #[.int .i64 K, .int .i64 R, .slice va vn vc] 24)) (belowAlloc _ (.cells #[.int .i64 0, .slice none 0 0, .slice none 0 0] 33))
  have qA : Box3 ((w.alloc (.cells #[.int .i64 K, .int .i64 R, .slice va vn vc] 24)).alloc (.cells #[.int .i64 0, .slice none 0 0, .slice none 0 0] 33)) w.heap.size (.int .i64 K) (.int .i64 R) (.slice va vn vc) := by simp [Box3, go_sem]
  have q4 : Box3 ((w.alloc (.cells #[.int .i64 K, .int .i64 R, .slice va vn vc] 24)).alloc (.cells #[.int .i64 0, .slice none 0 0, .slice none 0 0] 33)) (w.heap.size + 1) (.int .i64 0) (.slice none 0 0) (.slice none 0 0) := by simp [Box3, go_sem]
  have s0 : ((w.alloc (.cells #[.int .i64 K, .int .i64 R, .slice va vn vc] 24)).alloc (.cells #[.int .i64 0, .slice none 0 0, .slice none 0 0] 33)).heap.size = w.heap.size + 2 := by simp
  obtain ⟨WA, hWA⟩ : ∃ W : World, ((w.alloc (.cells #[.int .i64 K, .int .i64 R, .slice va vn vc] 24)).alloc (.cells #[.int .i64 0, .slice none 0 0, .slice none 0 0] 33)) = W := ⟨_, rfl⟩
  replace h := h.below bA
  rw [hWA] at h bA qA q4 s0
  replace h := Lib.hid h
  replace s0 := Lib.hid s0
  replace hWA := Lib.hid hWA
  have qA0 := qA
  obtain ⟨⟨z0, z1, z2⟩, -, -, -⟩ := qA0
  have hk1 := hr.k1
  have hk4 := hr.k4
  have hR3 := hr.r3
  have hN81 := nodes_le hr hR hl
  have hN1 := pw_pos (K := K) (2 * R) hk1
  have hwR : wkR R = R := if_neg (by omega)
  have hwT : wkT K R T = T := if_neg (by omega)
  have hgraph := fun (w' : World) (h' : IntsAt w' (.slice va vn vc) T) => ref13_graph_ok K R va vn vc T w' h' hr hl
  rw [hwR, hwT] at hgraph
  have hcnt := fun (w' : World) => ref_count K R va vn vc w' hk1 hk4 hR3
  have hnone := fun (hno : ∀ u, ¬ ApartWay (pw K (2 * R)) (pairL K (pw K (2 * R)) T) u) => no_twins (K := K) (R := R) (T := T) hk1 hR hno
  have hlen9 := fun (u : List Nat) (hu : ApartWay (pw K (2 * R)) (pairL K (pw K (2 * R)) T) u) (hm : ∀ v, ApartWay (pw K (2 * R)) (pairL K (pw K (2 * R)) T) v → u.length ≤ v.length) => way_twinLen hk1 hR hu hm
  have hR0 : ((R : Int) == 0) = false := by rw [beq_eq_false_iff_ne]; omega
  have hR2 : ¬ R = 0 := by omega
  have hglen := pairG_len (K := K) (N := pw K (2 * R)) (T := T)
  obtain ⟨i, hNi⟩ : ∃ N, pw K (2 * R) = N := ⟨_, rfl⟩
  rw [hNi] at hN81 hN1 hgraph hcnt hnone hlen9 hglen
  obtain ⟨M, hM⟩ : ∃ M, i * i = M := ⟨_, rfl⟩
  have hM6 : M ≤ 6561 := by rw [← hM]; exact Nat.mul_le_mul hN81 hN81
  rw [hM] at hglen
  have hNz1 : ¬ (i : Int) = 0 := by omega
  have hNz2 : ((i : Int) == 0) = false := by rw [beq_eq_false_iff_ne]; omega
  have hNz3 : ¬ i = 0 := by omega
  replace hgraph := Lib.hid hgraph
  replace hcnt := Lib.hid hcnt
  replace hnone := Lib.hid hnone
  replace hlen9 := Lib.hid hlen9
  replace hglen := Lib.hid hglen
  replace hM := Lib.hid hM
  replace hr := Lib.hid hr
  clear hwR hwT hNi
  go_enter Tryz.func11, Tryz.ntmps11
  go_upto_region 1 with fail
  rw [hWA.out]
  go_wp2_with fail
  refine (hgraph.out WA h.out).mono ?_
  rintro e w1 ⟨gv, _, rfl, b1, rfl, hgf⟩
  obtain ⟨be, ⟨⟨y0, y1, y2⟩, -, -, -⟩⟩ := err_box8 w1 (.int .i64 0) (.slice none 0 0) (.slice none 0 0)
  have c1e := Below.step b1 be
  have hL := hgf.at.below be
  obtain ⟨ga, gc, rfl⟩ := hL.shape
  obtain ⟨W2, hW2⟩ : ∃ W2 : World, w1.alloc (.cells #[.int .i64 0, .slice none 0 0, .slice none 0 0] 33) = W2 := ⟨_, rfl⟩
  rw [hW2] at be c1e hL y0 y1 y2
  replace hW2 := Lib.hid hW2
  replace hL := Lib.hid hL
  clear z0 z1 z2 hgf
  go_upto_region 2 with fail
  rw [hW2.out]
  go_wp2_with fail
  refine (err_bad _ _ _ _ _ _ _ W2).mono ?_
  rintro e w3 ⟨_, rfl, b3, rfl⟩
  rw [show ((0 : Int) != 0) = false from rfl]
  have c3 := Below.step c1e b3
  clear y0 y1 y2
  obtain ⟨⟨z0, z1, z2⟩, -, -, -⟩ := qA.below c3
  go_wp2_with fail
  refine (hcnt.out w3).mono ?_
  rintro e w4 ⟨_, rfl, b4, rfl⟩
  have c4 := Below.step c3 b4
  have hL4 := (hL.out.below b3).below b4
  rw [hglen.out] at hL4 ⊢
  have lg := hL4.len 3
  rw [hglen.out] at lg
  have hrow := fun (p : Nat) (hp : p < M) => hL4.row p (by rw [hglen.out]; exact hp)
  have hrow2 : ∀ p, p < M → (pairG K i T).getD p [] = castI (pairL K i T p) := fun p hp => pairG_row (by rw [hM.out]; exact hp)
  replace hL4 := Lib.hid hL4
  replace hrow := Lib.hid hrow
  replace hrow2 := Lib.hid hrow2
  obtain ⟨fv, w5, mk, hfv, b5⟩ := run_makeI (M : Int) M w4 rfl (by omega)
  rw [← tabI_zero15] at hfv
  have R1 := (rowsE w4.heap.size w4).add (i := (1, 0)) (r' := rowI fv (tabI M fun x => (((fun _ => 0 : Nat → Nat) x : Nat) : Int))) b5 hfv (fun k hk => (hfv.lt k hk).1)
  have R2 := R1.add (i := (2, 0)) (r' := rowI (.slice none 0 0) []) (Below.refl _ _) (OwnI.nil _ _) (fun k hk => by cases hk)
  obtain ⟨f0, hf0⟩ : ∃ f0, f0 = upd (upd (fun _ => Option.none) (1, 0) (some (rowI fv (tabI M fun x => (((fun _ => 0 : Nat → Nat) x : Nat) : Int))))) (2, 0) (some (rowI (.slice none 0 0) [])) := ⟨_, rfl⟩
  rw [← hf0] at R2
  have hF0 : FN f0 fv (.slice none 0 0) M (fun x => (((fun _ => 0 : Nat → Nat) x : Nat) : Int)) (diagsTo i 0) := ⟨by rw [hf0, upd_ne _ _ (by simp), upd_same], by rw [hf0, upd_same]; rfl⟩
  obtain ⟨ca, cn, cc, rfl⟩ := hfv.at.shape
  have qA4 := qA.below c4
  replace qA4 := Lib.hid qA4
  replace R2 := Lib.hid R2
  replace hF0 := Lib.hid hF0
  replace hfv := Lib.hid hfv
  clear R1 hf0 z0 z1 z2
  go_wp2_with fail
  clear mk
  go_loopw [11, 12] (fun qv iv wr => ∃ (u : Nat) (f : Names) (qw : Value), u ≤ i ∧ iv = .int .i64 u ∧ qw = qv ∧ Rows w4.heap.size wr f ∧ Below w4.heap.size w4 wr ∧ FN f (.slice ca cn cc) qw M (fun x => (((fun _ => 0 : Nat → Nat) x : Nat) : Int)) (diagsTo i u)) (fun _ iv _ => i - (intOf iv).toNat)
  case atStart => exact ⟨0, f0, _, by omega, rfl, rfl, R2.out, b5, hF0.out⟩
  case round =>
    clear R2 hF0 hfv
    obtain ⟨u, f1, qv, hu, rfl, rfl, hr1, bI, hF⟩ := hrel
    obtain ⟨wo, rfl⟩ : ∃ wo : World, wo = wr := ⟨_, rfl⟩
    by_cases hil : u < i
    · have du : decide ((u : Int) < (i : Int)) = true := decide_eq_true (by omega)
      obtain ⟨m, hm⟩ : ∃ z, u * i = z := ⟨_, rfl⟩
      have hm2 : (u : Int) * (i : Int) = (m : Int) := by rw [← hm]; simp
      have hml : m ≤ 6561 := by rw [← hm]; exact Nat.le_trans (Nat.mul_le_mul (show u ≤ 81 by omega) hN81) (by decide)
      obtain ⟨z, hz⟩ : ∃ z, m + u = z := ⟨_, rfl⟩
      have hz2 : (m : Int) + (u : Int) = (z : Int) := by omega
      have hwm : IntKind.i64.wrap (m : Int) = m := wrapK (by omega) (by omega)
      have hwz : IntKind.i64.wrap (z : Int) = z := wrapK (by omega) (by omega)
      have hds : diagsTo i (u + 1) = diagsTo i u ++ [z] := by rw [diagsTo_succ, hm, hz]
      have hoQ := hr1.ownI hF.queue
      have hB := bI.size
      have hil2 := Lib.hid hil
      have hlq : (castI (diagsTo i u)).length ≤ 81 := by rw [castI_len]; simp [diagsTo]; omega
      replace hr1 := Lib.hid hr1
      replace hF := Lib.hid hF
      replace hm := Lib.hid hm
      replace hz := Lib.hid hz
      replace hds := Lib.hid hds
      go_wp2_with (at_builtin; refine wpl_app1 rfl _ _ rfl w4.heap.size qv _ z hoQ rfl rfl (by omega) hB ?_)
      intro qv' w7 ho7 b7 hal7
      obtain ⟨f8, hr8, h8, _⟩ := hF.out.push hr1.out z ho7 hal7
      obtain ⟨q1, q2, q3, rfl⟩ := ho7.at.shape
      replace hr8 := Lib.hid hr8
      replace ho7 := Lib.hid ho7
      clear hal7 hoQ
      go_wp2
      go_roundw
      case measure => have := hil2.out; simp [intOf]; omega
      case rel => exact ⟨u + 1, f8, _, by have := hil2.out; omega, by go_num, rfl, hr8.out, bI.trans b7, by rw [hds.out]; exact h8⟩
    · obtain rfl : u = i := by omega
      have du : decide ((u : Int) < (u : Int)) = false := decide_eq_false (by omega)
      have hO0 := MOut.init u (pairL K u T)
      have hC0 := CameOf.init u (pairL K u T)
      replace hr1 := Lib.hid hr1
      replace hF := Lib.hid hF
      replace hO0 := Lib.hid hO0
      replace hC0 := Lib.hid hC0
      go_wp2_with fail
      go_loopw [11, 13] (fun qv iv wr => ∃ (j : Nat) (f : Names) (qw : Value) (came : Nat → Int) (q : List Nat) (D : Nat → Nat), j ≤ q.length ∧ iv = .int .i64 j ∧ qw = qv ∧ Rows w4.heap.size wr f ∧ Below w4.heap.size w4 wr ∧ FN f (.slice ca cn cc) qw M (fun x => ((D x : Nat) : Int)) q ∧ MOut u (pairL K u T) D q j ∧ CameOf u (pairL K u T) D q came) (fun _ iv _ => M - (intOf iv).toNat)
      case atStart => exact ⟨0, f1, _, _, _, _, by omega, rfl, rfl, hr1.out, bI, hF.out, hO0.out, hC0.out⟩
      case round =>
        clear hr1 hF hO0 hC0 bI
        obtain ⟨j, f2, qv, came, q, D, hj, rfl, rfl, hr2, b2, hF2, hO, hC⟩ := hrel
        obtain ⟨wo, rfl⟩ : ∃ wo : World, wo = wr := ⟨_, rfl⟩
        have hqlen : q.length ≤ M := nodup_len M q hO.nodup (fun x hx => by rw [← hM.out]; exact hO.low x hx)
        have hOQ := hr2.ownI hF2.queue
        have lQ := hOQ.at.len
        rw [castI_len] at lQ
        by_cases hjl : j < q.length
        · have dj : decide ((j : Int) < (q.length : Int)) = true := decide_eq_true (by omega)
          obtain ⟨v, hv⟩ : ∃ v, q[j]? = some v := ⟨_, List.getElem?_eq_getElem hjl⟩
          have hvM : v < M := by rw [← hM.out]; exact hO.low v (List.mem_of_getElem? hv)
          have iV := fun w' => hOQ.at.idx j (by rw [castI_len]; exact hjl) w'
          have cV := hOQ.at.cellD j (by rw [castI_len]; exact hjl)
          rw [castI_get hv] at cV
          obtain ⟨mv, iR, cR, hMv⟩ := hrow.out v hvM
          rw [hrow2.out v hvM] at hMv
          have lM := hMv.len
          rw [castI_len] at lM
          have hadjl : (pairL K u T v).length ≤ 16 := Nat.le_trans (pairL_len K u T v) (Nat.le_trans (Nat.mul_le_mul hk4 hk4) (by decide))
          obtain ⟨d1, d2, d3, d4, d5, d6⟩ := dm9 v u (by omega)
          obtain ⟨u1, hu1⟩ : ∃ z, v / u = z := ⟨_, rfl⟩
          obtain ⟨v1, hv1⟩ : ∃ z, v % u = z := ⟨_, rfl⟩
          rw [hu1] at d1 d3 d5
          rw [hv1] at d2 d4 d6
          have hvd : Diag u v ↔ u1 = v1 := by unfold Diag; rw [hu1, hv1]
          have hin := hO.enter hv
          have hjl2 := Lib.hid hjl
          obtain ⟨L, hL9⟩ : ∃ L, pairL K u T v = L := ⟨_, rfl⟩
          rw [hL9] at hMv lM hadjl
          have hLlow : ∀ t ∈ L, t < M := fun t ht => by
            rw [← hL9] at ht
            rw [← hM.out]; exact ((mem_pairL (by omega)).1 ht).lt (by omega)
          obtain ⟨mva, mvn, mvc, rfl⟩ := hMv.shape
          generalize valAt qv j = qa at *
          obtain ⟨ra, hra⟩ : ∃ ra, valAt (.slice ga M gc) v = ra := ⟨_, rfl⟩
          rw [hra] at iR cR
          replace hu1 := Lib.hid hu1
          replace hv1 := Lib.hid hv1
          replace hvd := Lib.hid hvd
          replace hL9 := Lib.hid hL9
          replace hMv := Lib.hid hMv
          replace hin := Lib.hid hin
          replace hr2 := Lib.hid hr2
          replace hF2 := Lib.hid hF2
          replace hO := Lib.hid hO
          replace hC := Lib.hid hC
          replace hOQ := Lib.hid hOQ
          replace hv := Lib.hid hv
          replace hra := Lib.hid hra
          replace hLlow := Lib.hid hLlow
          have cR0 := Lib.hid cR
          clear cR
          go_wp2_with fail
          clear cV iV lQ dj
          go_loopw [11, 15] (fun qv tv wr => ∃ (k : Nat) (f : Names) (qw : Value) (came : Nat → Int) (q : List Nat) (D : Nat → Nat), k ≤ L.length ∧ tv = .int .i64 k ∧ qw = qv ∧ Rows w4.heap.size wr f ∧ Below w4.heap.size w4 wr ∧ FN f (.slice ca cn cc) qw M (fun x => ((D x : Nat) : Int)) q ∧ j < q.length ∧ MIn u (pairL K u T) D q j v (L.take k) ∧ CameOf u (pairL K u T) D q came) (fun _ tv _ => L.length - (intOf tv).toNat)
          case atStart => exact ⟨0, f2, _, came, q, D, by omega, rfl, rfl, hr2.out, b2, hF2.out, hjl2.out, hin.out, hC.out⟩
          case round =>
            clear hr2 hF2 hO hC hOQ hin b2 hqlen
            obtain ⟨k, f3, qv, came, q, D, hk, rfl, rfl, hr3, b3', hF3, hjq, hIn, hC⟩ := hrel
            obtain ⟨wp', rfl⟩ : ∃ wo : World, wo = wr := ⟨_, rfl⟩
            have hqlen : q.length ≤ M := nodup_len M q hIn.nodup (fun x hx => by rw [← hM.out]; exact hIn.low x hx)
            have cR := (b3'.cell (World.block_lt_of_cell? _ _ cR0.out)).trans cR0.out
            by_cases hkl : k < L.length
            · have dk : decide ((k : Int) < (L.length : Int)) = true := decide_eq_true (by omega)
              obtain ⟨t, ht⟩ : ∃ t, L[k]? = some t := ⟨_, List.getElem?_eq_getElem hkl⟩
              have htm : t ∈ pairL K u T v := by rw [hL9.out]; exact List.mem_of_getElem? ht
              have htM : t < M := hLlow.out t (List.mem_of_getElem? ht)
              have hM3 := hMv.out.below b3'
              have iT := fun w' => hM3.idx k (by rw [castI_len]; exact hkl) w'
              have cT := hM3.cellD k (by rw [castI_len]; exact hkl)
              rw [castI_get ht] at cT
              have htk : L.take (k + 1) = L.take k ++ [t] := by rw [List.take_add_one, ht]; rfl
              obtain ⟨e1, e2, e3, e4, e5, e6⟩ := dm9 t u (by omega)
              obtain ⟨a, ha⟩ : ∃ z, t / u = z := ⟨_, rfl⟩
              obtain ⟨b, hb⟩ : ∃ z, t % u = z := ⟨_, rfl⟩
              have htd : Diag u t ↔ a = b := by unfold Diag; rw [ha, hb]
              rw [ha] at e1 e3 e5
              rw [hb] at e2 e4 e6
              have hkl2 := Lib.hid hkl
              have hBs := b3'.size
              obtain ⟨ta, hta⟩ : ∃ ta, valAt (.slice mva mvn mvc) k = ta := ⟨_, rfl⟩
              rw [hta] at iT cT
              replace hta := Lib.hid hta
              replace ha := Lib.hid ha
              replace hb := Lib.hid hb
              replace ht := Lib.hid ht
              replace hM3 := Lib.hid hM3
              replace hr3 := Lib.hid hr3
              replace hF3 := Lib.hid hF3
              replace hIn := Lib.hid hIn
              replace hC := Lib.hid hC
              replace htk := Lib.hid htk
              replace htm := Lib.hid htm
              have hS : True := trivial
              by_cases hab : a = b
              · have hq2 : ((a : Int) == (b : Int)) = true := by rw [beq_iff_eq]; omega
                have htD := htd.2 hab
                replace htd := Lib.hid htd
                go_upto_region 29 with fail
                refine wp_region_plan (fun _ => True) 6 [(0, true), (1, true), (2, true), (3, true), (4, true), (5, true)] (by kernel_rfl) (by kernel_rfl) ?_
                refine headY (v := ?_) (some 97) rfl rfl (Or.inl ⟨by rfl, ?_⟩) hS ?_
                rotate_left
                · rintro W' _; go_simp; try with_reducible rfl
                simp only [Act.put, List.setIfInBounds_toArray, List.set_cons_zero, List.set_cons_succ]
                refine headY (v := ?_) (some 98) rfl rfl (Or.inl ⟨by rfl, ?_⟩) hS ?_
                rotate_left
                · rintro W' _; go_simp; try with_reducible rfl
                simp only [Act.put, List.setIfInBounds_toArray, List.set_cons_zero, List.set_cons_succ]
                refine headY (v := ?_) (some 99) rfl rfl (Or.inl ⟨by rfl, ?_⟩) hS ?_
                rotate_left
                · rintro W' _; go_simp; try with_reducible rfl
                simp only [Act.put, List.setIfInBounds_toArray, List.set_cons_zero, List.set_cons_succ]
                refine headY (v := ?_) (some 100) rfl rfl (Or.inl ⟨by rfl, ?_⟩) hS ?_
                rotate_left
                · rintro W' _; go_simp; try with_reducible rfl
                simp only [Act.put, List.setIfInBounds_toArray, List.set_cons_zero, List.set_cons_succ]
                refine headY (v := ?_) (some 101) rfl rfl (Or.inl ⟨by rfl, ?_⟩) hS ?_
                rotate_left
                · rintro W' _; go_simp; try with_reducible rfl
                simp only [Act.put, List.setIfInBounds_toArray, List.set_cons_zero, List.set_cons_succ]
                refine headY (v := ?_) (some 102) rfl rfl (Or.inl ⟨by rfl, ?_⟩) hS ?_
                rotate_left
                · rintro W' _; go_simp; try with_reducible rfl
                simp only [Act.put, List.setIfInBounds_toArray, List.set_cons_zero, List.set_cons_succ]
                refine head0 ?_
                simp only [List.drop_succ_cons, List.drop_zero]
                go_wp2
                refine NoPanic.normal ?_
                go_upto_region 30 with fail
                refine wp_region_plan (fun _ => True) 6 [(0, true), (1, true), (2, true), (3, true), (4, true), (5, true)] (by kernel_rfl) (by kernel_rfl) ?_
                refine headY (v := ?_) (some 104) rfl rfl (Or.inl ⟨by rfl, ?_⟩) hS ?_
                rotate_left
                · rintro W' _; go_simp; try with_reducible rfl
                simp only [Act.put, List.setIfInBounds_toArray, List.set_cons_zero, List.set_cons_succ]
                refine headY (v := ?_) (some 105) rfl rfl (Or.inl ⟨by rfl, ?_⟩) hS ?_
                rotate_left
                · rintro W' _; go_simp; try with_reducible rfl
                simp only [Act.put, List.setIfInBounds_toArray, List.set_cons_zero, List.set_cons_succ]
                refine headY (v := ?_) (some 106) rfl rfl (Or.inl ⟨by rfl, ?_⟩) hS ?_
                rotate_left
                · rintro W' _; go_simp; try with_reducible rfl
                simp only [Act.put, List.setIfInBounds_toArray, List.set_cons_zero, List.set_cons_succ]
                refine headY (v := ?_) (some 107) rfl rfl (Or.inl ⟨by rfl, ?_⟩) hS ?_
                rotate_left
                · rintro W' _; go_simp; try with_reducible rfl
                simp only [Act.put, List.setIfInBounds_toArray, List.set_cons_zero, List.set_cons_succ]
                refine headY (v := ?_) (some 108) rfl rfl (Or.inl ⟨by rfl, ?_⟩) hS ?_
                rotate_left
                · rintro W' _; go_simp; try with_reducible rfl
                simp only [Act.put, List.setIfInBounds_toArray, List.set_cons_zero, List.set_cons_succ]
                refine headY (v := ?_) (some 109) rfl rfl (Or.inl ⟨by rfl, ?_⟩) hS ?_
                rotate_left
                · rintro W' _; go_simp; try with_reducible rfl
                simp only [Act.put, List.setIfInBounds_toArray, List.set_cons_zero, List.set_cons_succ]
                refine head0 ?_
                simp only [List.drop_succ_cons, List.drop_zero]
                by_cases hvv : u1 = v1
                · have hq3 : ((u1 : Int) != (v1 : Int)) = false := by rw [bne_eq_false_iff_eq]; omega
                  have hsk := hIn.out.skip (.inl ⟨htD, hvd.out.2 hvv⟩)
                  rw [← htk.out] at hsk
                  replace hsk := Lib.hid hsk
                  go_wp2
                  refine NoPanic.normal ?_
                  go_wp2
                  go_roundw
                  case measure => have := hkl2.out; simp [intOf]; omega
                  case rel => exact ⟨k + 1, f3, _, came, q, D, by have := hkl2.out; omega, by go_num, rfl, hr3.out.drew.drew, b3'.drew.drew, hF3.out, hjq, hsk.out, hC.out⟩
                · have hq3 : ((u1 : Int) != (v1 : Int)) = true := by rw [bne_iff_ne]; omega
                  have hvD : ¬ Diag u v := fun e => hvv (hvd.out.1 e)
                  obtain ⟨c, hbw, hap1, hap2, hap3⟩ := hIn.out.met hC.out hvD htD (by rw [hM.out]; exact htM) htm.out
                  have htl := hlen9.out _ hap1 hap3
                  rw [hap2, show D v + 2 - 1 = D v + 1 by omega] at htl
                  have hDv : D v ≤ q.length := hIn.out.bnd v (List.mem_of_getElem? hIn.out.at_)
                  have b5' := b3'.drew.drew.drew
                  have hO5 : OwnI w4.heap.size wp'.drew.drew.drew (.slice ca cn cc) (tabI M fun x => ((D x : Nat) : Int)) := (hr3.out.ownI hF3.out.came).drew.drew.drew
                  have iD := fun w' => hO5.at.idx v (by rw [tabI_len]; exact hvM) w'
                  have cD := hO5.at.cellD v (by rw [tabI_len]; exact hvM)
                  rw [tabI_get _ _ _ hvM] at cD
                  obtain ⟨d, hd⟩ : ∃ d, D v = d := ⟨_, rfl⟩
                  rw [hd] at cD hDv htl
                  obtain ⟨da, hda⟩ : ∃ da, valAt (.slice ca cn cc) v = da := ⟨_, rfl⟩
                  rw [hda] at iD cD
                  obtain ⟨V, hV⟩ : ∃ V : World, wp'.drew.drew.drew = V := ⟨_, rfl⟩
                  rw [hV] at cD b5'
                  have c9 := Below.step c4 b5'
                  obtain ⟨⟨_, r1, _⟩, -, -, -⟩ := qA4.out.below b5'
                  obtain ⟨⟨g0, g1, g2⟩, f0', f1', f2'⟩ := q4.below c9
                  have hS2 : V.cell? ⟨w.heap.size, 1, none⟩ = some (.int .i64 R) ∧ V.cell? da = some (.int .i64 d) := ⟨r1, cD⟩
                  obtain ⟨m, hm⟩ : ∃ m, 2 * R = m := ⟨_, rfl⟩
                  have hw1 : IntKind.i64.wrap (2 * (R : Int)) = (m : Int) := by rw [show 2 * (R : Int) = (m : Int) by omega]; exact wrapK (by omega) (by omega)
                  obtain ⟨y, hy⟩ : ∃ y, m + d = y := ⟨_, rfl⟩
                  have hy2 : (m : Int) + (d : Int) = (y : Int) := by omega
                  have hwy : IntKind.i64.wrap (y : Int) = (y : Int) := wrapK (by omega) (by omega)
                  have hwz : IntKind.i64.wrap ((y : Int) + 1) = ((y + 1 : Nat) : Int) := by rw [show (y : Int) + 1 = ((y + 1 : Nat) : Int) by omega]; exact wrapK (by omega) (by omega)
                  rw [show 2 * R + (d + 1) = y + 1 by omega] at htl
                  obtain ⟨z, hz⟩ : ∃ z, y + 1 = z := ⟨_, rfl⟩
                  rw [hz] at htl hwz
                  have hz7 : z ≤ 7000 := by omega
                  replace hm := Lib.hid hm
                  replace hy := Lib.hid hy
                  replace hz := Lib.hid hz
                  replace htl := Lib.hid htl
                  replace hd := Lib.hid hd
                  replace hV := Lib.hid hV
                  replace hda := Lib.hid hda
                  replace hO5 := Lib.hid hO5
                  clear hbw hap1 hap2 hap3 iT cT cR cD r1
                  go_wp2
                  refine NoPanic.normal ?_
                  go_upto_region 31 with fail
                  refine wp_region_plan (fun w' => w'.cell? ⟨w.heap.size, 1, none⟩ = some (.int .i64 R) ∧ w'.cell? da = some (.int .i64 d)) 12 [(0, true), (1, true), (2, true), (3, true), (4, true), (5, true), (6, true), (7, true), (8, true), (9, true), (10, true), (11, true)] (by kernel_rfl) (by kernel_rfl) ?_
                  rw [hV.out]
                  refine headY (v := ?_) (some 111) rfl rfl (Or.inl ⟨by rfl, ?_⟩) hS2 ?_
                  rotate_left
                  · rintro W' ⟨s0, s1⟩; go_simp; try with_reducible rfl
                  simp only [Act.put, List.setIfInBounds_toArray, List.set_cons_zero, List.set_cons_succ]
                  refine headY (v := ?_) (some 112) rfl rfl (Or.inl ⟨by rfl, ?_⟩) hS2 ?_
                  rotate_left
                  · rintro W' ⟨s0, s1⟩; go_simp; try with_reducible rfl
                  simp only [Act.put, List.setIfInBounds_toArray, List.set_cons_zero, List.set_cons_succ]
                  refine headY (v := ?_) (some 113) rfl rfl (Or.inl ⟨by rfl, ?_⟩) hS2 ?_
                  rotate_left
                  · rintro W' ⟨s0, s1⟩; go_simp; try with_reducible rfl
                  simp only [Act.put, List.setIfInBounds_toArray, List.set_cons_zero, List.set_cons_succ]
                  refine headY (v := ?_) (some 114) rfl rfl (Or.inl ⟨by rfl, ?_⟩) hS2 ?_
                  rotate_left
                  · rintro W' ⟨s0, s1⟩; go_simp; try with_reducible rfl
                  simp only [Act.put, List.setIfInBounds_toArray, List.set_cons_zero, List.set_cons_succ]
                  refine headY (v := ?_) (some 115) rfl rfl (Or.inl ⟨by rfl, ?_⟩) hS2 ?_
                  rotate_left
                  · rintro W' ⟨s0, s1⟩; go_simp; try with_reducible rfl
                  simp only [Act.put, List.setIfInBounds_toArray, List.set_cons_zero, List.set_cons_succ]
                  refine headY (v := ?_) (some 116) rfl rfl (Or.inl ⟨by rfl, ?_⟩) hS2 ?_
                  rotate_left
                  · rintro W' ⟨s0, s1⟩; go_simp; try with_reducible rfl
                  simp only [Act.put, List.setIfInBounds_toArray, List.set_cons_zero, List.set_cons_succ]
                  refine headY (v := ?_) (some 117) rfl rfl (Or.inl ⟨by rfl, ?_⟩) hS2 ?_
                  rotate_left
                  · rintro W' ⟨s0, s1⟩; go_simp; try with_reducible rfl
                  simp only [Act.put, List.setIfInBounds_toArray, List.set_cons_zero, List.set_cons_succ]
                  refine headY (v := ?_) (some 118) rfl rfl (Or.inl ⟨by rfl, ?_⟩) hS2 ?_
                  rotate_left
                  · rintro W' ⟨s0, s1⟩; go_simp; try with_reducible rfl
                  simp only [Act.put, List.setIfInBounds_toArray, List.set_cons_zero, List.set_cons_succ]
                  refine headY (v := ?_) (some 119) rfl rfl (Or.inl ⟨by rfl, ?_⟩) hS2 ?_
                  rotate_left
                  · rintro W' ⟨s0, s1⟩; go_simp; try with_reducible rfl
                  simp only [Act.put, List.setIfInBounds_toArray, List.set_cons_zero, List.set_cons_succ]
                  refine headY (v := ?_) (some 120) rfl rfl (Or.inl ⟨by rfl, ?_⟩) hS2 ?_
                  rotate_left
                  · rintro W' ⟨s0, s1⟩; go_simp; try with_reducible rfl
                  simp only [Act.put, List.setIfInBounds_toArray, List.set_cons_zero, List.set_cons_succ]
                  refine headY (v := ?_) (some 2) rfl rfl (Or.inl ⟨by rfl, ?_⟩) hS2 ?_
                  rotate_left
                  · rintro W' ⟨s0, s1⟩; go_simp; try with_reducible rfl
                  simp only [Act.put, List.setIfInBounds_toArray, List.set_cons_zero, List.set_cons_succ]
                  refine headY (v := ?_) (some 3) rfl rfl (Or.inl ⟨by rfl, ?_⟩) hS2 ?_
                  rotate_left
                  · rintro W' ⟨s0, s1⟩; go_simp; try with_reducible rfl
                  simp only [Act.put, List.setIfInBounds_toArray, List.set_cons_zero, List.set_cons_succ]
                  refine head0 ?_
                  simp only [List.drop_succ_cons, List.drop_zero]
                  clear hS2
                  go_wp2
                  refine NoPanic.normal ?_
                  go_wp2
                  (try simp only [Exit.inBlock, Exit.then])
                  exact bodyPost_ret (v := .tuple #[.bool false, .int .i64 (z : Int), .agg #[.int .i64 0, .slice none 0 0, .slice none 0 0]]) (by simp [results, Tryz.results11, go_sem, g0, g1, g2]) rfl ⟨_, _, _, rfl, below_set3 (Below.step bA c9) (by have := s0.out; omega) _ _ _, rfl, .inr ⟨z, rfl, rfl, htl.out, hz7⟩⟩
              · have hq2 : ((a : Int) == (b : Int)) = false := by rw [beq_eq_false_iff_ne]; omega
                have htD : ¬ Diag u t := fun e => hab (htd.1 e)
                replace htd := Lib.hid htd
                go_upto_region 29 with fail
                refine wp_region_plan (fun _ => True) 6 [(0, true), (1, true), (2, true), (3, true), (4, true), (5, true)] (by kernel_rfl) (by kernel_rfl) ?_
                refine headY (v := ?_) (some 97) rfl rfl (Or.inl ⟨by rfl, ?_⟩) hS ?_
                rotate_left
                · rintro W' _; go_simp; try with_reducible rfl
                simp only [Act.put, List.setIfInBounds_toArray, List.set_cons_zero, List.set_cons_succ]
                refine headY (v := ?_) (some 98) rfl rfl (Or.inl ⟨by rfl, ?_⟩) hS ?_
                rotate_left
                · rintro W' _; go_simp; try with_reducible rfl
                simp only [Act.put, List.setIfInBounds_toArray, List.set_cons_zero, List.set_cons_succ]
                refine headY (v := ?_) (some 99) rfl rfl (Or.inl ⟨by rfl, ?_⟩) hS ?_
                rotate_left
                · rintro W' _; go_simp; try with_reducible rfl
                simp only [Act.put, List.setIfInBounds_toArray, List.set_cons_zero, List.set_cons_succ]
                refine headY (v := ?_) (some 100) rfl rfl (Or.inl ⟨by rfl, ?_⟩) hS ?_
                rotate_left
                · rintro W' _; go_simp; try with_reducible rfl
                simp only [Act.put, List.setIfInBounds_toArray, List.set_cons_zero, List.set_cons_succ]
                refine headY (v := ?_) (some 101) rfl rfl (Or.inl ⟨by rfl, ?_⟩) hS ?_
                rotate_left
                · rintro W' _; go_simp; try with_reducible rfl
                simp only [Act.put, List.setIfInBounds_toArray, List.set_cons_zero, List.set_cons_succ]
                refine headY (v := ?_) (some 102) rfl rfl (Or.inl ⟨by rfl, ?_⟩) hS ?_
                rotate_left
                · rintro W' _; go_simp; try with_reducible rfl
                simp only [Act.put, List.setIfInBounds_toArray, List.set_cons_zero, List.set_cons_succ]
                refine head0 ?_
                simp only [List.drop_succ_cons, List.drop_zero]
                obtain ⟨V, hV⟩ : ∃ V : World, wp'.drew = V := ⟨_, rfl⟩
                have bV : Below w4.heap.size w4 V := by rw [← hV]; exact b3'.drew
                have hrV : Rows w4.heap.size V f3 := by rw [← hV]; exact hr3.out.drew
                have hOC := hrV.ownI hF3.out.came
                have iC := fun w' => hOC.at.idx t (by rw [tabI_len]; exact htM) w'
                have cC := hOC.at.cellD t (by rw [tabI_len]; exact htM)
                rw [tabI_get _ _ _ htM] at cC
                have fC := hOC.frz t (by rw [tabI_len]; exact htM)
                have kC := (hOC.toV.blkB t (by rw [List.length_map, tabI_len]; exact htM)).2
                have iD := fun w' => hOC.at.idx v (by rw [tabI_len]; exact hvM) w'
                have cD := hOC.at.cellD v (by rw [tabI_len]; exact hvM)
                rw [tabI_get _ _ _ hvM] at cD
                have hDv : D v ≤ q.length := hIn.out.bnd v (List.mem_of_getElem? hIn.out.at_)
                obtain ⟨f8, hr8, h8, hf8⟩ := hF3.out.set hrV t htM ((D v : Int) + 1)
                rw [updN_cast] at h8
                have hold := hIn.out.old t (by rw [hM.out]; exact htM) htD
                obtain ⟨tc, htc⟩ : ∃ tc, valAt (.slice ca cn cc) t = tc := ⟨_, rfl⟩
                obtain ⟨da, hda⟩ : ∃ da, valAt (.slice ca cn cc) v = da := ⟨_, rfl⟩
                rw [htc] at iC cC fC kC hr8
                rw [hda] at iD cD
                obtain ⟨dt, hdt⟩ : ∃ dt, D t = dt := ⟨_, rfl⟩
                obtain ⟨dv, hdv⟩ : ∃ dv, D v = dv := ⟨_, rfl⟩
                rw [hdt] at cC hold
                rw [hdv] at cD hDv h8 hr8
                have hbV8 : Below w4.heap.size w4 (V.setCell tc (.int .i64 ((dv : Int) + 1))) := bV.setCell kC _
                have sV := bV.size
                replace hV := Lib.hid hV
                replace htc := Lib.hid htc
                replace hda := Lib.hid hda
                replace hdt := Lib.hid hdt
                replace hrV := Lib.hid hrV
                replace hOC := Lib.hid hOC
                replace h8 := Lib.hid h8
                replace hr8 := Lib.hid hr8
                have hdv' := Lib.hid hdv
                clear hdv iT cT cR
                by_cases h0 : dt = 0
                · have hq3 : ((dt : Int) == 0) = true := by rw [beq_iff_eq]; omega
                  have hnq : t ∉ q := fun e => by have := hold.1 e; omega
                  have hadd := hIn.out.add (by rw [hM.out]; exact htM) htD hnq
                  have hcadd := CameOf.add hIn.out hC.out htD hnq htm.out
                  rw [← htk.out, hdv'.out] at hadd
                  rw [hdv'.out] at hcadd
                  obtain ⟨W8, hW8⟩ : ∃ W : World, V.setCell tc (.int .i64 ((dv : Int) + 1)) = W := ⟨_, rfl⟩
                  have hr8' : Rows w4.heap.size W8 f8 := by rw [← hW8]; exact hr8.out
                  rw [hW8] at hbV8
                  have hoQ8 := hr8'.ownI h8.out.queue
                  replace hW8 := Lib.hid hW8
                  replace hr8' := Lib.hid hr8'
                  have hBs8 : w4.heap.size ≤ W8.heap.size := hbV8.size
                  have hlq8 : (castI q).length ≤ 6561 := by rw [castI_len]; omega
                  replace hadd := Lib.hid hadd
                  replace hcadd := Lib.hid hcadd
                  replace hold := Lib.hid hold
                  have hq4 : dt = 0 := h0
                  replace hq4 := Lib.hid hq4
                  go_wp2
                  refine NoPanic.normal ?_
                  go_upto_region 32 with fail
                  rw [hV.out]
                  go_upto_region 34 with fail
                  rw [hW8.out]
                  go_wp2_with (at_builtin; go_loud (refine wpl_app1 rfl _ _ rfl w4.heap.size qv _ t hoQ8 rfl rfl (by omega) hBs8 ?_))
                  intro qv' w7 ho7 b7 hal7
                  obtain ⟨f9, hr9, h9, _⟩ := h8.out.push hr8'.out t ho7 hal7
                  obtain ⟨q1, q2, q3, rfl⟩ := ho7.at.shape
                  replace hr9 := Lib.hid hr9
                  replace ho7 := Lib.hid ho7
                  clear hal7 hoQ8
                  go_wp2
                  go_roundw
                  case measure => have := hkl2.out; simp [intOf]; omega
                  case rel => exact ⟨k + 1, f9, _, _, _, _, by have := hkl2.out; omega, by go_num, rfl, hr9.out, hbV8.trans b7, h9, by simp; omega, hadd.out, hcadd.out⟩
                · have hq3 : ((dt : Int) == 0) = false := by rw [beq_eq_false_iff_ne]; omega
                  have hinq : t ∈ q := hold.2 (by omega)
                  have hsk := hIn.out.skip (.inr ⟨htD, hinq⟩)
                  rw [← htk.out] at hsk
                  replace hsk := Lib.hid hsk
                  replace hold := Lib.hid hold
                  go_wp2
                  refine NoPanic.normal ?_
                  go_upto_region 32 with fail
                  rw [hV.out]
                  go_wp2
                  go_roundw
                  case measure => have := hkl2.out; simp [intOf]; omega
                  case rel => exact ⟨k + 1, f3, _, came, q, D, by have := hkl2.out; omega, by go_num, rfl, hrV.out, bV, hF3.out, hjq, hsk.out, hC.out⟩
            · have dk : decide ((k : Int) < (L.length : Int)) = false := decide_eq_false (by omega)
              have hkL : k = L.length := by omega
              have hlv := hIn.leave (by rw [hkL, List.take_length, hL9.out])
              replace hlv := Lib.hid hlv
              replace hr3 := Lib.hid hr3
              replace hF3 := Lib.hid hF3
              replace hIn := Lib.hid hIn
              replace hC := Lib.hid hC
              have hjq2 := Lib.hid hjq
              replace hkL := Lib.hid hkL
              go_wp2_with fail
              go_roundw
              case measure => have := hjq2.out; simp [intOf]; omega
              case rel => exact ⟨j + 1, f3, _, came, q, D, by have := hjq2.out; omega, by go_num, rfl, hr3.out, b3', hF3.out, hlv.out, hC.out⟩
        · have dj : decide ((j : Int) < (q.length : Int)) = false := decide_eq_false (by omega)
          have hn := hnone.out (fun w => hO.none (by omega) w)
          have c9 := Below.step c4 b2
          obtain ⟨⟨g0, g1, g2⟩, f0', f1', f2'⟩ := q4.below c9
          replace hn := Lib.hid hn
          replace hO := Lib.hid hO
          replace hC := Lib.hid hC
          replace hr2 := Lib.hid hr2
          replace hF2 := Lib.hid hF2
          replace hOQ := Lib.hid hOQ
          go_wp2
          (try simp only [Exit.inBlock, Exit.then])
          exact bodyPost_ret (v := .tuple #[.bool true, .int .i64 0, .agg #[.int .i64 0, .slice none 0 0, .slice none 0 0]]) (by simp [results, Tryz.results11, go_sem, g0, g1, g2]) rfl ⟨_, _, _, rfl, below_set3 (Below.step bA c9) (by have := s0.out; omega) _ _ _, rfl, .inl ⟨rfl, rfl, hn.out⟩⟩

theorem ref15f_ok (K R : Nat) (va : Option Addr) (vn vc : Nat) (T : List Int) (w : World) (h : IntsAt w (.slice va vn vc) T) (hr : RuleOk K R T) (hl : T.length ≤ 256) :
    Calls Tryz.prog 11 #[.agg #[.int .i64 K, .int .i64 R, .slice va vn vc]] w (Ret3 (fun x y z _ => RFin K R T x y z) w) := by
  by_cases e : R = 0
  · subst e; exact ref15f_zero K va vn vc T w h hr hl
  · exact ref15f_pos K R va vn vc T w h hr hl (by omega)
end Go.Proofs.YtilpckngghffoaaGreatDoor

namespace Go.Proofs.YtilpckngghffoaaGreatDoor
open Go.RowKit
set_option maxRecDepth 100000

end Go.Proofs.YtilpckngghffoaaGreatDoor

namespace Go.Proofs.YtilpckngghffoaaGreatDoor

end Go.Proofs.YtilpckngghffoaaGreatDoor

namespace Go.Proofs.YtilpckngghffoaaGreatDoor

theorem sub_get {x : List Int} {i m j : Nat} (h : j < m) : ((x.drop i).take m).getD j 0 = x.getD (i + j) 0 := by
  simp [List.getD, h, List.getElem?_drop]
theorem ext_getD {a b : List Int} (hl : a.length = b.length) (h : ∀ t, t < a.length → a.getD t 0 = b.getD t 0) : a = b :=
  List.ext_getElem hl fun t h1 h2 => by have := h t h1; simpa [List.getD, h1, h2] using this
theorem img_cut {K R : Nat} {T x : List Int} {i m : Nat} (h : i + m ≤ x.length) : imgP K R T ((x.drop i).take m) = ((imgP K R T x).drop i).take (m - 2 * R) := by
  have hl : ((x.drop i).take m).length = m := by simp; omega
  refine ext_getD (by simp only [imgP_length, hl, List.length_take, List.length_drop]; omega) fun t ht => ?_
  rw [imgP_length, hl] at ht
  rw [imgP_getD _ _ _ _ _ (by rw [hl]; exact ht), sub_get ht, imgP_getD _ _ _ _ _ (by omega)]
  congr 2
  rw [List.drop_take, List.take_take, List.drop_drop, Nat.min_eq_left (by omega)]

/-- Two words of 2 n + 1 symbols, unlike in the middle, with one image. -/
def Split (K R : Nat) (T : List Int) (n : Nat) : Prop := ∃ x y, Syms K x ∧ Syms K y ∧ x.length = 2 * n + 1 ∧ y.length = 2 * n + 1 ∧ x.getD n 0 ≠ y.getD n 0 ∧ imgP K R T x = imgP K R T y
theorem split_of {K R : Nat} {T x y : List Int} (sx : Syms K x) (sy : Syms K y) (hl : x.length = y.length) {j n : Nat} (h1 : n ≤ j) (h2 : j + n < x.length) (hne : x.getD j 0 ≠ y.getD j 0)
    (hi : imgP K R T ((x.drop (j - n)).take (2 * n + 1)) = imgP K R T ((y.drop (j - n)).take (2 * n + 1))) : Split K R T n :=
  ⟨_, _, syms_take (syms_drop sx _) _, syms_take (syms_drop sy _) _, by simp; omega, by simp; omega, by
    rw [sub_get (by omega), sub_get (by omega), show j - n + n = j by omega]; exact hne, hi⟩
theorem split_img {K R : Nat} {T x y : List Int} (sx : Syms K x) (sy : Syms K y) (hl : x.length = y.length) {j n : Nat} (h1 : n ≤ j) (h2 : j + n < x.length) (hne : x.getD j 0 ≠ y.getD j 0)
    (hi : imgP K R T x = imgP K R T y) : Split K R T n :=
  split_of sx sy hl h1 h2 hne (by rw [img_cut (by omega), img_cut (by omega), hi])
theorem Split.mono {K R : Nat} {T : List Int} {n m : Nat} (h : Split K R T n) (hm : m ≤ n) : Split K R T m := by
  obtain ⟨x, y, sx, sy, lx, ly, hne, hi⟩ := h
  exact split_img sx sy (by omega) (j := n) hm (by omega) hne hi
end Go.Proofs.YtilpckngghffoaaGreatDoor

namespace Go.Proofs.YtilpckngghffoaaGreatDoor
open Go.RowKit
set_option maxRecDepth 100000

end Go.Proofs.YtilpckngghffoaaGreatDoor

namespace Go.Proofs.YtilpckngghffoaaGreatDoor
open Go.RowKit
set_option maxRecDepth 100000

theorem symbols1_any (x k : Int) (b : Nat) (w : World) (hb : w.cell? ⟨b, 0, none⟩ = some (.int .i64 k)) :
    Calls Tryz.prog 98 #[.int .i64 x, .pointer (some ⟨b, 0, none⟩)] w fun e w' => e = .returned (.bool (odd1 k x)) ∧ w = w' := by
  by_cases h : x < 0
  · have e : odd1 k x = true := by simp [odd1, h]
    rw [e]
    go_enter Tryz.func98, Tryz.ntmps98
    go_wp2
    go_ret
    exact ⟨rfl, rfl⟩
  · have e : odd1 k x = decide (k ≤ x) := by simp [odd1, h]
    rw [e]
    go_enter Tryz.func98, Tryz.ntmps98
    go_wp2
    go_ret
    exact ⟨ret_bool (by simp), rfl⟩
theorem eg_symbols1 (args : Array Value) (w : World) : (callFunc 98 args).run Tryz.prog w = .ok (.enter 98 args) w := by kernel_rfl
theorem symbols_any (k : Int) (u : Value) (xs : List Int) (w : World) (hu : IntsAt w u xs) :
    Calls Tryz.prog 52 #[.int .i64 k, u] w (Ret1 (fun x _ => x = .int .i64 (idxOf (odd1 k) xs)) w) := by
  have b0 := belowAlloc w (.cells #[.int .i64 k] 3)
  have z0 : (w.alloc (.cells #[.int .i64 k] 3)).cell? ⟨w.heap.size, 0, none⟩ = some (.int .i64 k) := by simp [go_sem]
  have hI := indexFunc_any u (.pointer (some ⟨w.heap.size, 0, none⟩)) 98 xs (odd1 k) (w.alloc (.cells #[.int .i64 k] 3)) (hu.below b0) eg_symbols1 (fun x _ => symbols1_any x k w.heap.size _ z0)
  replace hI := Lib.hid hI
  go_enter Tryz.func52, Tryz.ntmps52
  go_wp2_with fail
  refine hI.out.mono ?_
  rintro e w1 ⟨rfl, rfl⟩
  go_wp2
  go_ret
  exact ⟨_, rfl, b0, rfl⟩

/-- How long a slice value says it is. -/
def sliceL : Value → Nat
  | .slice _ n _ => n
  | _ => 0
theorem sliceL_of {w : World} {v : Value} {xs : List Int} (h : IntsAt w v xs) : sliceL v = xs.length := by
  obtain ⟨a, cap, rfl, _⟩ := h; rfl

set_option maxHeartbeats 2000000 in
theorem timage_ok (K R : Nat) (va : Option Addr) (vn vc : Nat) (T : List Int) (u : Value) (x : List Int) (w : World) (h : IntsAt w (.slice va vn vc) T) (hr : RuleOk K R T) (hu : IntsAt w u x) (hx : Syms K x) (hl : x.length ≤ 100000) :
    Calls Tryz.prog 54 #[.agg #[.int .i64 K, .int .i64 R, .slice va vn vc], u] w (Ret1 (fun v w' => OwnI w.heap.size w' v (imgP K R T x)) w) := by
  have b0 := belowAlloc w (.cells #[.int .i64 K, .int .i64 R, .slice va vn vc] 24)
  have q : Box3 (w.alloc (.cells #[.int .i64 K, .int .i64 R, .slice va vn vc] 24)) w.heap.size (.int .i64 K) (.int .i64 R) (.slice va vn vc) := by simp [Box3, go_sem]
  have hR3 := hr.r3
  replace h := Lib.hid (h.below b0)
  replace hu := Lib.hid (hu.below b0)
  replace hr := Lib.hid hr
  replace hx := Lib.hid hx
  obtain ⟨W0, hW0⟩ : ∃ W : World, w.alloc (.cells #[.int .i64 K, .int .i64 R, .slice va vn vc] 24) = W := ⟨_, rfl⟩
  have s0 : w.heap.size ≤ W0.heap.size := by rw [← hW0]; simp
  rw [hW0] at h hu q b0
  replace hW0 := Lib.hid hW0
  go_enter Tryz.func54, Tryz.ntmps54
  go_upto_region 2 with fail
  rw [hW0.out]
  clear hW0
  go_loopw [1, 5] (fun uv ov wr => ∃ (k : Nat) (uw ow : Value), uw = uv ∧ ow = ov ∧ k ≤ x.length - 2 * R ∧ IntsAt W0 uw (x.drop k) ∧ OwnI W0.heap.size wr ow ((imgP K R T x).take k) ∧ Below W0.heap.size W0 wr) (fun uv _ _ => sliceL uv)
  case atStart => exact ⟨0, _, _, rfl, rfl, Nat.zero_le _, hu.out, OwnI.nil _ _, Below.refl _ _⟩
  case round =>
    obtain ⟨k, uw, ow, rfl, rfl, hk, hU0, hO, hB⟩ := hrel
    have hU := hU0.below hB
    obtain ⟨wo, rfl⟩ : ∃ wo : World, wo = wr := ⟨_, rfl⟩
    have lU := hU.len
    rw [List.length_drop] at lU
    obtain ⟨⟨z0, z1, z2⟩, -, -, -⟩ := q.below hB
    by_cases hgt : 2 * R < x.length - k
    · obtain ⟨m, hm⟩ : ∃ m, min (x.length - k) 4096 = m := ⟨_, rfl⟩
      have hm1 : m ≤ x.length - k := by omega
      have hm2 : m ≤ 4096 := by omega
      have hm3 : 2 * R < m := by omega
      obtain ⟨pv, hsl, hP⟩ := hU.front m (by rw [List.length_drop]; omega)
      have hT := h.out.below hB
      obtain ⟨ua, un, uc, rfl⟩ := hU.shape
      obtain ⟨pa, pn, pc, rfl⟩ := hP.shape
      replace hP := Lib.hid hP
      replace hU := Lib.hid hU
      replace hO := Lib.hid hO
      replace hT := Lib.hid hT
      obtain ⟨W, hW⟩ : ∃ W : World, wo.drew = W := ⟨_, rfl⟩
      have hTW : IntsAt W (.slice va vn vc) T := by rw [← hW]; exact hT.out
      have hPW : IntsAt W (.slice pa pn pc) ((x.drop k).take m) := by rw [← hW]; exact hP.out
      have hUW : IntsAt W (.slice ua un uc) (x.drop k) := by rw [← hW]; exact hU.out
      have hOW : OwnI W0.heap.size W ow ((imgP K R T x).take k) := by rw [← hW]; exact hO.out
      have hBW : Below W0.heap.size W0 W := by rw [← hW]; exact hB.drew
      have hS : W.cell? ⟨w.heap.size, 0, none⟩ = some (.int .i64 K) ∧ W.cell? ⟨w.heap.size, 1, none⟩ = some (.int .i64 R) ∧ W.cell? ⟨w.heap.size, 2, none⟩ = some (.slice va vn vc) := by rw [← hW]; exact ⟨z0, z1, z2⟩
      have hsy : Syms K ((x.drop k).take m) := syms_take (syms_drop hx.out k) m
      have hpl : ((x.drop k).take m).length = m := by rw [List.length_take, List.length_drop]; omega
      have hcut := img_cut (K := K) (R := R) (T := T) (x := x) (i := k) (m := m) (by omega)
      replace hTW := Lib.hid hTW
      replace hPW := Lib.hid hPW
      replace hUW := Lib.hid hUW
      replace hOW := Lib.hid hOW
      replace hsy := Lib.hid hsy
      replace hcut := Lib.hid hcut
      replace hpl := Lib.hid hpl
      replace hW := Lib.hid hW
      clear hT hP hU hO hB
      go_upto_region 3 with fail
      refine wp_region_plan (fun w' => w'.cell? ⟨w.heap.size, 0, none⟩ = some (.int .i64 K) ∧ w'.cell? ⟨w.heap.size, 1, none⟩ = some (.int .i64 R) ∧ w'.cell? ⟨w.heap.size, 2, none⟩ = some (.slice va vn vc)) 11 [(0, true), (1, true), (2, true), (3, true), (4, false), (5, true), (6, false), (7, true), (8, true), (9, true), (10, true)] (by kernel_rfl) (by kernel_rfl) ?_
      rw [hW.out]
      clear z0 z1 z2
      refine headY (v := ?_) (some 15) rfl rfl (Or.inl ⟨by rfl, ?_⟩) hS ?_
      rotate_left
      · rintro W' ⟨s0, s1, s2⟩; go_simp; try with_reducible rfl
      simp only [Act.put, List.setIfInBounds_toArray, List.set_cons_zero, List.set_cons_succ]
      refine headY (v := ?_) (some 16) rfl rfl (Or.inl ⟨by rfl, ?_⟩) hS ?_
      rotate_left
      · rintro W' ⟨s0, s1, s2⟩; go_simp; try with_reducible rfl
      simp only [Act.put, List.setIfInBounds_toArray, List.set_cons_zero, List.set_cons_succ]
      refine headY (v := ?_) (some 17) rfl rfl (Or.inl ⟨by rfl, ?_⟩) hS ?_
      rotate_left
      · rintro W' ⟨s0, s1, s2⟩; go_simp; try with_reducible rfl
      simp only [Act.put, List.setIfInBounds_toArray, List.set_cons_zero, List.set_cons_succ]
      refine headY (v := ?_) (some 18) rfl rfl (Or.inl ⟨by rfl, ?_⟩) hS ?_
      rotate_left
      · rintro W' ⟨s0, s1, s2⟩; go_simp; try with_reducible rfl
      simp only [Act.put, List.setIfInBounds_toArray, List.set_cons_zero, List.set_cons_succ]
      refine headC rfl (fun KK hK => ?_)
      go_simp
      rw [show min (((x.length - k : Nat) : Nat) : Int) 4096 = (m : Int) by omega]
      refine hK _ _ hS ?_
      clear hK KK
      refine headY (v := ?_) (some 20) rfl rfl (Or.inl ⟨by rfl, ?_⟩) hS ?_
      rotate_left
      · rintro W' ⟨s0, s1, s2⟩; go_simp; try with_reducible rfl
      simp only [Act.put, List.setIfInBounds_toArray, List.set_cons_zero, List.set_cons_succ]
      refine headC rfl (fun KK hK => ?_)
      go_simp
      refine (step_ok K R va vn vc T (.slice pa pn pc) ((x.drop k).take m) W hTW.out hr.out hPW.out hsy.out (by rw [hpl.out]; omega)).mono ?_
      rintro e w5 ⟨zv, _, rfl, b5, hz, rfl⟩
      rw [hcut.out] at hz
      have hS5 : w5.cell? ⟨w.heap.size, 0, none⟩ = some (.int .i64 K) ∧ w5.cell? ⟨w.heap.size, 1, none⟩ = some (.int .i64 R) ∧ w5.cell? ⟨w.heap.size, 2, none⟩ = some (.slice va vn vc) := by
        obtain ⟨⟨y0, y1, y2⟩, -, -, -⟩ := q.below (hBW.trans (b5.mono hBW.size))
        exact ⟨y0, y1, y2⟩
      refine hK _ _ hS5 ?_
      clear hK KK hS
      refine headY (v := ?_) (some 14) rfl rfl (Or.inl ⟨by rfl, ?_⟩) hS5 ?_
      rotate_left
      · rintro W' ⟨s0, s1, s2⟩; go_simp; try with_reducible rfl
      simp only [Act.put, List.setIfInBounds_toArray, List.set_cons_zero, List.set_cons_succ]
      refine headY (v := ?_) (some 22) rfl rfl (Or.inl ⟨by rfl, ?_⟩) hS5 ?_
      rotate_left
      · rintro W' ⟨s0, s1, s2⟩; go_simp; try with_reducible rfl
      simp only [Act.put, List.setIfInBounds_toArray, List.set_cons_zero, List.set_cons_succ]
      refine headY (v := ?_) (some 23) rfl rfl (Or.inl ⟨by rfl, ?_⟩) hS5 ?_
      rotate_left
      · rintro W' ⟨s0, s1, s2⟩; go_simp; try with_reducible rfl
      simp only [Act.put, List.setIfInBounds_toArray, List.set_cons_zero, List.set_cons_succ]
      refine headY (v := ?_) (some 6) rfl rfl (Or.inl ⟨by rfl, ?_⟩) hS5 ?_
      rotate_left
      · rintro W' ⟨s0, s1, s2⟩; go_simp; try with_reducible rfl
      simp only [Act.put, List.setIfInBounds_toArray, List.set_cons_zero, List.set_cons_succ]
      refine head0 ?_
      simp only [List.drop_succ_cons, List.drop_zero]
      have hzl : (((imgP K R T x).drop k).take (m - 2 * R)).length = m - 2 * R := by rw [List.length_take, List.length_drop, imgP_length]; omega
      have lz := hz.at.len
      rw [hzl] at lz
      obtain ⟨za, zn, zc, rfl⟩ := hz.at.shape
      have hO5 := hOW.out.below b5
      have hU5 := hUW.out.below b5
      have hB5 := hBW.trans (b5.mono hBW.size)
      obtain ⟨nv, hsl2, hN⟩ := hU0.post (m - 2 * R) (by rw [List.length_drop]; omega)
      obtain ⟨na, nn, nc, rfl⟩ := hN.shape
      rw [List.drop_drop] at hN
      have hs5 := hB5.size
      have hcat : (imgP K R T x).take k ++ ((imgP K R T x).drop k).take (m - 2 * R) = (imgP K R T x).take (k + (m - 2 * R)) := by rw [List.take_add]
      replace hzl := Lib.hid hzl
      replace hcat := Lib.hid hcat
      replace hz := Lib.hid hz
      replace hN := Lib.hid hN
      replace hO5 := Lib.hid hO5
      replace hU5 := Lib.hid hU5
      replace hU0 := Lib.hid hU0
      clear hS5
      go_wp2
      refine NoPanic.normal ?_
      go_wp2_with (at_builtin; refine wpl_append rfl _ _ rfl W0.heap.size ow (.slice za zn zc) _ _ hO5.out hz.out.at rfl rfl (by rw [hzl.out, List.length_take, imgP_length]; omega) hs5 ?_)
      intro v' w7 ho7 b7 _ _
      rw [hcat.out] at ho7
      clear hsl
      go_wp2
      go_roundw
      case measure => rw [sliceL_of hN.out, sliceL_of hU0.out, List.length_drop, List.length_drop]; omega
      case rel => exact ⟨k + (m - 2 * R), _, _, rfl, rfl, by omega, hN.out, ho7, hB5.trans b7⟩
    · have hke : k = x.length - 2 * R := by omega
      have hfin : (imgP K R T x).take k = imgP K R T x := List.take_of_length_le (by rw [imgP_length]; omega)
      rw [hfin] at hO
      replace hO := Lib.hid hO
      replace hU := Lib.hid hU
      replace hU0 := Lib.hid hU0
      replace hfin := Lib.hid hfin
      replace hke := Lib.hid hke
      obtain ⟨oa, on, oc, hov⟩ := hO.out.at.shape
      subst hov
      go_wp2
      go_ret
      exact ⟨_, rfl, b0.trans (hB.mono s0), hO.out.mono s0⟩
end Go.Proofs.YtilpckngghffoaaGreatDoor

namespace Go.Proofs.YtilpckngghffoaaGreatDoor

end Go.Proofs.YtilpckngghffoaaGreatDoor

namespace Go.Proofs.YtilpckngghffoaaGreatDoor

def sRow : ByteArray := ⟨#[114, 111, 119]⟩
/-- The fault of a row. -/
def rowP (k p : Int) (L C Q : List Int) : PErr :=
  if k < 1 ∨ 4 < k then fresh sRow 0 3
  else if p < -4096 ∨ 4096 < p then fresh sRow 1 3
  else if L.length = 0 then fresh sRow 2 3
  else if Q.length = 0 then fresh sRow 3 3
  else if 8192 < L.length then fresh sRow 2 4
  else if 8192 < Q.length then fresh sRow 3 4
  else if 16384 < C.length then fresh sRow 4 4
  else if 0 ≤ idxOf (odd1 k) (L ++ C ++ Q) then fresh sRow (idxOf (odd1 k) (L ++ C ++ Q)) 2
  else none
structure RowOk (K : Nat) (p : Int) (L C Q : List Int) : Prop where
  k1 : 1 ≤ K
  k4 : K ≤ 4
  p1 : -4096 ≤ p
  p2 : p ≤ 4096
  l1 : 1 ≤ L.length
  l2 : L.length ≤ 8192
  q1 : 1 ≤ Q.length
  q2 : Q.length ≤ 8192
  c2 : C.length ≤ 16384
  sL : Syms K L
  sC : Syms K C
  sQ : Syms K Q
theorem syms_odd {k : Int} {x : List Int} : Syms k x ↔ ∀ y ∈ x, odd1 k y = false := by
  refine ⟨fun h y hy => ?_, fun h y hy => ?_⟩
  · have := h y hy
    unfold odd1
    simp only [Bool.or_eq_false_iff, decide_eq_false_iff_not]
    omega
  · have := h y hy
    unfold odd1 at this
    simp only [Bool.or_eq_false_iff, decide_eq_false_iff_not] at this
    omega
theorem idxOf_syms {k : Int} {x : List Int} : ¬ 0 ≤ idxOf (odd1 k) x ↔ Syms k x := by
  rw [syms_odd]
  rcases idxOf_cases (odd1 k) x with ⟨h1, h2⟩ | ⟨m, h1, h2, h3, _⟩
  · rw [h1]; exact ⟨fun _ => h2, fun _ => by omega⟩
  · rw [h1]
    refine ⟨fun h => by omega, fun h => ?_⟩
    have := h _ (List.getElem_mem h2)
    rw [h3] at this; cases this
theorem RowOk.none {K : Nat} {p : Int} {L C Q : List Int} (h : RowOk K p L C Q) : rowP K p L C Q = Option.none := by
  have hs : Syms K (L ++ C ++ Q) := fun x hx => by
    rcases List.mem_append.1 hx with hx | hx
    · rcases List.mem_append.1 hx with hx | hx
      · exact h.sL x hx
      · exact h.sC x hx
    · exact h.sQ x hx
  have h1 := h.k1
  have h2 := h.k4
  have h3 := h.p1
  have h4 := h.p2
  have h5 := h.l1
  have h6 := h.l2
  have h7 := h.q1
  have h8 := h.q2
  have h9 := h.c2
  unfold rowP
  rw [if_neg (by omega), if_neg (by omega), if_neg (by omega), if_neg (by omega), if_neg (by omega), if_neg (by omega), if_neg (by omega), if_neg (idxOf_syms.2 hs)]

/-- What twins.Check tells of two words, the rule being small. -/
def twinsP (op : ByteArray) (k : Int) (R : Nat) (img : List Int → List Int) (a b : List Int) : PErr :=
  if 16384 < a.length ∨ 16384 < b.length then fresh op 1 4
  else if 0 ≤ idxOf (odd1 k) a then fresh op (idxOf (odd1 k) a) 2
  else if 0 ≤ idxOf (odd1 k) b then fresh op (a.length + idxOf (odd1 k) b) 2
  else if a.length ≠ b.length ∨ a = b then fresh op 1 3
  else if a.length < 2 * R ∨ a.take (2 * R) ≠ b.take (2 * R) ∨ a.drop (a.length - 2 * R) ≠ b.drop (b.length - 2 * R) then fresh op 2 3
  else if img a ≠ img b then fresh op 3 3
  else none
theorem IsTwins.p {op : ByteArray} {K R : Nat} {T a b : List Int} (h : IsTwins K R T a b) (hl : a.length ≤ 16384) : twinsP op K R (imgP K R T) a b = none := by
  have e := h.len
  have e2 := h.low
  unfold twinsP
  rw [if_neg (by omega), if_neg (idxOf_syms.2 h.sa), if_neg (idxOf_syms.2 h.sb), if_neg (fun q => q.elim (fun q => q e) h.ne), if_neg, if_neg (fun q => q h.img)]
  rintro (q | q | q)
  · omega
  · exact q h.front
  · exact q h.back
end Go.Proofs.YtilpckngghffoaaGreatDoor

namespace Go.Proofs.YtilpckngghffoaaGreatDoor
open Go.RowKit
set_option maxRecDepth 100000

theorem tcheck1_any (r : Nat → Addr) (at_ n : Int) (w : World) (hg : Glob r w) (h1 : 1 ≤ n) (h2 : n ≤ 11) :
    Calls Tryz.prog 49 #[.int .i64 at_, .int .i64 n] w (Ret1 (fun v w' => ErrIs r w' (fresh sTwins at_ n) v) w) := by
  go_enter Tryz.func49, Tryz.ntmps49
  go_wp2_with fail
  refine (new_any r _ at_ n w hg h1 h2).mono ?_
  rintro e w' ⟨v, rfl, hb, he⟩
  go_wp2
  go_ret
  exact ⟨v, rfl, hb, he⟩
theorem fresh_shape {r : Nat → Addr} {w : World} {op : ByteArray} {a n : Int} {v : Value} (h : ErrIs r w (fresh op a n) v) : ∃ T p, v = .iface T (.pointer (some p)) := ErrIs.some_shape h

set_option maxHeartbeats 8000000 in
theorem tcheck_ok (r : Nat → Addr) (K R : Nat) (va : Option Addr) (vn vc : Nat) (T : List Int) (u : Value) (a : List Int) (v : Value) (b : List Int) (w : World) (hg : Glob r w) (h : IntsAt w (.slice va vn vc) T) (hr : RuleOk K R T) (hl : T.length ≤ 256) (hu : IntsAt w u a) (hv : IntsAt w v b) :
    Calls Tryz.prog 16 #[.agg #[.int .i64 K, .int .i64 R, .slice va vn vc], u, v] w (Ret1 (fun x w' => ErrIs r w' (twinsP sTwins K R (imgP K R T) a b) x) w) := by
  have b0 := belowAlloc w (.cells #[.int .i64 K, .int .i64 R, .slice va vn vc] 24)
  have q : Box3 (w.alloc (.cells #[.int .i64 K, .int .i64 R, .slice va vn vc] 24)) w.heap.size (.int .i64 K) (.int .i64 R) (.slice va vn vc) := by simp [Box3, go_sem]
  have lA := hu.len
  have lB := hv.len
  have mA := hu.len_le
  have mB := hv.len_le
  have hR3 := hr.r3
  obtain ⟨ua, un, uc, rfl⟩ := hu.shape
  obtain ⟨wa, wn, wc, rfl⟩ := hv.shape
  have hsm : smallP K R T = none := by rw [smallP_ok hr, if_neg (by omega)]
  obtain ⟨W0, hW0⟩ : ∃ W : World, w.alloc (.cells #[.int .i64 K, .int .i64 R, .slice va vn vc] 24) = W := ⟨_, rfl⟩
  replace hg := hg.below b0
  replace h := h.below b0
  replace hu := hu.below b0
  replace hv := hv.below b0
  rw [hW0] at hg h hu hv b0 q
  obtain ⟨e0, he0⟩ : ∃ e0, twinsP sTwins K R (imgP K R T) a b = e0 := ⟨_, rfl⟩
  rw [he0]
  unfold twinsP at he0
  replace hg := Lib.hid hg
  replace h := Lib.hid h
  replace hu := Lib.hid hu
  replace hv := Lib.hid hv
  replace hr := Lib.hid hr
  replace hsm := Lib.hid hsm
  replace hl := Lib.hid hl
  replace he0 := Lib.hid he0
  replace hW0 := Lib.hid hW0
  go_enter Tryz.func16, Tryz.ntmps16
  go_upto_region 2 with fail
  rw [hW0.out]
  have q0 := q
  obtain ⟨⟨z0, z1, z2⟩, -, -, -⟩ := q0
  go_wp2_with fail
  refine (small_any r K R va vn vc T _ hg.out h.out).mono ?_
  rintro e w1 ⟨x, rfl, b1, hx⟩
  rw [hsm.out] at hx
  obtain rfl := hx.none_eq
  clear hx
  have q1 := q.below b1
  clear z0 z1 z2
  obtain ⟨⟨z0, z1, z2⟩, -, -, -⟩ := q1
  have b01 := Below.step b0 b1
  by_cases hA : 16384 < a.length
  · have d1 : decide ((16384 : Int) < (a.length : Int)) = true := decide_eq_true (by omega)
    have he := he0.out
    rw [if_pos (.inl hA)] at he
    replace he := Lib.hid he
    go_wp2_with fail
    refine (tcheck1_any r 1 4 w1 (hg.out.below b1) (by decide) (by decide)).mono ?_
    rintro e w9 ⟨y, rfl, b9, hy⟩
    obtain ⟨T9, a9, rfl⟩ := fresh_shape hy
    replace hy := Lib.hid hy
    clear z0 z1 z2
    go_wp2
    go_ret
    exact ⟨_, rfl, Below.step b01 b9, by rw [← he.out]; exact hy.out⟩
  by_cases hB : 16384 < b.length
  · have d1 : decide ((16384 : Int) < (a.length : Int)) = false := decide_eq_false (by omega)
    have d2 : decide ((16384 : Int) < (b.length : Int)) = true := decide_eq_true (by omega)
    have he := he0.out
    rw [if_pos (.inr hB)] at he
    replace he := Lib.hid he
    go_wp2_with fail
    refine (tcheck1_any r 1 4 w1 (hg.out.below b1) (by decide) (by decide)).mono ?_
    rintro e w9 ⟨y, rfl, b9, hy⟩
    obtain ⟨T9, a9, rfl⟩ := fresh_shape hy
    replace hy := Lib.hid hy
    clear z0 z1 z2
    go_wp2
    go_ret
    exact ⟨_, rfl, Below.step b01 b9, by rw [← he.out]; exact hy.out⟩
  have he1 := he0.out
  rw [if_neg (by omega)] at he1
  replace he1 := Lib.hid he1
  clear he0
  have d1 : decide ((16384 : Int) < (a.length : Int)) = false := decide_eq_false (by omega)
  have d2 : decide ((16384 : Int) < (b.length : Int)) = false := decide_eq_false (by omega)
  go_wp2_with fail
  refine (symbols_any K _ a w1 (hu.out.below b1)).mono ?_
  rintro e w2 ⟨x, rfl, b2, rfl⟩
  have c2 := Below.step b1 b2
  have b02 := Below.step b01 b2
  clear z0 z1 z2
  obtain ⟨⟨z0, z1, z2⟩, -, -, -⟩ := q.below c2
  by_cases hi : 0 ≤ idxOf (odd1 K) a
  · have he := he1.out
    rw [if_pos hi] at he
    replace he := Lib.hid he
    generalize idxOf (odd1 K) a = i at *
    have d3 : decide ((0 : Int) ≤ i) = true := decide_eq_true hi
    go_wp2_with fail
    refine (tcheck1_any r i 2 w2 (hg.out.below c2) (by decide) (by decide)).mono ?_
    rintro e w9 ⟨y, rfl, b9, hy⟩
    obtain ⟨T9, a9, rfl⟩ := fresh_shape hy
    replace hy := Lib.hid hy
    clear z0 z1 z2
    go_wp2
    go_ret
    exact ⟨_, rfl, Below.step b02 b9, by rw [← he.out]; exact hy.out⟩
  have he2 := he1.out
  rw [if_neg hi] at he2
  have sA := idxOf_syms.1 hi
  have eA := sA.odd
  rw [eA]
  replace sA := Lib.hid sA
  replace eA := Lib.hid eA
  replace he2 := Lib.hid he2
  clear he1 hi
  go_wp2_with fail
  refine (symbols_any K _ b w2 (hv.out.below c2)).mono ?_
  rintro e w3 ⟨x, rfl, b3, rfl⟩
  have c3 := Below.step c2 b3
  have b03 := Below.step b02 b3
  clear z0 z1 z2
  obtain ⟨⟨z0, z1, z2⟩, -, -, -⟩ := q.below c3
  by_cases hi : 0 ≤ idxOf (odd1 K) b
  · have he := he2.out
    rw [if_pos hi] at he
    replace he := Lib.hid he
    have hib : idxOf (odd1 K) b < b.length := by
      rcases idxOf_cases (odd1 K) b with ⟨k1, _⟩ | ⟨k, k1, k2, _⟩ <;> omega
    generalize idxOf (odd1 K) b = i at *
    have d3 : decide ((0 : Int) ≤ i) = true := decide_eq_true hi
    go_wp2_with fail
    refine (tcheck1_any r ((a.length : Int) + i) 2 w3 (hg.out.below c3) (by decide) (by decide)).mono ?_
    rintro e w9 ⟨y, rfl, b9, hy⟩
    obtain ⟨T9, a9, rfl⟩ := fresh_shape hy
    replace hy := Lib.hid hy
    clear z0 z1 z2
    go_wp2
    go_ret
    exact ⟨_, rfl, Below.step b03 b9, by rw [← he.out]; exact hy.out⟩
  have he3 := he2.out
  rw [if_neg hi] at he3
  have sB := idxOf_syms.1 hi
  have eB := sB.odd
  rw [eB]
  replace sB := Lib.hid sB
  replace eB := Lib.hid eB
  replace he3 := Lib.hid he3
  clear he2 hi
  by_cases hlen : a.length = b.length
  case neg =>
    have d3 : ((a.length : Int) != (b.length : Int)) = true := by simp; omega
    have he := he3.out
    rw [if_pos (.inl hlen)] at he
    replace he := Lib.hid he
    clear hlen
    go_wp2_with fail
    refine (tcheck1_any r 1 3 w3 (hg.out.below c3) (by decide) (by decide)).mono ?_
    rintro e w9 ⟨y, rfl, b9, hy⟩
    obtain ⟨T9, a9, rfl⟩ := fresh_shape hy
    replace hy := Lib.hid hy
    clear z0 z1 z2
    go_wp2
    go_ret
    exact ⟨_, rfl, Below.step b03 b9, by rw [← he.out]; exact hy.out⟩
  have d3 : ((a.length : Int) != (b.length : Int)) = false := by simp; omega
  replace hlen := Lib.hid hlen
  have heqc := equal_any (.slice ua un uc) (.slice wa wn wc) a b w3 (hu.out.below c3) (hv.out.below c3)
  replace heqc := Lib.hid heqc
  go_wp2_with fail
  refine heqc.out.mono ?_
  rintro e w4 ⟨n4, rfl, rfl⟩
  have c4 := below_drewN c3 n4
  have b04 := below_drewN b03 n4
  clear z0 z1 z2
  obtain ⟨⟨z0, z1, z2⟩, -, -, -⟩ := q.below c4
  by_cases hab : a = b
  · have he := he3.out
    rw [if_pos (.inr hab)] at he
    have d4 : decide (a = b) = true := decide_eq_true hab
    rw [d4]
    replace he := Lib.hid he
    replace hab := Lib.hid hab
    clear d4 heqc
    go_wp2_with fail
    refine (tcheck1_any r 1 3 (w3.drewN n4) (hg.out.below c4) (by decide) (by decide)).mono ?_
    rintro e w9 ⟨y, rfl, b9, hy⟩
    obtain ⟨T9, a9, rfl⟩ := fresh_shape hy
    replace hy := Lib.hid hy
    clear z0 z1 z2
    go_wp2
    go_ret
    exact ⟨_, rfl, Below.step b04 b9, by rw [← he.out]; exact hy.out⟩
  have he4 := he3.out
  rw [if_neg (fun q => q.elim (fun q => q hlen.out) hab)] at he4
  have d4 : decide (a = b) = false := decide_eq_false hab
  rw [d4]
  replace he4 := Lib.hid he4
  replace hab := Lib.hid hab
  clear d4 heqc he3
  obtain ⟨w5, hw5⟩ : ∃ W : World, w3.drewN n4 = W := ⟨_, rfl⟩
  rw [hw5] at c4 b04 z0 z1 z2 ⊢
  clear hw5
  obtain ⟨W5, hW5⟩ : ∃ W : World, w5.drew = W := ⟨_, rfl⟩
  have c5 : Below W0.heap.size W0 W5 := by rw [← hW5]; exact c4.drew
  have b05 : Below w.heap.size w W5 := by rw [← hW5]; exact b04.drew
  replace hW5 := Lib.hid hW5
  have hS : True := trivial
  by_cases hlow : a.length < 2 * R
  · have d5 : decide ((a.length : Int) < 2 * (R : Int)) = true := decide_eq_true (by omega)
    have he := he4.out
    rw [if_pos (.inl hlow)] at he
    replace he := Lib.hid he
    go_upto_region 16 with fail
    refine wp_region_plan (fun _ => True) 30 [(0, true), (1, true), (2, true), (3, true), (4, true), (5, true), (6, true), (7, true), (8, true), (9, true), (10, true), (11, false), (12, true), (13, true), (14, true), (15, true), (16, true), (17, true), (18, true), (19, true), (20, true), (21, true), (22, true), (23, true), (24, true), (25, true), (26, true), (27, false), (28, true), (29, true)] (by kernel_rfl) (by kernel_rfl) ?_
    rw [hW5.out]
    refine headY (v := ?_) (some 66) rfl rfl (Or.inl ⟨by rfl, ?_⟩) hS ?_
    rotate_left
    · rintro W' _; go_simp; try with_reducible rfl
    simp only [Act.put, List.setIfInBounds_toArray, List.set_cons_zero, List.set_cons_succ]
    refine headY (v := ?_) (some 67) rfl rfl (Or.inl ⟨by rfl, ?_⟩) hS ?_
    rotate_left
    · rintro W' _; go_simp; try with_reducible rfl
    simp only [Act.put, List.setIfInBounds_toArray, List.set_cons_zero, List.set_cons_succ]
    refine headY (v := ?_) (some 68) rfl rfl (Or.inl ⟨by rfl, ?_⟩) hS ?_
    rotate_left
    · rintro W' _; go_simp; try with_reducible rfl
    simp only [Act.put, List.setIfInBounds_toArray, List.set_cons_zero, List.set_cons_succ]
    refine headY (v := ?_) (some 69) rfl rfl (Or.inl ⟨by rfl, ?_⟩) hS ?_
    rotate_left
    · rintro W' _; go_simp; try with_reducible rfl
    simp only [Act.put, List.setIfInBounds_toArray, List.set_cons_zero, List.set_cons_succ]
    refine headY (v := ?_) (some 70) rfl rfl (Or.inl ⟨by rfl, ?_⟩) hS ?_
    rotate_left
    · rintro W' _; go_simp; try with_reducible rfl
    simp only [Act.put, List.setIfInBounds_toArray, List.set_cons_zero, List.set_cons_succ]
    refine headY (v := undef) (some 71) rfl rfl (Or.inr ⟨by rfl, rfl⟩) hS ?_
    simp only [Act.put, List.setIfInBounds_toArray, List.set_cons_zero, List.set_cons_succ]
    refine headY (v := undef) (some 72) rfl rfl (Or.inr ⟨by rfl, rfl⟩) hS ?_
    simp only [Act.put, List.setIfInBounds_toArray, List.set_cons_zero, List.set_cons_succ]
    refine headY (v := undef) (some 73) rfl rfl (Or.inr ⟨by rfl, rfl⟩) hS ?_
    simp only [Act.put, List.setIfInBounds_toArray, List.set_cons_zero, List.set_cons_succ]
    refine headY (v := undef) (some 74) rfl rfl (Or.inr ⟨by rfl, rfl⟩) hS ?_
    simp only [Act.put, List.setIfInBounds_toArray, List.set_cons_zero, List.set_cons_succ]
    refine headY (v := undef) (some 75) rfl rfl (Or.inr ⟨by rfl, rfl⟩) hS ?_
    simp only [Act.put, List.setIfInBounds_toArray, List.set_cons_zero, List.set_cons_succ]
    refine headY (v := undef) (some 76) rfl rfl (Or.inr ⟨by rfl, rfl⟩) hS ?_
    simp only [Act.put, List.setIfInBounds_toArray, List.set_cons_zero, List.set_cons_succ]
    refine headC rfl (fun KK hK => ?_)
    go_simp
    refine hK _ _ hS ?_
    clear hK KK
    refine headY (v := undef) (some 78) rfl rfl (Or.inr ⟨by rfl, rfl⟩) hS ?_
    simp only [Act.put, List.setIfInBounds_toArray, List.set_cons_zero, List.set_cons_succ]
    refine headY (v := ?_) (some 79) rfl rfl (Or.inl ⟨by rfl, ?_⟩) hS ?_
    rotate_left
    · rintro W' _; go_simp; try with_reducible rfl
    simp only [Act.put, List.setIfInBounds_toArray, List.set_cons_zero, List.set_cons_succ]
    refine headY (v := ?_) (some 80) rfl rfl (Or.inl ⟨by rfl, ?_⟩) hS ?_
    rotate_left
    · rintro W' _; go_simp; try with_reducible rfl
    simp only [Act.put, List.setIfInBounds_toArray, List.set_cons_zero, List.set_cons_succ]
    refine headY (v := undef) (some 81) rfl rfl (Or.inr ⟨by rfl, rfl⟩) hS ?_
    simp only [Act.put, List.setIfInBounds_toArray, List.set_cons_zero, List.set_cons_succ]
    refine headY (v := undef) (some 82) rfl rfl (Or.inr ⟨by rfl, rfl⟩) hS ?_
    simp only [Act.put, List.setIfInBounds_toArray, List.set_cons_zero, List.set_cons_succ]
    refine headY (v := undef) (some 83) rfl rfl (Or.inr ⟨by rfl, rfl⟩) hS ?_
    simp only [Act.put, List.setIfInBounds_toArray, List.set_cons_zero, List.set_cons_succ]
    refine headY (v := undef) (some 84) rfl rfl (Or.inr ⟨by rfl, rfl⟩) hS ?_
    simp only [Act.put, List.setIfInBounds_toArray, List.set_cons_zero, List.set_cons_succ]
    refine headY (v := undef) (some 85) rfl rfl (Or.inr ⟨by rfl, rfl⟩) hS ?_
    simp only [Act.put, List.setIfInBounds_toArray, List.set_cons_zero, List.set_cons_succ]
    refine headY (v := undef) (some 86) rfl rfl (Or.inr ⟨by rfl, rfl⟩) hS ?_
    simp only [Act.put, List.setIfInBounds_toArray, List.set_cons_zero, List.set_cons_succ]
    refine headY (v := undef) (some 87) rfl rfl (Or.inr ⟨by rfl, rfl⟩) hS ?_
    simp only [Act.put, List.setIfInBounds_toArray, List.set_cons_zero, List.set_cons_succ]
    refine headY (v := undef) (some 88) rfl rfl (Or.inr ⟨by rfl, rfl⟩) hS ?_
    simp only [Act.put, List.setIfInBounds_toArray, List.set_cons_zero, List.set_cons_succ]
    refine headY (v := undef) (some 89) rfl rfl (Or.inr ⟨by rfl, rfl⟩) hS ?_
    simp only [Act.put, List.setIfInBounds_toArray, List.set_cons_zero, List.set_cons_succ]
    refine headY (v := undef) (some 90) rfl rfl (Or.inr ⟨by rfl, rfl⟩) hS ?_
    simp only [Act.put, List.setIfInBounds_toArray, List.set_cons_zero, List.set_cons_succ]
    refine headY (v := undef) (some 91) rfl rfl (Or.inr ⟨by rfl, rfl⟩) hS ?_
    simp only [Act.put, List.setIfInBounds_toArray, List.set_cons_zero, List.set_cons_succ]
    refine headY (v := undef) (some 92) rfl rfl (Or.inr ⟨by rfl, rfl⟩) hS ?_
    simp only [Act.put, List.setIfInBounds_toArray, List.set_cons_zero, List.set_cons_succ]
    refine headC rfl (fun KK hK => ?_)
    go_simp
    refine hK _ _ hS ?_
    clear hK KK
    refine headY (v := undef) (some 94) rfl rfl (Or.inr ⟨by rfl, rfl⟩) hS ?_
    simp only [Act.put, List.setIfInBounds_toArray, List.set_cons_zero, List.set_cons_succ]
    refine headY (v := ?_) (some 95) rfl rfl (Or.inl ⟨by rfl, ?_⟩) hS ?_
    rotate_left
    · rintro W' _; go_simp; try with_reducible rfl
    simp only [Act.put, List.setIfInBounds_toArray, List.set_cons_zero, List.set_cons_succ]
    refine head0 ?_
    simp only [List.drop_succ_cons, List.drop_zero]
    clear z0 z1 z2
    obtain ⟨⟨z0, z1, z2⟩, -, -, -⟩ := q.below c5
    go_wp2
    refine NoPanic.normal ?_
    go_wp2_with fail
    refine (tcheck1_any r 2 3 W5 (hg.out.below c5) (by decide) (by decide)).mono ?_
    rintro e w9 ⟨y, rfl, b9, hy⟩
    obtain ⟨T9, a9, rfl⟩ := fresh_shape hy
    replace hy := Lib.hid hy
    clear z0 z1 z2
    go_wp2
    go_ret
    exact ⟨_, rfl, Below.step b05 b9, by rw [← he.out]; exact hy.out⟩
  have d5 : decide ((a.length : Int) < 2 * (R : Int)) = false := decide_eq_false (by omega)
  obtain ⟨fa, hfa, hFA⟩ := (hu.out.below c5).front (2 * R) (by omega)
  obtain ⟨fb, hfb, hFB⟩ := (hv.out.below c5).front (2 * R) (by have := hlen.out; omega)
  have hsa : ∀ w', (Instr.slice 22 (.slice ua un uc) none (some (.int .i64 (2 * (R : Int)))) none).run Tryz.prog w' = .ok fa w' := by
    intro w'; have := hfa w'; rwa [show (((2 * R : Nat) : Nat) : Int) = 2 * (R : Int) by omega] at this
  have hsb : ∀ w', (Instr.slice 22 (.slice wa wn wc) none (some (.int .i64 (2 * (R : Int)))) none).run Tryz.prog w' = .ok fb w' := by
    intro w'; have := hfb w'; rwa [show (((2 * R : Nat) : Nat) : Int) = 2 * (R : Int) by omega] at this
  obtain ⟨ga, hga, hGA⟩ := (hu.out.below c5).post (a.length - 2 * R) (by omega)
  obtain ⟨gb, hgb, hGB⟩ := (hv.out.below c5).post (b.length - 2 * R) (by omega)
  have hta : ∀ w', (Instr.slice 22 (.slice ua un uc) (some (.int .i64 ((a.length : Int) - 2 * (R : Int)))) none none).run Tryz.prog w' = .ok ga w' := by
    intro w'; have := hga w'; rwa [show (((a.length - 2 * R : Nat) : Nat) : Int) = (a.length : Int) - 2 * (R : Int) by omega] at this
  have htb : ∀ w', (Instr.slice 22 (.slice wa wn wc) (some (.int .i64 ((b.length : Int) - 2 * (R : Int)))) none none).run Tryz.prog w' = .ok gb w' := by
    intro w'; have := hgb w'; rwa [show (((b.length - 2 * R : Nat) : Nat) : Int) = (b.length : Int) - 2 * (R : Int) by have := hlen.out; omega] at this
  obtain ⟨fa1, fa2, fa3, rfl⟩ := hFA.shape
  obtain ⟨fb1, fb2, fb3, rfl⟩ := hFB.shape
  obtain ⟨ga1, ga2, ga3, rfl⟩ := hGA.shape
  obtain ⟨gb1, gb2, gb3, rfl⟩ := hGB.shape
  clear hfa hfb hga hgb
  have hwa : IntKind.i64.wrap ((a.length : Int) - 2 * (R : Int)) = (a.length : Int) - 2 * (R : Int) := wrapK (by omega) (by omega)
  have hwb : IntKind.i64.wrap ((b.length : Int) - 2 * (R : Int)) = (b.length : Int) - 2 * (R : Int) := wrapK (by omega) (by omega)
  have hq1 := equal_any _ _ _ _ W5 hFA hFB
  replace hq1 := Lib.hid hq1
  replace hFA := Lib.hid hFA
  replace hFB := Lib.hid hFB
  replace hGA := Lib.hid hGA
  replace hGB := Lib.hid hGB
  go_upto_region 16 with fail
  refine wp_region_plan (fun _ => True) 30 [(0, true), (1, true), (2, true), (3, true), (4, true), (5, true), (6, true), (7, true), (8, true), (9, true), (10, true), (11, false), (12, true), (13, true), (14, true), (15, true), (16, true), (17, true), (18, true), (19, true), (20, true), (21, true), (22, true), (23, true), (24, true), (25, true), (26, true), (27, false), (28, true), (29, true)] (by kernel_rfl) (by kernel_rfl) ?_
  rw [hW5.out]
  refine headY (v := ?_) (some 66) rfl rfl (Or.inl ⟨by rfl, ?_⟩) hS ?_
  rotate_left
  · rintro W' _; go_simp; try with_reducible rfl
  simp only [Act.put, List.setIfInBounds_toArray, List.set_cons_zero, List.set_cons_succ]
  refine headY (v := ?_) (some 67) rfl rfl (Or.inl ⟨by rfl, ?_⟩) hS ?_
  rotate_left
  · rintro W' _; go_simp; try with_reducible rfl
  simp only [Act.put, List.setIfInBounds_toArray, List.set_cons_zero, List.set_cons_succ]
  refine headY (v := ?_) (some 68) rfl rfl (Or.inl ⟨by rfl, ?_⟩) hS ?_
  rotate_left
  · rintro W' _; go_simp; try with_reducible rfl
  simp only [Act.put, List.setIfInBounds_toArray, List.set_cons_zero, List.set_cons_succ]
  refine headY (v := ?_) (some 69) rfl rfl (Or.inl ⟨by rfl, ?_⟩) hS ?_
  rotate_left
  · rintro W' _; go_simp; try with_reducible rfl
  simp only [Act.put, List.setIfInBounds_toArray, List.set_cons_zero, List.set_cons_succ]
  refine headY (v := ?_) (some 70) rfl rfl (Or.inl ⟨by rfl, ?_⟩) hS ?_
  rotate_left
  · rintro W' _; go_simp; try with_reducible rfl
  simp only [Act.put, List.setIfInBounds_toArray, List.set_cons_zero, List.set_cons_succ]
  refine headY (v := ?_) (some 71) rfl rfl (Or.inl ⟨by rfl, ?_⟩) hS ?_
  rotate_left
  · rintro W' _; go_simp; try with_reducible rfl
  simp only [Act.put, List.setIfInBounds_toArray, List.set_cons_zero, List.set_cons_succ]
  refine headY (v := ?_) (some 72) rfl rfl (Or.inl ⟨by rfl, ?_⟩) hS ?_
  rotate_left
  · rintro W' _; go_simp; try with_reducible rfl
  simp only [Act.put, List.setIfInBounds_toArray, List.set_cons_zero, List.set_cons_succ]
  refine headY (v := ?_) (some 73) rfl rfl (Or.inl ⟨by rfl, ?_⟩) hS ?_
  rotate_left
  · rintro W' _; go_simp; try with_reducible rfl
  simp only [Act.put, List.setIfInBounds_toArray, List.set_cons_zero, List.set_cons_succ]
  refine headY (v := ?_) (some 74) rfl rfl (Or.inl ⟨by rfl, ?_⟩) hS ?_
  rotate_left
  · rintro W' _; go_simp; try with_reducible rfl
  simp only [Act.put, List.setIfInBounds_toArray, List.set_cons_zero, List.set_cons_succ]
  refine headY (v := ?_) (some 75) rfl rfl (Or.inl ⟨by rfl, ?_⟩) hS ?_
  rotate_left
  · rintro W' _; go_simp; try with_reducible rfl
  simp only [Act.put, List.setIfInBounds_toArray, List.set_cons_zero, List.set_cons_succ]
  refine headY (v := ?_) (some 76) rfl rfl (Or.inl ⟨by rfl, ?_⟩) hS ?_
  rotate_left
  · rintro W' _; go_simp; try with_reducible rfl
  simp only [Act.put, List.setIfInBounds_toArray, List.set_cons_zero, List.set_cons_succ]
  refine headC rfl (fun KK hK => ?_)
  go_simp
  refine hq1.out.mono ?_
  rintro e w6 ⟨n6, rfl, rfl⟩
  refine hK _ _ hS ?_
  clear hK KK hq1
  have c6 := below_drewN c5 n6
  have b06 := below_drewN b05 n6
  obtain ⟨W6, hW6⟩ : ∃ W : World, W5.drewN n6 = W := ⟨_, rfl⟩
  have hGA6 : IntsAt W6 (.slice ga1 ga2 ga3) (a.drop (a.length - 2 * R)) := by rw [← hW6]; exact hGA.out.drewN n6
  have hGB6 : IntsAt W6 (.slice gb1 gb2 gb3) (b.drop (b.length - 2 * R)) := by rw [← hW6]; exact hGB.out.drewN n6
  rw [hW6] at c6 b06 ⊢
  clear hW6
  by_cases hfr : a.take (2 * R) = b.take (2 * R)
  case neg =>
    have he := he4.out
    rw [if_pos (.inr (.inl hfr))] at he
    replace he := Lib.hid he
    rw [decide_eq_false hfr]
    clear hfr hGA6 hGB6
    refine headY (v := ?_) (some 78) rfl rfl (Or.inl ⟨by rfl, ?_⟩) hS ?_
    rotate_left
    · rintro W' _; go_simp; try with_reducible rfl
    simp only [Act.put, List.setIfInBounds_toArray, List.set_cons_zero, List.set_cons_succ]
    refine headY (v := ?_) (some 79) rfl rfl (Or.inl ⟨by rfl, ?_⟩) hS ?_
    rotate_left
    · rintro W' _; go_simp; try with_reducible rfl
    simp only [Act.put, List.setIfInBounds_toArray, List.set_cons_zero, List.set_cons_succ]
    refine headY (v := ?_) (some 80) rfl rfl (Or.inl ⟨by rfl, ?_⟩) hS ?_
    rotate_left
    · rintro W' _; go_simp; try with_reducible rfl
    simp only [Act.put, List.setIfInBounds_toArray, List.set_cons_zero, List.set_cons_succ]
    refine headY (v := undef) (some 81) rfl rfl (Or.inr ⟨by rfl, rfl⟩) hS ?_
    simp only [Act.put, List.setIfInBounds_toArray, List.set_cons_zero, List.set_cons_succ]
    refine headY (v := undef) (some 82) rfl rfl (Or.inr ⟨by rfl, rfl⟩) hS ?_
    simp only [Act.put, List.setIfInBounds_toArray, List.set_cons_zero, List.set_cons_succ]
    refine headY (v := undef) (some 83) rfl rfl (Or.inr ⟨by rfl, rfl⟩) hS ?_
    simp only [Act.put, List.setIfInBounds_toArray, List.set_cons_zero, List.set_cons_succ]
    refine headY (v := undef) (some 84) rfl rfl (Or.inr ⟨by rfl, rfl⟩) hS ?_
    simp only [Act.put, List.setIfInBounds_toArray, List.set_cons_zero, List.set_cons_succ]
    refine headY (v := undef) (some 85) rfl rfl (Or.inr ⟨by rfl, rfl⟩) hS ?_
    simp only [Act.put, List.setIfInBounds_toArray, List.set_cons_zero, List.set_cons_succ]
    refine headY (v := undef) (some 86) rfl rfl (Or.inr ⟨by rfl, rfl⟩) hS ?_
    simp only [Act.put, List.setIfInBounds_toArray, List.set_cons_zero, List.set_cons_succ]
    refine headY (v := undef) (some 87) rfl rfl (Or.inr ⟨by rfl, rfl⟩) hS ?_
    simp only [Act.put, List.setIfInBounds_toArray, List.set_cons_zero, List.set_cons_succ]
    refine headY (v := undef) (some 88) rfl rfl (Or.inr ⟨by rfl, rfl⟩) hS ?_
    simp only [Act.put, List.setIfInBounds_toArray, List.set_cons_zero, List.set_cons_succ]
    refine headY (v := undef) (some 89) rfl rfl (Or.inr ⟨by rfl, rfl⟩) hS ?_
    simp only [Act.put, List.setIfInBounds_toArray, List.set_cons_zero, List.set_cons_succ]
    refine headY (v := undef) (some 90) rfl rfl (Or.inr ⟨by rfl, rfl⟩) hS ?_
    simp only [Act.put, List.setIfInBounds_toArray, List.set_cons_zero, List.set_cons_succ]
    refine headY (v := undef) (some 91) rfl rfl (Or.inr ⟨by rfl, rfl⟩) hS ?_
    simp only [Act.put, List.setIfInBounds_toArray, List.set_cons_zero, List.set_cons_succ]
    refine headY (v := undef) (some 92) rfl rfl (Or.inr ⟨by rfl, rfl⟩) hS ?_
    simp only [Act.put, List.setIfInBounds_toArray, List.set_cons_zero, List.set_cons_succ]
    refine headC rfl (fun KK hK => ?_)
    go_simp
    refine hK _ _ hS ?_
    clear hK KK
    refine headY (v := undef) (some 94) rfl rfl (Or.inr ⟨by rfl, rfl⟩) hS ?_
    simp only [Act.put, List.setIfInBounds_toArray, List.set_cons_zero, List.set_cons_succ]
    refine headY (v := ?_) (some 95) rfl rfl (Or.inl ⟨by rfl, ?_⟩) hS ?_
    rotate_left
    · rintro W' _; go_simp; try with_reducible rfl
    simp only [Act.put, List.setIfInBounds_toArray, List.set_cons_zero, List.set_cons_succ]
    refine head0 ?_
    simp only [List.drop_succ_cons, List.drop_zero]
    clear z0 z1 z2
    obtain ⟨⟨z0, z1, z2⟩, -, -, -⟩ := q.below c6
    go_wp2
    refine NoPanic.normal ?_
    go_wp2_with fail
    refine (tcheck1_any r 2 3 W6 (hg.out.below c6) (by decide) (by decide)).mono ?_
    rintro e w9 ⟨y, rfl, b9, hy⟩
    obtain ⟨T9, a9, rfl⟩ := fresh_shape hy
    replace hy := Lib.hid hy
    clear z0 z1 z2
    go_wp2
    go_ret
    exact ⟨_, rfl, Below.step b06 b9, by rw [← he.out]; exact hy.out⟩
  rw [decide_eq_true hfr]
  have hq2 := equal_any _ _ _ _ W6 hGA6 hGB6
  replace hfr := Lib.hid hfr
  replace hq2 := Lib.hid hq2
  clear hGA6 hGB6
  refine headY (v := ?_) (some 78) rfl rfl (Or.inl ⟨by rfl, ?_⟩) hS ?_
  rotate_left
  · rintro W' _; go_simp; try with_reducible rfl
  simp only [Act.put, List.setIfInBounds_toArray, List.set_cons_zero, List.set_cons_succ]
  refine headY (v := ?_) (some 79) rfl rfl (Or.inl ⟨by rfl, ?_⟩) hS ?_
  rotate_left
  · rintro W' _; go_simp; try with_reducible rfl
  simp only [Act.put, List.setIfInBounds_toArray, List.set_cons_zero, List.set_cons_succ]
  refine headY (v := ?_) (some 80) rfl rfl (Or.inl ⟨by rfl, ?_⟩) hS ?_
  rotate_left
  · rintro W' _; go_simp; try with_reducible rfl
  simp only [Act.put, List.setIfInBounds_toArray, List.set_cons_zero, List.set_cons_succ]
  refine headY (v := ?_) (some 81) rfl rfl (Or.inl ⟨by rfl, ?_⟩) hS ?_
  rotate_left
  · rintro W' _; go_simp; try with_reducible rfl
  simp only [Act.put, List.setIfInBounds_toArray, List.set_cons_zero, List.set_cons_succ]
  refine headY (v := ?_) (some 82) rfl rfl (Or.inl ⟨by rfl, ?_⟩) hS ?_
  rotate_left
  · rintro W' _; go_simp; try with_reducible rfl
  simp only [Act.put, List.setIfInBounds_toArray, List.set_cons_zero, List.set_cons_succ]
  refine headY (v := ?_) (some 83) rfl rfl (Or.inl ⟨by rfl, ?_⟩) hS ?_
  rotate_left
  · rintro W' _; go_simp; try with_reducible rfl
  simp only [Act.put, List.setIfInBounds_toArray, List.set_cons_zero, List.set_cons_succ]
  refine headY (v := ?_) (some 84) rfl rfl (Or.inl ⟨by rfl, ?_⟩) hS ?_
  rotate_left
  · rintro W' _; go_simp; try with_reducible rfl
  simp only [Act.put, List.setIfInBounds_toArray, List.set_cons_zero, List.set_cons_succ]
  refine headY (v := ?_) (some 85) rfl rfl (Or.inl ⟨by rfl, ?_⟩) hS ?_
  rotate_left
  · rintro W' _; go_simp; try with_reducible rfl
  simp only [Act.put, List.setIfInBounds_toArray, List.set_cons_zero, List.set_cons_succ]
  refine headY (v := ?_) (some 86) rfl rfl (Or.inl ⟨by rfl, ?_⟩) hS ?_
  rotate_left
  · rintro W' _; go_simp; try with_reducible rfl
  simp only [Act.put, List.setIfInBounds_toArray, List.set_cons_zero, List.set_cons_succ]
  refine headY (v := ?_) (some 87) rfl rfl (Or.inl ⟨by rfl, ?_⟩) hS ?_
  rotate_left
  · rintro W' _; go_simp; try with_reducible rfl
  simp only [Act.put, List.setIfInBounds_toArray, List.set_cons_zero, List.set_cons_succ]
  refine headY (v := ?_) (some 88) rfl rfl (Or.inl ⟨by rfl, ?_⟩) hS ?_
  rotate_left
  · rintro W' _; go_simp; try with_reducible rfl
  simp only [Act.put, List.setIfInBounds_toArray, List.set_cons_zero, List.set_cons_succ]
  refine headY (v := ?_) (some 89) rfl rfl (Or.inl ⟨by rfl, ?_⟩) hS ?_
  rotate_left
  · rintro W' _; go_simp; try with_reducible rfl
  simp only [Act.put, List.setIfInBounds_toArray, List.set_cons_zero, List.set_cons_succ]
  refine headY (v := ?_) (some 90) rfl rfl (Or.inl ⟨by rfl, ?_⟩) hS ?_
  rotate_left
  · rintro W' _; go_simp; try with_reducible rfl
  simp only [Act.put, List.setIfInBounds_toArray, List.set_cons_zero, List.set_cons_succ]
  refine headY (v := ?_) (some 91) rfl rfl (Or.inl ⟨by rfl, ?_⟩) hS ?_
  rotate_left
  · rintro W' _; go_simp; try with_reducible rfl
  simp only [Act.put, List.setIfInBounds_toArray, List.set_cons_zero, List.set_cons_succ]
  refine headY (v := ?_) (some 92) rfl rfl (Or.inl ⟨by rfl, ?_⟩) hS ?_
  rotate_left
  · rintro W' _; go_simp; try with_reducible rfl
  simp only [Act.put, List.setIfInBounds_toArray, List.set_cons_zero, List.set_cons_succ]
  refine headC rfl (fun KK hK => ?_)
  go_simp
  refine hq2.out.mono ?_
  rintro e w7 ⟨n7, rfl, rfl⟩
  refine hK _ _ hS ?_
  clear hK KK hq2
  have c7 := below_drewN c6 n7
  have b07 := below_drewN b06 n7
  obtain ⟨W7, hW7⟩ : ∃ W : World, W6.drewN n7 = W := ⟨_, rfl⟩
  rw [hW7] at c7 b07 ⊢
  clear hW7
  by_cases hbk : a.drop (a.length - 2 * R) = b.drop (b.length - 2 * R)
  case neg =>
    have he := he4.out
    rw [if_pos (.inr (.inr hbk))] at he
    replace he := Lib.hid he
    rw [decide_eq_false hbk]
    clear hbk
    refine headY (v := ?_) (some 94) rfl rfl (Or.inl ⟨by rfl, ?_⟩) hS ?_
    rotate_left
    · rintro W' _; go_simp; try with_reducible rfl
    simp only [Act.put, List.setIfInBounds_toArray, List.set_cons_zero, List.set_cons_succ]
    refine headY (v := ?_) (some 95) rfl rfl (Or.inl ⟨by rfl, ?_⟩) hS ?_
    rotate_left
    · rintro W' _; go_simp; try with_reducible rfl
    simp only [Act.put, List.setIfInBounds_toArray, List.set_cons_zero, List.set_cons_succ]
    refine head0 ?_
    simp only [List.drop_succ_cons, List.drop_zero]
    clear z0 z1 z2
    obtain ⟨⟨z0, z1, z2⟩, -, -, -⟩ := q.below c7
    go_wp2
    refine NoPanic.normal ?_
    go_wp2_with fail
    refine (tcheck1_any r 2 3 W7 (hg.out.below c7) (by decide) (by decide)).mono ?_
    rintro e w9 ⟨y, rfl, b9, hy⟩
    obtain ⟨T9, a9, rfl⟩ := fresh_shape hy
    replace hy := Lib.hid hy
    clear z0 z1 z2
    go_wp2
    go_ret
    exact ⟨_, rfl, Below.step b07 b9, by rw [← he.out]; exact hy.out⟩
  rw [decide_eq_true hbk]
  have he5 := he4.out
  rw [if_neg (fun q => q.elim hlow (fun q => q.elim (fun q => q hfr.out) (fun q => q hbk)))] at he5
  replace he5 := Lib.hid he5
  replace hbk := Lib.hid hbk
  clear he4
  refine headY (v := ?_) (some 94) rfl rfl (Or.inl ⟨by rfl, ?_⟩) hS ?_
  rotate_left
  · rintro W' _; go_simp; try with_reducible rfl
  simp only [Act.put, List.setIfInBounds_toArray, List.set_cons_zero, List.set_cons_succ]
  refine headY (v := ?_) (some 95) rfl rfl (Or.inl ⟨by rfl, ?_⟩) hS ?_
  rotate_left
  · rintro W' _; go_simp; try with_reducible rfl
  simp only [Act.put, List.setIfInBounds_toArray, List.set_cons_zero, List.set_cons_succ]
  refine head0 ?_
  simp only [List.drop_succ_cons, List.drop_zero]
  clear z0 z1 z2
  obtain ⟨⟨z0, z1, z2⟩, -, -, -⟩ := q.below c7
  obtain ⟨W8, hW8⟩ : ∃ W : World, W7.drew = W := ⟨_, rfl⟩
  have c8 : Below W0.heap.size W0 W8 := by rw [← hW8]; exact c7.drew
  have b08 : Below w.heap.size w W8 := by rw [← hW8]; exact b07.drew
  replace hW8 := Lib.hid hW8
  go_wp2
  refine NoPanic.normal ?_
  go_upto_region 18 with fail
  have hS8 : W8.cell? ⟨w.heap.size, 0, none⟩ = some (.int .i64 K) ∧ W8.cell? ⟨w.heap.size, 1, none⟩ = some (.int .i64 R) ∧ W8.cell? ⟨w.heap.size, 2, none⟩ = some (.slice va vn vc) := by
    obtain ⟨⟨y0, y1, y2⟩, -, -, -⟩ := q.below c8
    exact ⟨y0, y1, y2⟩
  refine wp_region_plan (fun w' => w'.cell? ⟨w.heap.size, 0, none⟩ = some (.int .i64 K) ∧ w'.cell? ⟨w.heap.size, 1, none⟩ = some (.int .i64 R) ∧ w'.cell? ⟨w.heap.size, 2, none⟩ = some (.slice va vn vc)) 8 [(0, true), (1, true), (3, true), (4, true), (2, false), (5, false), (6, false), (7, true)] (by kernel_rfl) (by kernel_rfl) ?_
  rw [hW8.out]
  clear z0 z1 z2
  refine headY (v := ?_) (some 99) rfl rfl (Or.inl ⟨by rfl, ?_⟩) hS8 ?_
  rotate_left
  · rintro W' ⟨s0, s1, s2⟩; go_simp; try with_reducible rfl
  simp only [Act.put, List.setIfInBounds_toArray, List.set_cons_zero, List.set_cons_succ]
  refine headY (v := ?_) (some 100) rfl rfl (Or.inl ⟨by rfl, ?_⟩) hS8 ?_
  rotate_left
  · rintro W' ⟨s0, s1, s2⟩; go_simp; try with_reducible rfl
  simp only [Act.put, List.setIfInBounds_toArray, List.set_cons_zero, List.set_cons_succ]
  refine headY (v := ?_) (some 102) rfl rfl (Or.inl ⟨by rfl, ?_⟩) hS8 ?_
  rotate_left
  · rintro W' ⟨s0, s1, s2⟩; go_simp; try with_reducible rfl
  simp only [Act.put, List.setIfInBounds_toArray, List.set_cons_zero, List.set_cons_succ]
  refine headY (v := ?_) (some 103) rfl rfl (Or.inl ⟨by rfl, ?_⟩) hS8 ?_
  rotate_left
  · rintro W' ⟨s0, s1, s2⟩; go_simp; try with_reducible rfl
  simp only [Act.put, List.setIfInBounds_toArray, List.set_cons_zero, List.set_cons_succ]
  refine headC rfl (fun KK hK => ?_)
  go_simp
  refine (timage_ok K R va vn vc T _ a W8 (h.out.below c8) hr.out (hu.out.below c8) sA.out (by omega)).mono ?_
  rintro e w9 ⟨x1, rfl, b9, ho1⟩
  have c9 := Below.step c8 b9
  have hS9 : w9.cell? ⟨w.heap.size, 0, none⟩ = some (.int .i64 K) ∧ w9.cell? ⟨w.heap.size, 1, none⟩ = some (.int .i64 R) ∧ w9.cell? ⟨w.heap.size, 2, none⟩ = some (.slice va vn vc) := by
    obtain ⟨⟨y0, y1, y2⟩, -, -, -⟩ := q.below c9
    exact ⟨y0, y1, y2⟩
  obtain ⟨x1a, x1b, x1c, rfl⟩ := ho1.at.shape
  replace ho1 := Lib.hid ho1
  refine hK _ _ hS9 ?_
  clear hK KK hS8
  refine headC rfl (fun KK hK => ?_)
  go_simp
  refine (timage_ok K R va vn vc T _ b w9 (h.out.below c9) hr.out (hv.out.below c9) sB.out (by omega)).mono ?_
  rintro e w10 ⟨x2, rfl, b10, ho2⟩
  have c10 := Below.step c9 b10
  have b010 := Below.step (Below.step b08 b9) b10
  have hS10 : w10.cell? ⟨w.heap.size, 0, none⟩ = some (.int .i64 K) ∧ w10.cell? ⟨w.heap.size, 1, none⟩ = some (.int .i64 R) ∧ w10.cell? ⟨w.heap.size, 2, none⟩ = some (.slice va vn vc) := by
    obtain ⟨⟨y0, y1, y2⟩, -, -, -⟩ := q.below c10
    exact ⟨y0, y1, y2⟩
  obtain ⟨x2a, x2b, x2c, rfl⟩ := ho2.at.shape
  have hq3 := equal_any _ _ _ _ w10 (ho1.out.at.below b10) ho2.at
  replace hq3 := Lib.hid hq3
  replace ho2 := Lib.hid ho2
  refine hK _ _ hS10 ?_
  clear hK KK hS9
  refine headC rfl (fun KK hK => ?_)
  go_simp
  refine hq3.out.mono ?_
  rintro e w11 ⟨n11, rfl, rfl⟩
  have c11 := below_drewN c10 n11
  have b011 := below_drewN b010 n11
  refine hK _ _ hS10 ?_
  clear hK KK hq3
  obtain ⟨W11, hW11⟩ : ∃ W : World, w10.drewN n11 = W := ⟨_, rfl⟩
  have hS11 : W11.cell? ⟨w.heap.size, 0, none⟩ = some (.int .i64 K) ∧ W11.cell? ⟨w.heap.size, 1, none⟩ = some (.int .i64 R) ∧ W11.cell? ⟨w.heap.size, 2, none⟩ = some (.slice va vn vc) := by rw [← hW11]; exact hS10
  rw [hW11] at c11 b011 ⊢
  clear hS10 hW11
  refine headY (v := ?_) (some 106) rfl rfl (Or.inl ⟨by rfl, ?_⟩) hS11 ?_
  rotate_left
  · rintro W' ⟨s0, s1, s2⟩; go_simp; try with_reducible rfl
  simp only [Act.put, List.setIfInBounds_toArray, List.set_cons_zero, List.set_cons_succ]
  refine head0 ?_
  simp only [List.drop_succ_cons, List.drop_zero]
  obtain ⟨z0, z1, z2⟩ := hS11
  by_cases him : imgP K R T a = imgP K R T b
  · have he := he5.out
    rw [if_neg (fun q => q him)] at he
    replace he := Lib.hid he
    rw [decide_eq_true him]
    replace him := Lib.hid him
    go_wp2
    refine NoPanic.normal ?_
    go_wp2
    go_ret
    exact ⟨_, rfl, b011, by rw [← he.out]; rfl⟩
  · have he := he5.out
    rw [if_pos him] at he
    replace he := Lib.hid he
    rw [decide_eq_false him]
    clear him
    go_wp2
    refine NoPanic.normal ?_
    go_wp2_with fail
    refine (tcheck1_any r 3 3 W11 (hg.out.below c11) (by decide) (by decide)).mono ?_
    rintro e w9 ⟨y, rfl, b9, hy⟩
    obtain ⟨T9, a9, rfl⟩ := fresh_shape hy
    replace hy := Lib.hid hy
    clear z0 z1 z2
    go_wp2
    go_ret
    exact ⟨_, rfl, Below.step b011 b9, by rw [← he.out]; exact hy.out⟩
end Go.Proofs.YtilpckngghffoaaGreatDoor
