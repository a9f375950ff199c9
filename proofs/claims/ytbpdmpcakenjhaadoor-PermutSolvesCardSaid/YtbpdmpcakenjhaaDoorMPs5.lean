/-
  Proved: the law edenlaw19.PermutSolves as its tied card: it returns true and never panics, for any rule and any two lists. No conditions beyond the card's own.
  Walk: edenlaw19.PermutSolves returns true.
  Opening what a call is handed: []int, api.Rule, the package-level errors.
-/
import Derived.Test.YtbpdmpcakenjhaaDoorMPs4
import Derived.Deep.DeepCutAuto
import Derived.Test.YtbpdmpcakenjhaaDoorRows
import Derived.ProofKit
import Derived.OpenShut
import Derived.ShutString
import Derived.ChangeOld
import Derived.LaidMore
import Derived.Stop.Joined
import Derived.Stop.LaidErr
import Derived.Lib.SmallJoins
import Derived.Test.YtbpdmpcakenjhaaDoorCards
import Derived.Test.YtbpdmpcakenjhaaDoorTie
import Derived.SevenTiedAt
namespace Go.Proofs.YtbpdmpcakenjhaaDoor
open Go.RowKit
set_option maxRecDepth 100000

/-- An error's test against nil, as a Boolean. -/
theorem err_test {r : Nat → Addr} {w : World} {t : PErr} {v : Value} (h : ErrIs r w t v) :
    (∀ (x : Nat) w', (eqGuard BinOp.eql 27 (.tmp x) (.const .nilIface) v .nilIface).run Tryd.prog w' = .ok () w') ∧ ∀ w', (binOp BinOp.eql 27 v .nilIface).run Tryd.prog w' = .ok (.bool (decide (t = none))) w' := by
  cases t with
  | none =>
    obtain rfl := h.none_eq
    exact ⟨fun _ _ => by rfl, fun _ => by rfl⟩
  | some t =>
    obtain ⟨T, a, rfl⟩ := h.some_shape
    exact ⟨fun _ _ => by rfl, fun _ => by rfl⟩

theorem overP_none {K Q : Nat} {T ys : List Int} (h : overP K Q T ys 256 = none) : T.length ≤ 256 ∧ ys.length ≤ 256 := by
  unfold overP at h
  cases hs : smallP K Q T with
  | some t => rw [hs] at h; simp [under] at h
  | none =>
    rw [hs] at h
    refine ⟨(smallP_none hs).2, ?_⟩
    simp only [] at h
    split at h
    · simp [fresh] at h
    · omega
theorem cell_keep' {w w' : World} {a : Addr} {v : Value} (hb : Below w.heap.size w w') (h : w.cell? a = some v) : w'.cell? a = some v := (hb.cell (World.block_lt_of_cell? _ _ h)).trans h

set_option maxHeartbeats 16000000 in
theorem permutSolves_any (r : Nat → Addr) (k R : Int) (va : Option Addr) (vn vc : Nat) (T : List Int) (v1 v2 : Value) (ys zs : List Int) (w : World) (hg : Glob r w) (h : IntsAt w (.slice va vn vc) T) (h1 : IntsAt w v1 ys) (h2 : IntsAt w v2 zs) (hyl : ys.length ≤ 17592186043904) :
    Calls Tryd.prog 3 #[.agg #[.int .i64 k, .int .i64 R, .slice va vn vc], v1, v2] w (Ret1 (fun x _ => x = .bool true) w) := by
  have b0 := belowAlloc w (.cells #[.int .i64 k, .int .i64 R, .slice va vn vc] 24)
  obtain ⟨w0, hw0⟩ : ∃ w0, w0 = w.alloc (.cells #[.int .i64 k, .int .i64 R, .slice va vn vc] 24) := ⟨_, rfl⟩
  have q : Box3 w0 w.heap.size (.int .i64 k) (.int .i64 R) (.slice va vn vc) := by simp [hw0, Box3, go_sem]
  rw [← hw0] at b0
  have hly := h1.len
  replace hg := Lib.hid (hg.below b0)
  replace h := Lib.hid (h.below b0)
  replace h1 := Lib.hid (h1.below b0)
  replace h2 := Lib.hid (h2.below b0)
  go_enter Tryd.func3, Tryd.ntmps3
  go_wp2_with fail
  rw [← hw0]
  clear hw0
  refine (awake19 r _ hg.out).mono ?_
  rintro e w1 ⟨_, rfl, b1, rfl⟩
  obtain ⟨⟨z0, z1, z2⟩, -, -, -⟩ := q.below b1
  go_wp2_with fail
  refine (right_any r k R va vn vc T v1 v2 ys zs _ (hg.out.below b1) (h.out.below b1) (h1.out.below b1) (h2.out.below b1)).mono ?_
  rintro e w2 ⟨o1, e1, rfl, b2, he1, ok1, _⟩
  clear z0 z1 z2
  have d2 := Below.step b1 b2
  obtain ⟨⟨z0, z1, z2⟩, -, -, -⟩ := q.below d2
  go_wp2_with fail
  refine (left_any r k R va vn vc T v1 v2 ys zs _ (hg.out.below d2) (h.out.below d2) (h1.out.below d2) (h2.out.below d2)).mono ?_
  rintro e w3 ⟨o2, e2, rfl, b3, he2, ok2, _⟩
  clear z0 z1 z2
  have d3 := Below.step d2 b3
  obtain ⟨c1, hc1⟩ : ∃ c1, decide (permF k R T 1 ys zs = none) = c1 := ⟨_, rfl⟩
  obtain ⟨c2, hc2⟩ : ∃ c2, decide (permF k R T (T.length / k.toNat) ys zs = none) = c2 := ⟨_, rfl⟩
  obtain ⟨g1, t1⟩ := err_test he1
  obtain ⟨g2, t2⟩ := err_test he2
  rw [hc1] at t1
  rw [hc2] at t2
  replace hc1 := Lib.hid hc1
  replace hc2 := Lib.hid hc2
  replace ok1 := Lib.hid ok1
  replace ok2 := Lib.hid ok2
  replace he1 := Lib.hid he1
  replace he2 := Lib.hid he2
  go_upto_if 43 with fail
  clear g1 t1
  go_cut [] from 11 (fun wx => Below w3.heap.size w3 wx)
  case first =>
    cases c1 with
    | false =>
      go_wp2
      go_meet
      case rel => exact Below.refl _ _
    | true =>
      as_aux_lemma =>
        have hp1 : permF k R T 1 ys zs = none := by simpa using hc1.out
        have ho1 := ok1.out hp1
        obtain ⟨K, Q, rfl, rfl, hr, hu, hc⟩ := permF_none hp1
        obtain ⟨hl4, hzl, hys, hzs⟩ := checkM_none hc
        rw [Int.toNat_natCast] at ho1
        have himg := right_img hr hu hzs hzl ys hys
        have hLs : Syms K (zs ++ rightP K T (numW K zs) ys) := by
          intro y hy
          rcases List.mem_append.1 hy with hy | hy
          · exact hzs y hy
          · exact rightP_syms hr.k1 T _ ys y hy
        have hLl : (zs ++ rightP K T (numW K zs) ys).length = ys.length + 2 * Q := by rw [List.length_append, rightP_length]; omega
        have hLt : (zs ++ rightP K T (numW K zs) ys).take (2 * Q) = zs := by rw [← hzl]; exact List.take_left' rfl
        have hcnt := begins_count hr hu ys zs hys hzs hzl
        have hR := hr.r3
        generalize zs ++ rightP K T (numW K zs) ys = L at ho1 himg hLs hLl hLt
        replace ho1 := Lib.hid (ho1.below b3)
        replace hp1 := Lib.hid hp1
        replace himg := Lib.hid himg
        replace hLs := Lib.hid hLs
        replace hLt := Lib.hid hLt
        replace hcnt := Lib.hid hcnt
        replace hr := Lib.hid hr
        replace hu := Lib.hid hu
        replace hc := Lib.hid hc
        replace hys := Lib.hid hys
        replace hzs := Lib.hid hzs
        replace hLl := Lib.hid hLl
        replace hzl := Lib.hid hzl
        clear g2 t2
        obtain ⟨⟨z0, z1, z2⟩, -, -, -⟩ := q.below d3
        go_wp2_with fail
        refine (step_any r K Q va vn vc T o1 L _ (hg.out.below d3) (h.out.below d3) ho1.out.at).mono ?_
        rintro e w4 ⟨a4, g4, rfl, b4, he4, ok4, _⟩
        clear z0 z1 z2
        have d4 := Below.step d3 b4
        obtain ⟨⟨z0, z1, z2⟩, -, -, -⟩ := q.below d4
        have lo1 := ho1.out.at.len
        rw [hLl.out] at lo1
        obtain ⟨fu, hfu, hfr⟩ := (ho1.out.at.below b4).front (2 * Q) (by rw [hLl.out]; omega)
        rw [show ((2 * Q : Nat) : Int) = 2 * (Q : Int) by omega] at hfu
        rw [hLt.out] at hfr
        replace hfr := Lib.hid hfr
        have hle : (((ys.length + 2 * Q : Nat) : Int) != (ys.length : Int) + 2 * (Q : Int)) = false := by rw [bne_eq_false_iff_eq]; omega
        go_upto_region 7 with fail
        go_cut [83] from 50 (fun s83 wx => s83 = .bool false ∧ Below w4.heap.size w4 wx)
        case first =>
          by_cases h4 : ys.length < 4000
          · have hse := stepE_ok hr.out hLs.out (by rw [hLl.out]; omega)
            rw [hse] at he4
            obtain rfl := he4.none_eq
            have ho4 := ok4 hse
            rw [Int.toNat_natCast, Int.toNat_natCast, himg.out] at ho4
            clear he4 ok4
            replace hse := Lib.hid hse
            replace ho4 := Lib.hid ho4
            go_wp2_with fail
            refine (ints_any a4 v1 ys ys _ ho4.out.at (h1.out.below d4)).mono ?_
            rintro e w5 h5
            obtain ⟨rfl, b5⟩ := h5.below
            clear h5
            rw [show decide (ys = ys) = true by simp]
            have z1' := cell_keep b5 z1
            go_wp2_with fail
            refine (ints_any fu v2 zs zs _ (hfr.out.below b5) (h2.out.below (Below.step d4 b5))).mono ?_
            rintro e w6 h6
            obtain ⟨rfl, b6⟩ := h6.below
            clear h6
            rw [show decide (zs = zs) = true by simp]
            go_wp2
            go_meet
            case rel => exact ⟨rfl, Below.step b5 b6⟩
          · replace he4 := Lib.hid he4
            replace ok4 := Lib.hid ok4
            go_wp2_with fail
            refine (ints_any fu v2 zs zs _ hfr.out (h2.out.below d4)).mono ?_
            rintro e w6 h6
            obtain ⟨rfl, b6⟩ := h6.below
            clear h6
            rw [show decide (zs = zs) = true by simp]
            go_wp2
            go_meet
            case rel => exact ⟨rfl, b6⟩
        case rest =>
          obtain ⟨rfl, b6⟩ := hcut
          have d6 := Below.step d4 b6
          clear z0 z1 z2 hfu hle lo1
          obtain ⟨⟨z0, z1, z2⟩, -, -, -⟩ := q.below d6
          cases hov : overP K Q T ys 256 with
          | some t =>
            replace hov := Lib.hid hov
            go_wp2_with fail
            refine (before_bad r K Q va vn vc T v1 ys t _ (hg.out.below d6) (h.out.below d6) (h1.out.below d6) hov.out).mono ?_
            rintro e w7 ⟨_, _, x, rfl, b7, rfl, rfl, he7⟩
            obtain ⟨T7, a7, rfl⟩ := ErrIs.some_shape he7
            replace he7 := Lib.hid he7
            go_wp2
            go_meet
            case rel => exact Below.step b4 (Below.step b6 b7)
          | none =>
            obtain ⟨hT256, hy256⟩ := overP_none hov
            replace hov := Lib.hid hov
            go_wp2_with fail
            refine (before_ok r K Q va vn vc T v1 ys _ (hg.out.below d6) (h.out.below d6) (h1.out.below d6) hr.out hov.out hT256 (by omega)).mono ?_
            rintro e w7 ⟨l, _, _, rfl, b7, rfl, ls, LS, more, rfl, hV, hll, hlm, hit, hall⟩
            have d7 := Below.step d6 b7
            clear z0 z1 z2
            replace hit := Lib.hid hit
            replace hall := Lib.hid hall
            cases more with
            | true =>
              replace hV := Lib.hid hV
              go_wp2
              go_meet
              case rel => exact Below.step b4 (Below.step b6 b7)
            | false =>
              have lV := fun w' => hV.len oneLists 3 w'
              rw [hll] at lV
              replace hV := Lib.hid hV
              replace hll := Lib.hid hll
              go_wp2
              go_loopw [16, 17] (fun nv iv wr => ∃ i : Nat, i ≤ LS.length ∧ iv = .int .i64 i ∧ nv = .int .i64 (((LS.take i).filter (begins (2 * Q) zs)).length : Nat) ∧ Below w7.heap.size w7 wr) (fun _ iv _ => LS.length - (intOf iv).toNat)
              case atStart => exact ⟨0, by omega, rfl, rfl, Below.refl _ _⟩
              case round =>
                obtain ⟨i, hi, rfl, rfl, hbr⟩ := hrel
                obtain ⟨wo, rfl⟩ : ∃ wo : World, wo = wr := ⟨_, rfl⟩
                by_cases hlt : i < LS.length
                · have hls : i < ls.length := by rw [hll.out]; exact hlt
                  have dW : Below w0.heap.size w0 wo.drew := (Below.step d7 hbr).drew
                  have hVw := hV.out.below hbr
                  have iV := fun w' => hVw.idx oneLists i hls w'
                  have cV := hVw.cellV i hls
                  have hitem := (hit.out i hls).below hbr
                  obtain ⟨pv, hpv⟩ : ∃ pv, vAt ls i = pv := ⟨_, rfl⟩
                  obtain ⟨x, hx⟩ : ∃ x, LS.getD i [] = x := ⟨_, rfl⟩
                  rw [hpv] at cV hitem
                  rw [hx] at hitem
                  obtain ⟨ia, im, ic, rfl⟩ := hitem.shape
                  have lx := hitem.len
                  obtain ⟨pa, hpa⟩ : ∃ pa, valAt l i = pa := ⟨_, rfl⟩
                  rw [hpa] at iV cV
                  have hcn : ((LS.take (i + 1)).filter (begins (2 * Q) zs)).length = ((LS.take i).filter (begins (2 * Q) zs)).length + if begins (2 * Q) zs x = true then 1 else 0 := by
                    rw [List.take_add_one, List.filter_append, List.length_append]
                    congr 1
                    have : LS[i]? = some x := by rw [← hx]; simp [List.getD, hlt]
                    rw [this]
                    simp only [Option.toList, List.filter_cons, List.filter_nil]
                    split <;> rfl
                  have hnl : ((LS.take i).filter (begins (2 * Q) zs)).length ≤ 256 := by
                    have h1 := List.length_filter_le (begins (2 * Q) zs) (LS.take i)
                    have h2 : (LS.take i).length ≤ LS.length := by rw [List.length_take]; omega
                    omega
                  generalize ((LS.take i).filter (begins (2 * Q) zs)).length = nn at hcn hnl
                  replace hcn := Lib.hid hcn
                  replace hpv := Lib.hid hpv
                  replace hx := Lib.hid hx
                  replace hpa := Lib.hid hpa
                  have hS : wo.drew.cell? pa = some (.slice ia im ic) ∧ wo.drew.cell? ⟨w.heap.size, 1, none⟩ = some (.int .i64 Q) := ⟨cV, (q.below (Below.step d7 hbr)).1.2.1⟩
                  clear cV
                  replace hVw := Lib.hid hVw
                  by_cases hlen : 2 * Q ≤ x.length
                  · obtain ⟨pu, hpu, hpr⟩ := hitem.front (2 * Q) hlen
                    rw [show ((2 * Q : Nat) : Int) = 2 * (Q : Int) by omega] at hpu
                    obtain ⟨bg, hbg⟩ : ∃ bg, decide (x.take (2 * Q) = zs) = bg := ⟨_, rfl⟩
                    have hbe : begins (2 * Q) zs x = bg := by unfold begins; rw [hbg, decide_eq_true hlen]; rfl
                    rw [hbe] at hcn
                    replace hbg := Lib.hid hbg
                    replace hbe := Lib.hid hbe
                    replace hpr := Lib.hid (show IntsAt wo.drew pu _ from hpr.drew)
                    have hge : decide (2 * (Q : Int) ≤ (x.length : Int)) = true := by rw [decide_eq_true_iff]; omega
                    go_wp2
                    have hwr : IntKind.i64.wrap (2 * (Q : Int)) = 2 * (Q : Int) := wrapK (by omega) (by omega)
                    refine wp_region_plan (fun w' => w'.cell? pa = some (.slice ia im ic) ∧ w'.cell? ⟨w.heap.size, 1, none⟩ = some (.int .i64 Q)) 20 [(0, true), (1, true), (2, true), (3, true), (4, true), (5, true), (6, true), (7, true), (8, true), (9, true), (10, true), (11, true), (12, true), (13, true), (14, true), (15, true), (16, true), (17, true), (18, true), (19, false)] (by kernel_rfl) (by kernel_rfl) ?_
                    refine headY (v := ?_) (some 103) rfl rfl (Or.inl ⟨by rfl, ?_⟩) hS ?_
                    rotate_left
                    · rintro W' ⟨s0, s1⟩; go_simp; try with_reducible rfl
                    simp only [Act.put, List.setIfInBounds_toArray, List.set_cons_zero, List.set_cons_succ]
                    refine headY (v := ?_) (some 104) rfl rfl (Or.inl ⟨by rfl, ?_⟩) hS ?_
                    rotate_left
                    · rintro W' ⟨s0, s1⟩; go_simp; try with_reducible rfl
                    simp only [Act.put, List.setIfInBounds_toArray, List.set_cons_zero, List.set_cons_succ]
                    refine headY (v := ?_) (some 105) rfl rfl (Or.inl ⟨by rfl, ?_⟩) hS ?_
                    rotate_left
                    · rintro W' ⟨s0, s1⟩; go_simp; try with_reducible rfl
                    simp only [Act.put, List.setIfInBounds_toArray, List.set_cons_zero, List.set_cons_succ]
                    refine headY (v := ?_) (some 106) rfl rfl (Or.inl ⟨by rfl, ?_⟩) hS ?_
                    rotate_left
                    · rintro W' ⟨s0, s1⟩; go_simp; try with_reducible rfl
                    simp only [Act.put, List.setIfInBounds_toArray, List.set_cons_zero, List.set_cons_succ]
                    refine headY (v := ?_) (some 107) rfl rfl (Or.inl ⟨by rfl, ?_⟩) hS ?_
                    rotate_left
                    · rintro W' ⟨s0, s1⟩; go_simp; try with_reducible rfl
                    simp only [Act.put, List.setIfInBounds_toArray, List.set_cons_zero, List.set_cons_succ]
                    refine headY (v := ?_) (some 108) rfl rfl (Or.inl ⟨by rfl, ?_⟩) hS ?_
                    rotate_left
                    · rintro W' ⟨s0, s1⟩; go_simp; try with_reducible rfl
                    simp only [Act.put, List.setIfInBounds_toArray, List.set_cons_zero, List.set_cons_succ]
                    refine headY (v := ?_) (some 109) rfl rfl (Or.inl ⟨by rfl, ?_⟩) hS ?_
                    rotate_left
                    · rintro W' ⟨s0, s1⟩; go_simp; try with_reducible rfl
                    simp only [Act.put, List.setIfInBounds_toArray, List.set_cons_zero, List.set_cons_succ]
                    refine headY (v := ?_) (some 110) rfl rfl (Or.inl ⟨by rfl, ?_⟩) hS ?_
                    rotate_left
                    · rintro W' ⟨s0, s1⟩; go_simp; try with_reducible rfl
                    simp only [Act.put, List.setIfInBounds_toArray, List.set_cons_zero, List.set_cons_succ]
                    refine headY (v := ?_) (some 111) rfl rfl (Or.inl ⟨by rfl, ?_⟩) hS ?_
                    rotate_left
                    · rintro W' ⟨s0, s1⟩; go_simp; try with_reducible rfl
                    simp only [Act.put, List.setIfInBounds_toArray, List.set_cons_zero, List.set_cons_succ]
                    refine headY (v := ?_) (some 112) rfl rfl (Or.inl ⟨by rfl, ?_⟩) hS ?_
                    rotate_left
                    · rintro W' ⟨s0, s1⟩; go_simp; try with_reducible rfl
                    simp only [Act.put, List.setIfInBounds_toArray, List.set_cons_zero, List.set_cons_succ]
                    refine headY (v := ?_) (some 113) rfl rfl (Or.inl ⟨by rfl, ?_⟩) hS ?_
                    rotate_left
                    · rintro W' ⟨s0, s1⟩; go_simp; try with_reducible rfl
                    simp only [Act.put, List.setIfInBounds_toArray, List.set_cons_zero, List.set_cons_succ]
                    refine headY (v := ?_) (some 114) rfl rfl (Or.inl ⟨by rfl, ?_⟩) hS ?_
                    rotate_left
                    · rintro W' ⟨s0, s1⟩; go_simp; try with_reducible rfl
                    simp only [Act.put, List.setIfInBounds_toArray, List.set_cons_zero, List.set_cons_succ]
                    refine headY (v := ?_) (some 115) rfl rfl (Or.inl ⟨by rfl, ?_⟩) hS ?_
                    rotate_left
                    · rintro W' ⟨s0, s1⟩; go_simp; try with_reducible rfl
                    simp only [Act.put, List.setIfInBounds_toArray, List.set_cons_zero, List.set_cons_succ]
                    refine headY (v := ?_) (some 116) rfl rfl (Or.inl ⟨by rfl, ?_⟩) hS ?_
                    rotate_left
                    · rintro W' ⟨s0, s1⟩; go_simp; try with_reducible rfl
                    simp only [Act.put, List.setIfInBounds_toArray, List.set_cons_zero, List.set_cons_succ]
                    refine headY (v := ?_) (some 117) rfl rfl (Or.inl ⟨by rfl, ?_⟩) hS ?_
                    rotate_left
                    · rintro W' ⟨s0, s1⟩; go_simp; try with_reducible rfl
                    simp only [Act.put, List.setIfInBounds_toArray, List.set_cons_zero, List.set_cons_succ]
                    refine headY (v := ?_) (some 118) rfl rfl (Or.inl ⟨by rfl, ?_⟩) hS ?_
                    rotate_left
                    · rintro W' ⟨s0, s1⟩; go_simp; try with_reducible rfl
                    simp only [Act.put, List.setIfInBounds_toArray, List.set_cons_zero, List.set_cons_succ]
                    refine headY (v := ?_) (some 119) rfl rfl (Or.inl ⟨by rfl, ?_⟩) hS ?_
                    rotate_left
                    · rintro W' ⟨s0, s1⟩; go_simp; try with_reducible rfl
                    simp only [Act.put, List.setIfInBounds_toArray, List.set_cons_zero, List.set_cons_succ]
                    refine headY (v := ?_) (some 120) rfl rfl (Or.inl ⟨by rfl, ?_⟩) hS ?_
                    rotate_left
                    · rintro W' ⟨s0, s1⟩; go_simp; try with_reducible rfl
                    simp only [Act.put, List.setIfInBounds_toArray, List.set_cons_zero, List.set_cons_succ]
                    refine headY (v := ?_) (some 121) rfl rfl (Or.inl ⟨by rfl, ?_⟩) hS ?_
                    rotate_left
                    · rintro W' ⟨s0, s1⟩; go_simp; try with_reducible rfl
                    simp only [Act.put, List.setIfInBounds_toArray, List.set_cons_zero, List.set_cons_succ]
                    refine headC rfl (fun KK hK => ?_)
                    go_simp
                    refine (ints_any pu v2 _ zs _ hpr.out (h2.out.below dW)).mono ?_
                    rintro e W2 h9
                    obtain ⟨rfl, b9⟩ := h9.below
                    clear h9
                    rw [hbg.out]
                    refine hK _ _ ⟨cell_keep' b9 hS.1, cell_keep' b9 hS.2⟩ ?_
                    clear hK KK
                    refine head0 ?_
                    simp only [List.drop_succ_cons, List.drop_zero]
                    have hbe2 := Lib.hid (hbr.drew.trans (b9.mono hbr.size))
                    clear hS hwr
                    cases bg with
                    | true =>
                      go_wp2
                      refine NoPanic.normal ?_
                      go_wp2
                      go_roundw
                      case rel => exact ⟨i + 1, by omega, by go_num, by rw [hcn.out]; go_num, hbe2.out⟩
                      case measure => simp [intOf]; omega
                    | false =>
                      go_wp2
                      refine NoPanic.normal ?_
                      go_wp2
                      go_roundw
                      case rel => exact ⟨i + 1, by omega, by go_num, by rw [hcn.out]; go_num, hbe2.out⟩
                      case measure => simp [intOf]; omega
                  · have hbe : begins (2 * Q) zs x = false := by unfold begins; rw [decide_eq_false hlen]; rfl
                    rw [hbe] at hcn
                    replace hbe := Lib.hid hbe
                    have hge : decide (2 * (Q : Int) ≤ (x.length : Int)) = false := by rw [decide_eq_false_iff_not]; omega
                    go_wp2
                    have hwr : IntKind.i64.wrap (2 * (Q : Int)) = 2 * (Q : Int) := wrapK (by omega) (by omega)
                    refine wp_region_plan (fun w' => w'.cell? pa = some (.slice ia im ic) ∧ w'.cell? ⟨w.heap.size, 1, none⟩ = some (.int .i64 Q)) 20 [(0, true), (1, true), (2, true), (3, true), (4, true), (5, true), (6, true), (7, true), (8, true), (9, true), (10, true), (11, true), (12, true), (13, true), (14, true), (15, true), (16, true), (17, true), (18, true), (19, false)] (by kernel_rfl) (by kernel_rfl) ?_
                    refine headY (v := ?_) (some 103) rfl rfl (Or.inl ⟨by rfl, ?_⟩) hS ?_
                    rotate_left
                    · rintro W' ⟨s0, s1⟩; go_simp; try with_reducible rfl
                    simp only [Act.put, List.setIfInBounds_toArray, List.set_cons_zero, List.set_cons_succ]
                    refine headY (v := ?_) (some 104) rfl rfl (Or.inl ⟨by rfl, ?_⟩) hS ?_
                    rotate_left
                    · rintro W' ⟨s0, s1⟩; go_simp; try with_reducible rfl
                    simp only [Act.put, List.setIfInBounds_toArray, List.set_cons_zero, List.set_cons_succ]
                    refine headY (v := ?_) (some 105) rfl rfl (Or.inl ⟨by rfl, ?_⟩) hS ?_
                    rotate_left
                    · rintro W' ⟨s0, s1⟩; go_simp; try with_reducible rfl
                    simp only [Act.put, List.setIfInBounds_toArray, List.set_cons_zero, List.set_cons_succ]
                    refine headY (v := ?_) (some 106) rfl rfl (Or.inl ⟨by rfl, ?_⟩) hS ?_
                    rotate_left
                    · rintro W' ⟨s0, s1⟩; go_simp; try with_reducible rfl
                    simp only [Act.put, List.setIfInBounds_toArray, List.set_cons_zero, List.set_cons_succ]
                    refine headY (v := ?_) (some 107) rfl rfl (Or.inl ⟨by rfl, ?_⟩) hS ?_
                    rotate_left
                    · rintro W' ⟨s0, s1⟩; go_simp; try with_reducible rfl
                    simp only [Act.put, List.setIfInBounds_toArray, List.set_cons_zero, List.set_cons_succ]
                    refine headY (v := ?_) (some 108) rfl rfl (Or.inl ⟨by rfl, ?_⟩) hS ?_
                    rotate_left
                    · rintro W' ⟨s0, s1⟩; go_simp; try with_reducible rfl
                    simp only [Act.put, List.setIfInBounds_toArray, List.set_cons_zero, List.set_cons_succ]
                    refine headY (v := ?_) (some 109) rfl rfl (Or.inl ⟨by rfl, ?_⟩) hS ?_
                    rotate_left
                    · rintro W' ⟨s0, s1⟩; go_simp; try with_reducible rfl
                    simp only [Act.put, List.setIfInBounds_toArray, List.set_cons_zero, List.set_cons_succ]
                    refine headY (v := ?_) (some 110) rfl rfl (Or.inl ⟨by rfl, ?_⟩) hS ?_
                    rotate_left
                    · rintro W' ⟨s0, s1⟩; go_simp; try with_reducible rfl
                    simp only [Act.put, List.setIfInBounds_toArray, List.set_cons_zero, List.set_cons_succ]
                    refine headY (v := ?_) (some 111) rfl rfl (Or.inl ⟨by rfl, ?_⟩) hS ?_
                    rotate_left
                    · rintro W' ⟨s0, s1⟩; go_simp; try with_reducible rfl
                    simp only [Act.put, List.setIfInBounds_toArray, List.set_cons_zero, List.set_cons_succ]
                    refine headY (v := ?_) (some 112) rfl rfl (Or.inl ⟨by rfl, ?_⟩) hS ?_
                    rotate_left
                    · rintro W' ⟨s0, s1⟩; go_simp; try with_reducible rfl
                    simp only [Act.put, List.setIfInBounds_toArray, List.set_cons_zero, List.set_cons_succ]
                    refine headY (v := undef) (some 113) rfl rfl (Or.inr ⟨by rfl, rfl⟩) hS ?_
                    simp only [Act.put, List.setIfInBounds_toArray, List.set_cons_zero, List.set_cons_succ]
                    refine headY (v := undef) (some 114) rfl rfl (Or.inr ⟨by rfl, rfl⟩) hS ?_
                    simp only [Act.put, List.setIfInBounds_toArray, List.set_cons_zero, List.set_cons_succ]
                    refine headY (v := undef) (some 115) rfl rfl (Or.inr ⟨by rfl, rfl⟩) hS ?_
                    simp only [Act.put, List.setIfInBounds_toArray, List.set_cons_zero, List.set_cons_succ]
                    refine headY (v := undef) (some 116) rfl rfl (Or.inr ⟨by rfl, rfl⟩) hS ?_
                    simp only [Act.put, List.setIfInBounds_toArray, List.set_cons_zero, List.set_cons_succ]
                    refine headY (v := undef) (some 117) rfl rfl (Or.inr ⟨by rfl, rfl⟩) hS ?_
                    simp only [Act.put, List.setIfInBounds_toArray, List.set_cons_zero, List.set_cons_succ]
                    refine headY (v := undef) (some 118) rfl rfl (Or.inr ⟨by rfl, rfl⟩) hS ?_
                    simp only [Act.put, List.setIfInBounds_toArray, List.set_cons_zero, List.set_cons_succ]
                    refine headY (v := undef) (some 119) rfl rfl (Or.inr ⟨by rfl, rfl⟩) hS ?_
                    simp only [Act.put, List.setIfInBounds_toArray, List.set_cons_zero, List.set_cons_succ]
                    refine headY (v := undef) (some 120) rfl rfl (Or.inr ⟨by rfl, rfl⟩) hS ?_
                    simp only [Act.put, List.setIfInBounds_toArray, List.set_cons_zero, List.set_cons_succ]
                    refine headY (v := undef) (some 121) rfl rfl (Or.inr ⟨by rfl, rfl⟩) hS ?_
                    simp only [Act.put, List.setIfInBounds_toArray, List.set_cons_zero, List.set_cons_succ]
                    refine headC rfl (fun KK hK => ?_)
                    go_simp
                    refine hK _ _ hS ?_
                    clear hK KK
                    refine head0 ?_
                    simp only [List.drop_succ_cons, List.drop_zero]
                    clear hS hwr
                    go_wp2
                    refine NoPanic.normal ?_
                    go_wp2
                    go_roundw
                    case rel => exact ⟨i + 1, by omega, by go_num, by rw [hcn.out]; go_num, hbr.drew⟩
                    case measure => simp [intOf]; omega
                · obtain rfl : i = LS.length := by omega
                  have hone : ((LS.take LS.length).filter (begins (2 * Q) zs)).length = 1 := by rw [List.take_length, hall.out (by first | rfl | trivial)]; exact hcnt.out
                  rw [hone]
                  replace hone := Lib.hid hone
                  go_wp2
                  go_meet
                  case rel => exact Below.step b4 (Below.step b6 (Below.step b7 hbr))
  case rest =>
    have d10 := Below.step d3 hcut
    go_upto_if 129 with fail
    clear g2 t2
    go_cut [] from 18 (fun wx => Below wc.heap.size wc wx)
    case first =>
      cases c2 with
      | false =>
        go_wp2
        go_meet
        case rel => exact Below.refl _ _
      | true =>
        as_aux_lemma =>
          have hp2 : permF k R T (T.length / k.toNat) ys zs = none := by simpa using hc2.out
          have ho2 := ok2.out hp2
          obtain ⟨K, Q, rfl, rfl, hr, hu, hc⟩ := permF_none hp2
          obtain ⟨hl4, hzl, hys, hzs⟩ := checkM_none hc
          rw [Int.toNat_natCast] at ho2 hu
          have himg := (left_both hr hu hzs hzl ys hys).2
          have hLs : Syms K ((leftS K T (numW K zs) ys).2 ++ zs) := by
            intro y hy
            rcases List.mem_append.1 hy with hy | hy
            · exact leftS_syms hr.k1 T _ ys y hy
            · exact hzs y hy
          have hLl : ((leftS K T (numW K zs) ys).2 ++ zs).length = ys.length + 2 * Q := by rw [List.length_append, leftS_length]; omega
          have hLd : ((leftS K T (numW K zs) ys).2 ++ zs).drop ys.length = zs := by rw [← leftS_length K T (numW K zs) ys]; exact List.drop_left' rfl
          have hR := hr.r3
          generalize (leftS K T (numW K zs) ys).2 ++ zs = L at ho2 himg hLs hLl hLd
          replace ho2 := Lib.hid (ho2.below hcut)
          replace hp2 := Lib.hid hp2
          replace himg := Lib.hid himg
          replace hLs := Lib.hid hLs
          replace hLd := Lib.hid hLd
          replace hr := Lib.hid hr
          replace hu := Lib.hid hu
          replace hc := Lib.hid hc
          replace hys := Lib.hid hys
          replace hzs := Lib.hid hzs
          replace hLl := Lib.hid hLl
          replace hzl := Lib.hid hzl
          obtain ⟨⟨z0, z1, z2⟩, -, -, -⟩ := q.below d10
          go_wp2_with fail
          refine (step_any r K Q va vn vc T o2 L _ (hg.out.below d10) (h.out.below d10) ho2.out.at).mono ?_
          rintro e w4 ⟨a4, g4, rfl, b4, he4, ok4, _⟩
          clear z0 z1 z2
          have d4 := Below.step d10 b4
          obtain ⟨⟨z0, z1, z2⟩, -, -, -⟩ := q.below d4
          have lo2 := ho2.out.at.len
          rw [hLl.out] at lo2
          obtain ⟨fu, hfu, hfr⟩ := (ho2.out.at.below b4).post ys.length (by rw [hLl.out]; omega)
          rw [hLd.out] at hfr
          replace hfr := Lib.hid hfr
          have hsub : ((ys.length + 2 * Q : Nat) : Int) - 2 * (Q : Int) = (ys.length : Int) := by omega
          have hfu2 := hfu
          rw [← hsub] at hfu2
          replace hsub := Lib.hid hsub
          have hle : (((ys.length + 2 * Q : Nat) : Int) != (ys.length : Int) + 2 * (Q : Int)) = false := by rw [bne_eq_false_iff_eq]; omega
          by_cases h4 : ys.length < 4000
          · have hse := stepE_ok hr.out hLs.out (by rw [hLl.out]; omega)
            rw [hse] at he4
            obtain rfl := he4.none_eq
            have ho4 := ok4 hse
            rw [Int.toNat_natCast, Int.toNat_natCast, himg.out] at ho4
            clear he4 ok4
            replace hse := Lib.hid hse
            replace ho4 := Lib.hid ho4
            go_wp2_with fail
            refine (ints_any a4 v1 ys ys _ ho4.out.at (h1.out.below d4)).mono ?_
            rintro e w5 h5
            obtain ⟨rfl, b5⟩ := h5.below
            clear h5
            rw [show decide (ys = ys) = true by simp]
            have z1' := cell_keep b5 z1
            go_wp2_with fail
            refine (ints_any fu v2 zs zs _ (hfr.out.below b5) (h2.out.below (Below.step d4 b5))).mono ?_
            rintro e w6 h6
            obtain ⟨rfl, b6⟩ := h6.below
            clear h6
            rw [show decide (zs = zs) = true by simp]
            go_wp2
            go_meet
            case rel => exact Below.step b4 (Below.step b5 b6)
          · replace he4 := Lib.hid he4
            replace ok4 := Lib.hid ok4
            go_wp2_with fail
            refine (ints_any fu v2 zs zs _ hfr.out (h2.out.below d4)).mono ?_
            rintro e w6 h6
            obtain ⟨rfl, b6⟩ := h6.below
            clear h6
            rw [show decide (zs = zs) = true by simp]
            go_wp2
            go_meet
            case rel => exact Below.step b4 b6
    case rest =>
      as_aux_lemma =>
        have d11 := Below.step d10 hcut
        obtain ⟨⟨z0, z1, z2⟩, -, -, -⟩ := q.below d11
        go_wp2_with fail
        refine (step_any r k R va vn vc T v1 ys _ (hg.out.below d11) (h.out.below d11) (h1.out.below d11)).mono ?_
        rintro e w4 ⟨a4, g4, rfl, b4, he4, ok4, _⟩
        clear z0 z1 z2
        have d4 := Below.step d11 b4
        obtain ⟨⟨z0, z1, z2⟩, -, -, -⟩ := q.below d4
        replace he4 := Lib.hid he4
        replace ok4 := Lib.hid ok4
        go_wp2_with fail
        cases hck : checkP k R T with
        | some t =>
          have hse : stepE k R T ys = some t := by unfold stepE; rw [hck]
          have he4' := he4.out
          rw [hse] at he4'
          obtain ⟨T4, p4, rfl⟩ := ErrIs.some_shape he4'
          refine (sides_bad r k R va vn vc T t _ (hg.out.below d4) (h.out.below d4) hck).mono ?_
          rintro e w5 ⟨_, _, z, rfl, b5, rfl, rfl, he5⟩
          replace he5 := Lib.hid he5
          replace he4' := Lib.hid he4'
          replace hse := Lib.hid hse
          replace hck := Lib.hid hck
          have hBe := Lib.hid (Below.step b0 (Below.step d4 b5))
          clear z0 z1 z2
          go_wp2
          go_ret
          exact ⟨_, rfl, hBe.out, rfl⟩
        | none =>
          obtain ⟨K, Q, rfl, rfl, hr⟩ := checkP_none hck
          refine (sides_ok K Q va vn vc T _ (h.out.below d4) hr).mono ?_
          rintro e w5 ⟨_, _, _, rfl, b5, rfl, rfl, rfl⟩
          have hBe := Lib.hid (Below.step b0 (Below.step d4 b5))
          have d5 := Below.step d4 b5
          replace hck := Lib.hid hck
          clear z0 z1 z2
          obtain ⟨⟨z0, z1, z2⟩, -, -, -⟩ := q.below d5
          obtain ⟨ul, hul⟩ : ∃ ul, unlikeP K T 1 = ul := ⟨_, rfl⟩
          rw [hul]
          generalize unlikeP K T (T.length / K) = uf
          have hR := hr.r3
          cases hse : stepE K Q T ys with
          | some t =>
            have he4' := he4.out
            rw [hse] at he4'
            obtain ⟨T4, p4, rfl⟩ := ErrIs.some_shape he4'
            replace he4' := Lib.hid he4'
            replace hse := Lib.hid hse
            replace hr := Lib.hid hr
            replace hul := Lib.hid hul
            go_wp2
            go_ret
            exact ⟨_, rfl, hBe.out, rfl⟩
          | none =>
            have he4' := he4.out
            rw [hse] at he4'
            obtain rfl := he4'.none_eq
            clear he4'
            have ho4 := ok4.out hse
            rw [Int.toNat_natCast, Int.toNat_natCast] at ho4
            obtain ⟨K', Q', e1, e2, _, hys, hl4⟩ := stepE_none hse
            obtain rfl : K = K' := by omega
            obtain rfl : Q = Q' := by omega
            clear e1 e2
            replace hse := Lib.hid hse
            cases ul with
            | false =>
              replace hr := Lib.hid hr
              replace hul := Lib.hid hul
              replace ho4 := Lib.hid ho4
              replace hys := Lib.hid hys
              go_wp2
              go_ret
              exact ⟨_, rfl, hBe.out, rfl⟩
            | true =>
              by_cases hlen : ys.length < 2 * Q
              · have hle : decide ((ys.length : Int) < 2 * (Q : Int)) = true := by rw [decide_eq_true_iff]; omega
                replace hr := Lib.hid hr
                replace hul := Lib.hid hul
                replace ho4 := Lib.hid ho4
                replace hys := Lib.hid hys
                go_wp2
                go_ret
                exact ⟨_, rfl, hBe.out, rfl⟩
              have hle : decide ((ys.length : Int) < 2 * (Q : Int)) = false := by rw [decide_eq_false_iff_not]; omega
              have htk : Syms K (ys.take (2 * Q)) := fun y hy => hys y (List.mem_of_mem_take hy)
              have htl : (ys.take (2 * Q)).length = 2 * Q := by simp; omega
              have hdr : Syms K (ys.drop (2 * Q)) := fun y hy => hys y (List.mem_of_mem_drop hy)
              have hback := right_back hr hul htk htl (ys.drop (2 * Q)) hdr
              rw [List.take_append_drop] at hback
              replace hback := congrArg (ys.take (2 * Q) ++ ·) hback
              simp only [List.take_append_drop] at hback
              have hpf : permF K Q T 1 (imgP K Q T ys) (ys.take (2 * Q)) = none := by
                have him := imgP_syms (R := Q) (w := ys) hr.k1 hr.syms
                unfold permF
                rw [hr.check]
                simp only [Int.toNat_natCast, hul]
                rw [if_neg (by decide)]
                unfold checkM
                rw [if_neg (by rw [imgP_length]; omega), if_neg (by rw [htl]; simp), if_pos]
                refine Syms.odd fun y hy => ?_
                rcases List.mem_append.1 hy with hy | hy
                · exact him y hy
                · exact htk y hy
              obtain ⟨fu, hfu, hfr⟩ := (h1.out.below d5).front (2 * Q) (by omega)
              rw [show ((2 * Q : Nat) : Int) = 2 * (Q : Int) by omega] at hfu
              have hfW := Lib.hid (show IntsAt w5.drew fu _ from hfr.drew)
              have ho4W := Lib.hid (show IntsAt w5.drew a4 _ from (ho4.at.below b5).drew)
              have dW := Lib.hid (show Below w0.heap.size w0 w5.drew from d5.drew)
              have hS : w5.drew.cell? ⟨w.heap.size, 0, none⟩ = some (.int .i64 K) ∧ w5.drew.cell? ⟨w.heap.size, 1, none⟩ = some (.int .i64 Q) ∧ w5.drew.cell? ⟨w.heap.size, 2, none⟩ = some (.slice va vn vc) := ⟨z0, z1, z2⟩
              replace hback := Lib.hid hback
              replace hpf := Lib.hid hpf
              replace htl := Lib.hid htl
              replace htk := Lib.hid htk
              replace hdr := Lib.hid hdr
              replace hr := Lib.hid hr
              replace hul := Lib.hid hul
              replace ho4 := Lib.hid ho4
              replace hys := Lib.hid hys
              replace hfr := Lib.hid hfr
              go_wp2
              have hwr : IntKind.i64.wrap (2 * (Q : Int)) = 2 * (Q : Int) := wrapK (by omega) (by omega)
              refine wp_region_plan (fun w' => w'.cell? ⟨w.heap.size, 0, none⟩ = some (.int .i64 K) ∧ w'.cell? ⟨w.heap.size, 1, none⟩ = some (.int .i64 Q) ∧ w'.cell? ⟨w.heap.size, 2, none⟩ = some (.slice va vn vc)) 13 [(0, true), (1, true), (2, true), (3, true), (4, true), (5, true), (6, true), (7, false), (8, false), (9, true), (10, true), (11, true), (12, true)] (by kernel_rfl) (by kernel_rfl) ?_
              refine headY (v := ?_) (some 204) rfl rfl (Or.inl ⟨by rfl, ?_⟩) hS ?_
              rotate_left
              · rintro W' ⟨s0, s1, s2⟩; go_simp; try with_reducible rfl
              simp only [Act.put, List.setIfInBounds_toArray, List.set_cons_zero, List.set_cons_succ]
              refine headY (v := ?_) (some 205) rfl rfl (Or.inl ⟨by rfl, ?_⟩) hS ?_
              rotate_left
              · rintro W' ⟨s0, s1, s2⟩; go_simp; try with_reducible rfl
              simp only [Act.put, List.setIfInBounds_toArray, List.set_cons_zero, List.set_cons_succ]
              refine headY (v := ?_) (some 206) rfl rfl (Or.inl ⟨by rfl, ?_⟩) hS ?_
              rotate_left
              · rintro W' ⟨s0, s1, s2⟩; go_simp; try with_reducible rfl
              simp only [Act.put, List.setIfInBounds_toArray, List.set_cons_zero, List.set_cons_succ]
              refine headY (v := ?_) (some 207) rfl rfl (Or.inl ⟨by rfl, ?_⟩) hS ?_
              rotate_left
              · rintro W' ⟨s0, s1, s2⟩; go_simp; try with_reducible rfl
              simp only [Act.put, List.setIfInBounds_toArray, List.set_cons_zero, List.set_cons_succ]
              refine headY (v := ?_) (some 208) rfl rfl (Or.inl ⟨by rfl, ?_⟩) hS ?_
              rotate_left
              · rintro W' ⟨s0, s1, s2⟩; go_simp; try with_reducible rfl
              simp only [Act.put, List.setIfInBounds_toArray, List.set_cons_zero, List.set_cons_succ]
              refine headY (v := ?_) (some 209) rfl rfl (Or.inl ⟨by rfl, ?_⟩) hS ?_
              rotate_left
              · rintro W' ⟨s0, s1, s2⟩; go_simp; try with_reducible rfl
              simp only [Act.put, List.setIfInBounds_toArray, List.set_cons_zero, List.set_cons_succ]
              refine headY (v := ?_) (some 210) rfl rfl (Or.inl ⟨by rfl, ?_⟩) hS ?_
              rotate_left
              · rintro W' ⟨s0, s1, s2⟩; go_simp; try with_reducible rfl
              simp only [Act.put, List.setIfInBounds_toArray, List.set_cons_zero, List.set_cons_succ]
              refine headC rfl (fun KK hK => ?_)
              go_simp
              refine (copy_any fu _ _ hfW.out (by simp; omega)).mono ?_
              rintro e W1 ⟨cx, rfl, c1b, hC⟩
              have hS7 := keep3 c1b hS
              refine hK _ _ hS7 ?_
              clear hK KK
              refine headC rfl (fun KK hK => ?_)
              go_simp
              refine (right_any r K Q va vn vc T a4 cx (imgP K Q T ys) (ys.take (2 * Q)) _ (hg.out.below (Below.step dW.out c1b)) (h.out.below (Below.step dW.out c1b)) (ho4W.out.below c1b) hC.at).mono ?_
              rintro e W2 ⟨zo, ze, rfl, c2b, hze, hzo, _⟩
              rw [hpf.out] at hze
              obtain rfl := hze.none_eq
              have hzO := hzo hpf.out
              rw [Int.toNat_natCast, hback.out] at hzO
              clear hze hzo
              replace hzO := Lib.hid hzO
              have hS8 := keep3 c2b hS7
              refine hK _ _ hS8 ?_
              clear hK KK
              refine headY (v := ?_) (some 203) rfl rfl (Or.inl ⟨by rfl, ?_⟩) hS8 ?_
              rotate_left
              · rintro W' ⟨s0, s1, s2⟩; go_simp; try with_reducible rfl
              simp only [Act.put, List.setIfInBounds_toArray, List.set_cons_zero, List.set_cons_succ]
              refine headY (v := ?_) (some 213) rfl rfl (Or.inl ⟨by rfl, ?_⟩) hS8 ?_
              rotate_left
              · rintro W' ⟨s0, s1, s2⟩; go_simp; try with_reducible rfl
              simp only [Act.put, List.setIfInBounds_toArray, List.set_cons_zero, List.set_cons_succ]
              refine headY (v := ?_) (some 214) rfl rfl (Or.inl ⟨by rfl, ?_⟩) hS8 ?_
              rotate_left
              · rintro W' ⟨s0, s1, s2⟩; go_simp; try with_reducible rfl
              simp only [Act.put, List.setIfInBounds_toArray, List.set_cons_zero, List.set_cons_succ]
              refine headY (v := ?_) (some 25) rfl rfl (Or.inl ⟨by rfl, ?_⟩) hS8 ?_
              rotate_left
              · rintro W' ⟨s0, s1, s2⟩; go_simp; try with_reducible rfl
              simp only [Act.put, List.setIfInBounds_toArray, List.set_cons_zero, List.set_cons_succ]
              refine head0 ?_
              simp only [List.drop_succ_cons, List.drop_zero]
              have hBf := Lib.hid (Below.step dW.out (Below.step c1b c2b))
              clear hS hS7 hS8 hwr
              go_wp2
              refine NoPanic.normal ?_
              go_wp2_with fail
              refine (ints_any zo v1 ys ys _ hzO.out.at (h1.out.below hBf.out)).mono ?_
              rintro e w9 h9
              obtain ⟨rfl, b9⟩ := h9.below
              clear h9
              rw [show decide (ys = ys) = true by simp]
              go_wp2
              go_ret
              exact ⟨_, rfl, Below.step b0 (Below.step hBf.out b9), rfl⟩

theorem permutSolves_v (r : Nat → Addr) (k R : Int) (v : Value) (T : List Int) (v1 v2 : Value) (ys zs : List Int) (w : World) (hg : Glob r w) (h : IntsAt w v T) (h1 : IntsAt w v1 ys) (h2 : IntsAt w v2 zs) (hyl : ys.length ≤ 17592186043904) :
    Calls Tryd.prog 3 #[.agg #[.int .i64 k, .int .i64 R, v], v1, v2] w (Ret1 (fun x _ => x = .bool true) w) := by
  obtain ⟨va, vn, vc, rfl⟩ := h.shape
  exact permutSolves_any r k R va vn vc T v1 v2 ys zs w hg h h1 h2 hyl
end Go.Proofs.YtbpdmpcakenjhaaDoor

namespace Go.Proofs.YtbpdmpcakenjhaaDoor
open Go.ChangeShapes Go.WideShapes Go.ChangeAt Go.RowKit Go.Joins
set_option maxRecDepth 100000

theorem own : ownKnob Tryd.prog.godebug = none := by kernel_rfl
theorem laidOut : laidOutB Tryd.prog = true := by kernel_rfl
theorem cellsInt : Tryd.prog.cellsOf 3 = 1 := by kernel_rfl
theorem uInt : Tryd.prog.underlying 3 = some (.int .i64) := by kernel_rfl
theorem bytesInt : Tryd.prog.bytesOf 3 = 8 := by kernel_rfl

theorem i64_of_wf {n : Int} (h : (Lit.int .i64 n).wf = true) : I64 n := by
  have := bounds_i64 h
  unfold I64
  omega

/-- A []int that came in. -/
theorem open_intsV {H : Type} {enc : TypeId × Value → H} {W : World} {held : Bool} {fuel : Nat} {v : Value} {y : DataW H × List MemPlace}
    (h : DataW.trod enc Tryd.prog W 0 (fun _ => true) held fuel 22 [v] = some y) (hw : ∀ n ∈ y.1.weights Tryd.prog 22, n ≤ reachBytes) :
    ∃ xs, IntsAt W v xs ∧ xs.length ≤ 17592186043904 ∧ ∀ x ∈ xs, I64 x := by
  rcases open_ints uInts uInt cellsInt h with ⟨hcs, _⟩ | ⟨a, len, cap, zs, hcs, _, hl, hm, hz, hx, hcell, hwz⟩
  · simp at hcs
    subst hcs
    exact ⟨[], (OwnI.nil 0 W).at, by simp, by simp⟩
  · simp at hcs
    subst hcs
    simp only [if_true] at hz
    have hzl : (zs.take len).length = len := by simp; omega
    refine ⟨zs.take len, ⟨some a, cap, by rw [hzl], by rw [hzl]; exact hl, hm, (fun e => by cases e), fun i hi => ?_⟩, ?_, fun x hx => i64_of_wf (hwz x (List.mem_of_mem_take hx))⟩
    · have hi' : i < zs.length := by rw [hzl] at hi; omega
      show W.cell? (a.add i) = _
      rw [hcell i hi']
      simp [List.getD, hi']
    · rw [hx] at hw
      have := hw ((lits (H := H) .i64 (zs.take len)).length * 8 + (lits (H := H) .i64 (zs.drop len)).length * 8) (by
        simp only [DataW.weights, uInts, bytesInt, List.mem_cons]
        left; omega)
      simp only [lits, List.length_map, reachBytes] at this
      omega

theorem open_intsT {H : Type} {enc : TypeId × Value → H} {W : World} {held : Bool} {v : Value} {d : DataW H} {p : List MemPlace} {b0 : Nat}
    (hv : Value.okWide Tryd.prog W .any b0 22 v) (h : DataW.Trod enc Tryd.prog W 0 (fun _ => true) held 22 v d p) (hw : ∀ n ∈ d.weights Tryd.prog 22, n ≤ reachBytes) :
    ∃ xs, IntsAt W v xs ∧ xs.length ≤ 17592186043904 ∧ ∀ x ∈ xs, I64 x := by
  obtain ⟨a, l, c, rfl⟩ := okWide_slice uInts hv
  obtain ⟨fuel, hf⟩ := h
  exact open_intsV (y := (d, p)) (by simpa [Value.cells] using hf) hw

theorem weights_each3 {H : Type} {t0 t1 t2 : TypeId} {y0 y1 y2 : DataW H} {n : Nat} (h : n ∈ y2.weights Tryd.prog t2) : n ∈ DataW.weightsEach Tryd.prog [t0, t1, t2] [y0, y1, y2] := by
  simp only [DataW.weightsEach, List.mem_append]
  exact .inr (.inr (.inl h))

/-- A rule that came in. -/
theorem open_ruleV {H : Type} {enc : TypeId × Value → H} {W : World} {held : Bool} {v : Value} {d : DataW H} {p : List MemPlace} {b0 : Nat}
    (hv : Value.okWide Tryd.prog W .any b0 24 v) (h : DataW.Trod enc Tryd.prog W 0 (fun _ => true) held 24 v d p) (hw : ∀ n ∈ d.weights Tryd.prog 24, n ≤ reachBytes) :
    ∃ (k R : Int) (u : Value) (xs : List Int), v = .agg #[.int .i64 k, .int .i64 R, u] ∧ IntsAt W u xs ∧ xs.length ≤ 17592186043904 ∧ (∀ x ∈ xs, I64 x) ∧ I64 k ∧ I64 R := by
  obtain ⟨v0, v1, v2, y0, y1, y2, n, rfl, rfl, rfl, h0, h1, h2⟩ := open_agg3 Tryd.underlying24 (by kernel_rfl) (by kernel_rfl) hv h
  obtain ⟨a, e0, _, wa⟩ := DataW.trod_int uInt h0
  obtain ⟨b, e1, _, wb⟩ := DataW.trod_int uInt h1
  simp at e0 e1
  subst e0 e1
  obtain ⟨xs, hx, hl, hb⟩ := open_intsV h2 fun n hn => hw n (by
    simp only [DataW.weights, Tryd.underlying24]
    exact weights_each3 (t0 := 3) (t1 := 3) (t2 := 22) hn)
  exact ⟨a, b, v2, xs, rfl, hx, hl, hb, i64_of_wf wa, i64_of_wf wb⟩

/-! The package-level errors. -/
theorem star : "*" ++ "errors.errorString" = "*errors.errorString" := by decide
theorem rowES (u : TypeId) (h : Tryd.prog.typeName? 3 u = some "*errors.errorString") : u = 174 :=
  typeName_ptr_named (nm := "errors.errorString") (by rw [star]; kernel_rfl) (by kernel_rfl) (by decide) u (by rw [star]; exact h)
theorem pES : Tryd.prog.underlying 174 = some (.pointer 195) := by kernel_rfl
theorem cES : Tryd.prog.cellsOf 195 = 1 := by kernel_rfl
theorem cStr : Tryd.prog.cellsOf 9 = 1 := by kernel_rfl

def laid12 : List (String × DataW Unit) := [("eden/api.BadRule", Rows.laid_eden_api_BadRule), ("eden/api.BadWord", Rows.laid_eden_api_BadWord), ("eden/api.BadArg", Rows.laid_eden_api_BadArg), ("eden/api.TooBig", Rows.laid_eden_api_TooBig), ("eden/api.NoBudget", Rows.laid_eden_api_NoBudget), ("eden/api.BadText", Rows.laid_eden_api_BadText), ("eden/api.BadPatch", Rows.laid_eden_api_BadPatch), ("eden/api.BadCert", Rows.laid_eden_api_BadCert), ("eden/api.NoInverse", Rows.laid_eden_api_NoInverse), ("eden/api.BadLine", Rows.laid_eden_api_BadLine), ("eden/api.BadState", Rows.laid_eden_api_BadState), ("eden/api.Unknown", Rows.laid_eden_api_Unknown)]

theorem sentinel {n : String} {text : List UInt8} {r : List (String × DataW Unit)} {W : World} {g : Nat}
    (h : laidMet Tryd.prog ((n, .iface "*errors.errorString" (.ptr (.agg [.lit (.string text)]))) :: r) W)
    (hg : Tryd.prog.globalNamed n = some g) (ht : (Tryd.prog.globals[g]?).map (·.type) = some 27) :
    (∃ a : Addr, W.cell? ⟨g, 0, none⟩ = some (.iface 174 (.pointer (some a))) ∧ ∃ s, W.cell? a = some (.string s) ∧ s.data.toList = text) ∧ laidMet Tryd.prog r W := by
  refine ⟨?_, h.tail⟩
  obtain ⟨a, s, hv, hc, hs, _⟩ := laid_sentinel h hg ht Tryd.underlying27 rowES pES Tryd.underlying195 rfl rfl Tryd.underlying9 cES cStr
  exact ⟨a, by simpa using World.var?_cell hg hv 0, s, hc, hs⟩

def txt : Nat → List UInt8
  | 1 => [98, 97, 100, 32, 114, 117, 108, 101]
  | 2 => [98, 97, 100, 32, 119, 111, 114, 100]
  | 3 => [98, 97, 100, 32, 97, 114, 103, 117, 109, 101, 110, 116]
  | 4 => [116, 111, 111, 32, 98, 105, 103]
  | 5 => [110, 111, 32, 98, 117, 100, 103, 101, 116]
  | 6 => [98, 97, 100, 32, 116, 101, 120, 116]
  | 7 => [98, 97, 100, 32, 112, 97, 116, 99, 104]
  | 8 => [98, 97, 100, 32, 99, 101, 114, 116, 105, 102, 105, 99, 97, 116, 101]
  | 9 => [110, 111, 32, 105, 110, 118, 101, 114, 115, 101]
  | 10 => [98, 97, 100, 32, 108, 105, 110, 101]
  | 11 => [98, 97, 100, 32, 115, 116, 97, 116, 101]
  | 99 => [117, 110, 107, 110, 111, 119, 110]
  | _ => []
theorem txt_apart : ∀ m n : Fin 12, 1 ≤ m.val → 1 ≤ n.val → txt m.val = txt n.val → m = n := by decide

theorem glob_of_laid {W : World} (h : laidMet Tryd.prog laid12 W) : ∃ r, Glob r W := by
  obtain ⟨⟨a1, c1, s1, e1, t1⟩, h⟩ := sentinel (text := txt 1) h (g := 0) (by kernel_rfl) (by kernel_rfl)
  obtain ⟨⟨a2, c2, s2, e2, t2⟩, h⟩ := sentinel (text := txt 2) h (g := 1) (by kernel_rfl) (by kernel_rfl)
  obtain ⟨⟨a3, c3, s3, e3, t3⟩, h⟩ := sentinel (text := txt 3) h (g := 2) (by kernel_rfl) (by kernel_rfl)
  obtain ⟨⟨a4, c4, s4, e4, t4⟩, h⟩ := sentinel (text := txt 4) h (g := 3) (by kernel_rfl) (by kernel_rfl)
  obtain ⟨⟨a5, c5, s5, e5, t5⟩, h⟩ := sentinel (text := txt 5) h (g := 4) (by kernel_rfl) (by kernel_rfl)
  obtain ⟨⟨a6, c6, s6, e6, t6⟩, h⟩ := sentinel (text := txt 6) h (g := 5) (by kernel_rfl) (by kernel_rfl)
  obtain ⟨⟨a7, c7, s7, e7, t7⟩, h⟩ := sentinel (text := txt 7) h (g := 6) (by kernel_rfl) (by kernel_rfl)
  obtain ⟨⟨a8, c8, s8, e8, t8⟩, h⟩ := sentinel (text := txt 8) h (g := 7) (by kernel_rfl) (by kernel_rfl)
  obtain ⟨⟨a9, c9, s9, e9, t9⟩, h⟩ := sentinel (text := txt 9) h (g := 8) (by kernel_rfl) (by kernel_rfl)
  obtain ⟨⟨a10, c10, s10, e10, t10⟩, h⟩ := sentinel (text := txt 10) h (g := 9) (by kernel_rfl) (by kernel_rfl)
  obtain ⟨⟨a11, c11, s11, e11, t11⟩, h⟩ := sentinel (text := txt 11) h (g := 10) (by kernel_rfl) (by kernel_rfl)
  obtain ⟨⟨a99, c99, s99, e99, t99⟩, h⟩ := sentinel (text := txt 99) h (g := 11) (by kernel_rfl) (by kernel_rfl)
  clear h
  have key : ∀ n : Nat, (1 ≤ n ∧ n ≤ 11) ∨ n = 99 → ∃ s, W.cell? ((fun n : Nat => match n with | 1 => a1 | 2 => a2 | 3 => a3 | 4 => a4 | 5 => a5 | 6 => a6 | 7 => a7 | 8 => a8 | 9 => a9 | 10 => a10 | 11 => a11 | _ => a99) n) = some (.string s) ∧ s.data.toList = txt n := by
    intro n hn
    have : n = 1 ∨ n = 2 ∨ n = 3 ∨ n = 4 ∨ n = 5 ∨ n = 6 ∨ n = 7 ∨ n = 8 ∨ n = 9 ∨ n = 10 ∨ n = 11 ∨ n = 99 := by omega
    rcases this with rfl | rfl | rfl | rfl | rfl | rfl | rfl | rfl | rfl | rfl | rfl | rfl
    · exact ⟨s1, e1, t1⟩
    · exact ⟨s2, e2, t2⟩
    · exact ⟨s3, e3, t3⟩
    · exact ⟨s4, e4, t4⟩
    · exact ⟨s5, e5, t5⟩
    · exact ⟨s6, e6, t6⟩
    · exact ⟨s7, e7, t7⟩
    · exact ⟨s8, e8, t8⟩
    · exact ⟨s9, e9, t9⟩
    · exact ⟨s10, e10, t10⟩
    · exact ⟨s11, e11, t11⟩
    · exact ⟨s99, e99, t99⟩
  refine ⟨(fun n : Nat => match n with | 1 => a1 | 2 => a2 | 3 => a3 | 4 => a4 | 5 => a5 | 6 => a6 | 7 => a7 | 8 => a8 | 9 => a9 | 10 => a10 | 11 => a11 | _ => a99), c1, c2, c3, c4, c5, c6, c7, c8, c9, c10, c11, c99, (fun n hn => ?_), fun m n hm1 hm2 hn1 hn2 he => ?_⟩
  · obtain ⟨s, hs, _⟩ := key n hn
    exact ⟨s, hs⟩
  · obtain ⟨s, hs, ts⟩ := key m.toNat (by omega)
    obtain ⟨s', hs', ts'⟩ := key n.toNat (by omega)
    have hss : s = s' := by
      have := hs.symm.trans ((congrArg W.cell? he).trans hs')
      simpa using this
    subst hss
    have := txt_apart ⟨m.toNat, by omega⟩ ⟨n.toNat, by omega⟩ (by simp; omega) (by simp; omega) (ts.symm.trans ts')
    have := congrArg Fin.val this
    simp at this
    omega
end Go.Proofs.YtbpdmpcakenjhaaDoor

namespace Go.Proofs.YtbpdmpcakenjhaaDoor
open Go.ChangeShapes Go.WideShapes Go.ChangeAt Go.RowKit Go.Joins
namespace PermutSolvesP

set_option maxRecDepth 100000 in
theorem door_met (os : Os) (args : Array Value) : laidMetH Tryd.prog Rows.permutSolvesRow.laid ((World.doorLaid Tryd.prog 400 os).forCall (fun _ _ => 0) ⟨#[], args, []⟩).memory :=
  laidMetH_of_parts3 (fuel := 8) (laidMet_of_run' 8 (by kernel_rfl) (by kernel_rfl)) (by kernel_rfl) (by kernel_rfl)

set_option maxRecDepth 100000 in
theorem lifted (os : Os) (started : os.Started) (H : Type) (enc : TypeId × Value → H) :
    ReturnsInHanded {} Tryd.checked os 3 .any (fun w args => (Rows.permutSolvesSpec.pre enc Tryd.prog Tryd.f3 [] false w args ∧ laidMetH Tryd.prog Rows.permutSolvesRow.laid w) ∧ sizedMet enc Tryd.prog Tryd.f3 (OpenSpec.ofChange Rows.permutSolvesSpec) false w args)
      (Rows.permutSolvesSpec.post enc Tryd.prog Tryd.f3 false true false false) := by
  refine returnsInHanded_of_change_and (C := Tryd.checked) (X := fun w _ => laidMetH Tryd.prog Rows.permutSolvesRow.laid w) (fun _ _ _ hh h => h.of_heap hh) own started (by kernel_rfl) Tryd.func3
    (ChangeSpec.witness_shaped (enc := enc) (C := Tryd.checked) (os := os) (X := fun w _ => laidMetH Tryd.prog Rows.permutSolvesRow.laid w) false (World.doorLaid Tryd.prog 400 os) #[.agg #[.int .i64 0, .int .i64 0, .slice none 0 0], .slice none 0 0, .slice none 0 0] 8 rfl (World.shaped_of_RefB (by kernel_rfl) (by kernel_rfl)) (by kernel_rfl) (by kernel_rfl) (by kernel_rfl) (door_met os _)) ?_
  intro W base args ds gs before hval0 hW _ hsz hL _
  have hval : ∀ (j : Nat) t v, Tryd.f3.params[j]? = some t → args[j]? = some v → Value.okWide Tryd.prog W .any base t v := hval0
  have hW' := hW
  obtain ⟨p, q, hA0, hV, rfl, hfz, hnd⟩ := hW
  have hA : DataW.TrodAll enc Tryd.prog W 0 (fun _ => true) true Tryd.f3.params.toList args.toList ds p := hA0
  rw [Tryd.params3] at hA hval hsz
  obtain ⟨v0, vs0, d0, ds0, p0, q0, hargs, rfl, rfl, g0, t0⟩ := trodAll_cons hA
  obtain ⟨v1, vs1, d1, ds1, p1, q1, rfl, rfl, rfl, g1, t1⟩ := trodAll_cons t0
  obtain ⟨v2, vs2, d2, ds2, p2, q2, rfl, rfl, rfl, g2, t2⟩ := trodAll_cons t1
  obtain ⟨rfl, rfl, rfl⟩ := trodAll_nil t2
  obtain rfl : args = #[v0, v1, v2] := by cases args; simp_all
  obtain ⟨rfl, rfl⟩ := trodVars_none hV
  have kk0 := g0
  have lt0 : ∀ x ∈ p0, x.block < W.heap.size := by obtain ⟨m, hm⟩ := kk0; exact DataW.trod_lt m _ _ _ hm
  obtain ⟨kr0, rr0, u0, x0, rfl, h0, l0, b0, bk0, br0⟩ := open_ruleV (hval 0 24 v0 rfl rfl) g0 (fun n hn => by
    have := List.all_eq_true.1 hsz n (DataW.weights_mem_each (j := 0) (t := 24) rfl rfl n hn)
    simpa using this)
  have kk1 := g1
  have lt1 : ∀ x ∈ p1, x.block < W.heap.size := by obtain ⟨m, hm⟩ := kk1; exact DataW.trod_lt m _ _ _ hm
  obtain ⟨x1, h1, l1, b1⟩ := open_intsT (hval 1 22 v1 rfl rfl) g1 (fun n hn => by
    have := List.all_eq_true.1 hsz n (DataW.weights_mem_each (j := 1) (t := 22) rfl rfl n hn)
    simpa using this)
  have kk2 := g2
  have lt2 : ∀ x ∈ p2, x.block < W.heap.size := by obtain ⟨m, hm⟩ := kk2; exact DataW.trod_lt m _ _ _ hm
  obtain ⟨x2, h2, l2, b2⟩ := open_intsT (hval 2 22 v2 rfl rfl) g2 (fun n hn => by
    have := List.all_eq_true.1 hsz n (DataW.weights_mem_each (j := 2) (t := 22) rfl rfl n hn)
    simpa using this)
  obtain ⟨r, hg⟩ := glob_of_laid (W := W) (by
    rw [MakeChecks.laidMetH_plain _ _ _ (by kernel_rfl)] at hL
    exact hL)
  clear hA0 hval0
  refine (permutSolves_v r kr0 rr0 u0 x0 v1 v2 x1 x2 W hg h0 h1 h2 l1).mono fun e W' ⟨x, he, bel, hxx⟩ => ?_
  subst he; subst hxx
  exact ⟨_, rfl, _, _, _, [], _, [], hW', trodAll_mk1 (shut_bool Tryd.underlying4 _), (trodAll_cons_mk (Below.trod laidOut (by kernel_rfl) (of_decide_eq_true (by kernel_rfl)) kk0 bel lt0) (trodAll_cons_mk (Below.trod laidOut (by kernel_rfl) (of_decide_eq_true (by kernel_rfl)) kk1 bel lt1) (trodAll_cons_mk (Below.trod laidOut (by kernel_rfl) (of_decide_eq_true (by kernel_rfl)) kk2 bel lt2) trodAll_mk0))), rfl, bel.frame _, fun h => by cases h⟩

theorem over : Rows.PermutSolvesSaid :=
  OpenClaim.holds_of_wide 3 Tryd.f3 rfl rfl rfl rfl rfl rfl rfl ⟨rfl, rfl, rfl, rfl, rfl⟩ rfl rfl rfl rfl rfl (by kernel_rfl) Tryd.func3 (by kernel_rfl)
    (of_decide_eq_true (by kernel_rfl)) (by unfold Func.isWrapper; first | (rw [if_pos (by decide +kernel)]; kernel_rfl) | (rw [if_neg (by decide +kernel)]; exact ⟨rfl, rfl⟩))
    (fun os started H enc _ => lifted os started H enc)

/-- The tied card. -/
theorem card_holds : Rows.PermutSolvesCardSaid :=
  Claim7.holds_tied_plain_at .later [] [.sentinel, .sentinel, .sentinel, .sentinel, .sentinel, .sentinel, .sentinel, .sentinel, .sentinel, .sentinel, .sentinel, .sentinel] true _ true
    over (fun _ h => by cases h) (by kernel_rfl) (fun _ h => by cases h) permutSolves_row_tie rfl ⟨rfl, rfl⟩ (by kernel_rfl) rfl
    (fun f fn hf hfn => by
      obtain rfl : f = 3 := Option.some.inj ((show Tryd.prog.funcNamed Rows.permutSolvesRow.func = some 3 by kernel_rfl).symm.trans hf) |>.symm
      obtain rfl : fn = Tryd.f3 := (Option.some.inj (Tryd.func3.symm.trans hfn)).symm
      exact ⟨by kernel_rfl, fun j t ht => by
        rw [Tryd.params3] at ht
        have hm : t ∈ [24, 22, 22] := by simpa using Array.mem_of_getElem? ht
        have hall : ([24, 22, 22].all fun u => !Tryd.prog.wantsStandIn u) = true := by kernel_rfl
        exact (show Tryd.prog.wantsStandIn t = false by simpa using List.all_eq_true.1 hall t hm)⟩)
    (by kernel_rfl)
end PermutSolvesP
#print axioms PermutSolvesP.card_holds
end Go.Proofs.YtbpdmpcakenjhaaDoor
