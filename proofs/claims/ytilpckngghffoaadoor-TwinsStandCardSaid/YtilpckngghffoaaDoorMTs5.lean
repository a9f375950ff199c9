/-
  Walks: twins.nodes, twins.meet.
  Walk: pairs.Words along a list of vertices.
  Walk: twins.Finite.
  Walk: edenlaw13.awake.
  Walk: edenlaw15.awake; twins.Check at a rule that is none.
-/
import Derived.Test.YtilpckngghffoaaDoorMTs4
namespace Go.Proofs.YtilpckngghffoaaDoor
open Go.RowKit
set_option maxRecDepth 100000

theorem tnodes_any (N : Nat) (w : World) (hN1 : 1 ≤ N) (hN : N ≤ 81) :
    Calls Tryd.prog 32 #[.int .i64 ((N * N : Nat) : Int)] w fun e w' => e = .returned (.int .i64 N) ∧ w = w' := by
  have hM6 : N * N ≤ 6561 := Nat.mul_le_mul hN hN
  obtain ⟨M, hM⟩ : ∃ M, N * N = M := ⟨_, rfl⟩
  rw [hM] at hM6 ⊢
  replace hM := Lib.hid hM
  go_enter Tryd.func32, Tryd.ntmps32
  go_wp2_with fail
  go_loop [3] (fun nv => ∃ k : Nat, k ≤ N ∧ nv = .int .i64 k) (fun nv => N - (intOf nv).toNat)
  case atStart => exact ⟨1, hN1, rfl⟩
  case round =>
    obtain ⟨k, hk, rfl⟩ := hrel
    obtain ⟨kk, hkk⟩ : ∃ z, k * k = z := ⟨_, rfl⟩
    have hkk2 : (k : Int) * (k : Int) = (kk : Int) := by rw [← hkk]; simp
    have hkkM : kk ≤ M := by rw [← hkk, ← hM.out]; exact Nat.mul_le_mul hk hk
    by_cases hlt : kk < M
    · have hkN : k < N := Nat.lt_of_le_of_ne hk (fun e => by have := hM.out; rw [e] at hkk; omega)
      replace hkk := Lib.hid hkk
      go_wp2
      go_round
      case measure => simp [intOf]; omega
      case rel => exact ⟨k + 1, by omega, by go_num⟩
    · have hkN : k = N := by
        apply Classical.byContradiction
        intro e
        have h2 : k * k < N * N := Nat.mul_lt_mul_of_lt_of_lt (by omega) (by omega)
        rw [hkk, hM.out] at h2
        omega
      subst hkN
      replace hkk := Lib.hid hkk
      go_wp2
      go_ret
      exact ⟨rfl, rfl⟩

/-- How long a slice value says it is. -/
def sliceN : Value → Nat
  | .slice _ n _ => n
  | _ => 0
theorem sliceN_of {w : World} {v : Value} {xs : List Int} (h : IntsAt w v xs) : sliceN v = xs.length := by
  obtain ⟨a, cap, rfl, _⟩ := h; rfl
/-- What meet leaves. -/
def MeetPost (w : World) (N : Nat) (adj : Nat → List Nat) (x : Value) (w' : World) : Prop :=
  (∃ ws, MeetIs N adj ws ∧ ApartWay N adj ws ∧ (∀ u, ApartWay N adj u → ws.length ≤ u.length) ∧ ws.length ≤ 20000 ∧ OwnI w.heap.size w' x (castI ws)) ∨ (x = .slice none 0 0 ∧ ∀ u, ¬ ApartWay N adj u)

def diagsTo (N i : Nat) : List Nat := (List.range i).map fun u => u * N + u
theorem diagsTo_succ (N i : Nat) : diagsTo N (i + 1) = diagsTo N i ++ [i * N + i] := by simp [diagsTo, List.range_succ]

set_option maxHeartbeats 4000000 in
theorem meet_any (K N : Nat) (T : List Int) (ga : Option Addr) (gc : Nat) (w : World) (hk4 : K ≤ 4) (hN1 : 1 ≤ N) (hN81 : N ≤ 81) (h : ListsAt w (.slice ga (pairG K N T).length gc) (pairG K N T)) :
    Calls Tryd.prog 14 #[.slice ga (pairG K N T).length gc] w (Ret1 (MeetPost w N (pairL K N T)) w) := by
  have hM6 : N * N ≤ 6561 := Nat.mul_le_mul hN81 hN81
  have hnodes := tnodes_any N w hN1 hN81
  have lg := h.len 3
  have hrow := fun (p : Nat) (hp : p < N * N) => h.row p (by rw [pairG_len]; exact hp)
  have hrow2 : ∀ p, p < N * N → (pairG K N T).getD p [] = castI (pairL K N T p) := fun p hp => pairG_row hp
  rw [pairG_len] at lg h ⊢
  obtain ⟨M, hM⟩ : ∃ M, N * N = M := ⟨_, rfl⟩
  have hMe := hM
  rw [pairG_len] at hrow
  rw [hM] at hnodes hM6 lg h hrow hrow2 ⊢
  have b0 := belowAlloc w (.cells #[.int .i64 (-1)] 3)
  have hI := (OwnI.lit w.heap.size w (Nat.le_refl _) [-1] (by simp [maxLen]) #[.int .i64 (-1)] rfl 1 rfl).at
  have hRep := repeat_any _ (-1) M _ hI (by omega)
  replace hRep := Lib.hid hRep
  replace hI := Lib.hid hI
  replace hnodes := Lib.hid hnodes
  replace hM := Lib.hid hM
  replace hMe := Lib.hid hMe
  replace h := Lib.hid h
  replace hrow := Lib.hid hrow
  replace hrow2 := Lib.hid hrow2
  go_enter Tryd.func14, Tryd.ntmps14
  go_wp2_with fail
  refine hnodes.out.mono ?_
  rintro e w' ⟨rfl, rfl⟩
  go_wp2_with fail
  refine hRep.out.mono ?_
  rintro e w1 ⟨cv, rfl, b1, hcv⟩
  obtain ⟨w0, hw0⟩ : ∃ w0 : World, w0 = w.alloc (.cells #[.int .i64 (-1)] 3) := ⟨_, rfl⟩
  rw [← hw0] at b0 b1 hcv
  rw [← tabI_neg1] at hcv
  clear hRep hI hw0
  have b01 := Below.step b0 b1
  have R1 := (rowsE w.heap.size w0).add (i := (1, 0)) (r' := rowI cv (tabI M fun _ => -1)) b1 (hcv.mono b0.size) (fun k hk => (hcv.lt k hk).1)
  have R2 := R1.add (i := (2, 0)) (r' := rowI (.slice none 0 0) []) (Below.refl _ _) (OwnI.nil _ _) (fun k hk => by cases hk)
  obtain ⟨f0, hf0⟩ : ∃ f0, f0 = upd (upd (fun _ => none) (1, 0) (some (rowI cv (tabI M fun _ => -1)))) (2, 0) (some (rowI (.slice none 0 0) [])) := ⟨_, rfl⟩
  rw [← hf0] at R2
  have hF0 : FN f0 cv (.slice none 0 0) M (fun _ => -1) (diagsTo N 0) := ⟨by rw [hf0, upd_ne _ _ (by simp), upd_same], by rw [hf0, upd_same]; rfl⟩
  obtain ⟨ca, cn, cc, rfl⟩ := hcv.at.shape
  replace R2 := Lib.hid R2
  replace hF0 := Lib.hid hF0
  replace hcv := Lib.hid hcv
  clear R1 hf0
  go_wp2_with fail
  go_loopw [5, 22] (fun qv iv wr => ∃ (i : Nat) (f : Names) (qw : Value), i ≤ N ∧ iv = .int .i64 i ∧ qw = qv ∧ Rows w.heap.size wr f ∧ Below w.heap.size w wr ∧ FN f (.slice ca cn cc) qw M (fun _ => -1) (diagsTo N i)) (fun _ iv _ => N - (intOf iv).toNat)
  case atStart => exact ⟨0, f0, _, by omega, rfl, rfl, R2.out, b01, hF0.out⟩
  case round =>
    clear R2 hF0 hcv
    obtain ⟨i, f1, qv, hi, rfl, rfl, hr1, bI, hF⟩ := hrel
    obtain ⟨wo, rfl⟩ : ∃ wo : World, wo = wr := ⟨_, rfl⟩
    by_cases hil : i < N
    · obtain ⟨m, hm⟩ : ∃ z, i * N = z := ⟨_, rfl⟩
      have hm2 : (i : Int) * (N : Int) = (m : Int) := by rw [← hm]; simp
      have hml : m ≤ 6561 := by rw [← hm]; exact Nat.le_trans (Nat.mul_le_mul (show i ≤ 81 by omega) hN81) (by decide)
      obtain ⟨z, hz⟩ : ∃ z, m + i = z := ⟨_, rfl⟩
      have hz2 : (m : Int) + (i : Int) = (z : Int) := by omega
      have hwm : IntKind.i64.wrap (m : Int) = m := wrapK (by omega) (by omega)
      have hwz : IntKind.i64.wrap (z : Int) = z := wrapK (by omega) (by omega)
      have hds : diagsTo N (i + 1) = diagsTo N i ++ [z] := by rw [diagsTo_succ, hm, hz]
      have hoQ := hr1.ownI hF.queue
      have hB := bI.size
      have hil2 := Lib.hid hil
      have hlq : (castI (diagsTo N i)).length ≤ 81 := by rw [castI_len]; simp [diagsTo]; omega
      replace hr1 := Lib.hid hr1
      replace hF := Lib.hid hF
      replace hm := Lib.hid hm
      replace hz := Lib.hid hz
      replace hds := Lib.hid hds
      go_wp2_with (at_builtin; refine wpl_app1 rfl _ _ rfl w.heap.size qv _ z hoQ rfl rfl (by omega) hB ?_)
      intro qv' w7 ho7 b7 hal7
      obtain ⟨f8, hr8, h8, _⟩ := hF.out.push hr1.out z ho7 hal7
      obtain ⟨q1, q2, q3, rfl⟩ := ho7.at.shape
      replace hr8 := Lib.hid hr8
      replace ho7 := Lib.hid ho7
      clear hal7 hoQ
      go_wp2
      go_roundw
      case measure => have := hil2.out; simp [intOf]; omega
      case rel => exact ⟨i + 1, f8, _, by have := hil2.out; omega, by go_num, rfl, hr8.out, bI.trans b7, by rw [hds.out]; exact h8⟩
    · obtain rfl : i = N := by omega
      have hO0 := MOut.init i (pairL K i T)
      have hC0 := CameOf.init i (pairL K i T)
      have hNz1 : ¬ (i : Int) = 0 := by omega
      have hNz2 : ((i : Int) == 0) = false := by rw [beq_eq_false_iff_ne]; omega
      have hNz3 : ¬ i = 0 := by omega
      replace hr1 := Lib.hid hr1
      replace hF := Lib.hid hF
      replace hO0 := Lib.hid hO0
      replace hC0 := Lib.hid hC0
      go_wp2_with fail
      go_loopw [5, 7] (fun qv iv wr => ∃ (j : Nat) (f : Names) (qw : Value) (came : Nat → Int) (q : List Nat) (D : Nat → Nat), j ≤ q.length ∧ iv = .int .i64 j ∧ qw = qv ∧ Rows w.heap.size wr f ∧ Below w.heap.size w wr ∧ FN f (.slice ca cn cc) qw M came q ∧ MOut i (pairL K i T) D q j ∧ CameOf i (pairL K i T) D q came ∧ stM i (pairL K i T) j = (came, q) ∧ ∀ z, z < j → NoHit i (pairL K i T) z) (fun _ iv _ => M + 1 - (intOf iv).toNat)
      case atStart => exact ⟨0, f1, _, _, _, _, by omega, rfl, rfl, hr1.out, bI, hF.out, hO0.out, hC0.out, rfl, fun z hz => absurd hz (Nat.not_lt_zero _)⟩
      case round =>
        clear hr1 hF hO0 hC0 bI
        obtain ⟨j, f2, qv, came, q, D, hj, rfl, rfl, hr2, b2, hF2, hO, hC, hst, hnh⟩ := hrel
        obtain ⟨wo, rfl⟩ : ∃ wo : World, wo = wr := ⟨_, rfl⟩
        have hqlen : q.length ≤ M := nodup_len M q hO.nodup (fun x hx => by rw [← hM.out]; exact hO.low x hx)
        have hOQ := hr2.ownI hF2.queue
        have lQ := hOQ.at.len
        rw [castI_len] at lQ
        by_cases hjl : j < q.length
        · obtain ⟨v, hv⟩ : ∃ v, q[j]? = some v := ⟨_, List.getElem?_eq_getElem hjl⟩
          have hvM : v < M := by rw [← hM.out]; exact hO.low v (List.mem_of_getElem? hv)
          have iV := fun w' => hOQ.at.idx j (by rw [castI_len]; exact hjl) w'
          have cV := hOQ.at.cellD j (by rw [castI_len]; exact hjl)
          rw [castI_get hv] at cV
          obtain ⟨mv, iR, cR, hMv⟩ := hrow.out v hvM
          rw [hrow2.out v hvM] at hMv
          have cR2 := (b2.cell (World.block_lt_of_cell? _ _ cR)).trans cR
          have lM := hMv.len
          rw [castI_len] at lM
          have hadjl : (pairL K i T v).length ≤ 16 := Nat.le_trans (pairL_len K i T v) (Nat.le_trans (Nat.mul_le_mul hk4 hk4) (by decide))
          obtain ⟨d1, d2, d3, d4, d5, d6⟩ := dm v i (by omega)
          obtain ⟨u1, hu1⟩ : ∃ z, v / i = z := ⟨_, rfl⟩
          obtain ⟨v1, hv1⟩ : ∃ z, v % i = z := ⟨_, rfl⟩
          rw [hu1] at d1 d3 d5
          rw [hv1] at d2 d4 d6
          have hvd : Diag i v ↔ u1 = v1 := by unfold Diag; rw [hu1, hv1]
          have hin := hO.enter hv
          have hjl2 := Lib.hid hjl
          obtain ⟨L, hL⟩ : ∃ L, pairL K i T v = L := ⟨_, rfl⟩
          rw [hL] at hMv lM hadjl
          have hLlow : ∀ t ∈ L, t < M := fun t ht => by
            rw [← hL] at ht
            rw [← hM.out]; exact ((mem_pairL (by omega)).1 ht).lt (by omega)
          generalize valAt qv j = qa at *
          generalize valAt (.slice ga M gc) v = ra at *
          obtain ⟨ap, hap⟩ : ∃ ap : Bool, ap = ((u1 : Int) != (v1 : Int)) := ⟨_, rfl⟩
          have hapd : ap = true ↔ ¬ Diag i v := by rw [hap, bne_iff_ne, hvd]; omega
          have hap2 : ((u1 : Int) != (v1 : Int)) = ap := hap.symm
          have hap3 : (u1 != v1) = ap := by rw [hap]; rw [Bool.eq_iff_iff, bne_iff_ne, bne_iff_ne]; omega
          replace hap := Lib.hid hap
          replace hu1 := Lib.hid hu1
          replace hv1 := Lib.hid hv1
          replace hvd := Lib.hid hvd
          replace hL := Lib.hid hL
          replace hMv := Lib.hid hMv
          replace hin := Lib.hid hin
          replace hr2 := Lib.hid hr2
          replace hF2 := Lib.hid hF2
          replace hO := Lib.hid hO
          replace hC := Lib.hid hC
          replace hOQ := Lib.hid hOQ
          replace hv := Lib.hid hv
          have hstv : (stM i (pairL K i T) j).2[j]? = some v := by rw [hst]; exact hv.out
          replace hstv := Lib.hid hstv
          replace hst := Lib.hid hst
          replace hnh := Lib.hid hnh
          go_upto_region 13 with fail
          refine wp_region_plan (fun _ => True) 7 [(0, true), (1, true), (2, true), (3, true), (4, true), (5, true), (6, true)] (by kernel_rfl) (by kernel_rfl) ?_
          have hS : True := trivial
          refine headY (v := ?_) (some 44) rfl rfl (Or.inl ⟨by rfl, ?_⟩) hS ?_
          rotate_left
          · rintro W' _; go_simp; try with_reducible rfl
          simp only [Act.put, List.setIfInBounds_toArray, List.set_cons_zero, List.set_cons_succ]
          refine headY (v := ?_) (some 45) rfl rfl (Or.inl ⟨by rfl, ?_⟩) hS ?_
          rotate_left
          · rintro W' _; go_simp; try with_reducible rfl
          simp only [Act.put, List.setIfInBounds_toArray, List.set_cons_zero, List.set_cons_succ]
          refine headY (v := ?_) (some 46) rfl rfl (Or.inl ⟨by rfl, ?_⟩) hS ?_
          rotate_left
          · rintro W' _; go_simp; try with_reducible rfl
          simp only [Act.put, List.setIfInBounds_toArray, List.set_cons_zero, List.set_cons_succ]
          refine headY (v := ?_) (some 47) rfl rfl (Or.inl ⟨by rfl, ?_⟩) hS ?_
          rotate_left
          · rintro W' _; go_simp; try with_reducible rfl
          simp only [Act.put, List.setIfInBounds_toArray, List.set_cons_zero, List.set_cons_succ]
          refine headY (v := ?_) (some 48) rfl rfl (Or.inl ⟨by rfl, ?_⟩) hS ?_
          rotate_left
          · rintro W' _; go_simp; try with_reducible rfl
          simp only [Act.put, List.setIfInBounds_toArray, List.set_cons_zero, List.set_cons_succ]
          refine headY (v := ?_) (some 49) rfl rfl (Or.inl ⟨by rfl, ?_⟩) hS ?_
          rotate_left
          · rintro W' _; go_simp; try with_reducible rfl
          simp only [Act.put, List.setIfInBounds_toArray, List.set_cons_zero, List.set_cons_succ]
          refine headY (v := ?_) (some 50) rfl rfl (Or.inl ⟨by rfl, ?_⟩) hS ?_
          rotate_left
          · rintro W' _; go_simp; try with_reducible rfl
          simp only [Act.put, List.setIfInBounds_toArray, List.set_cons_zero, List.set_cons_succ]
          refine head0 ?_
          simp only [List.drop_succ_cons, List.drop_zero]
          clear hS
          go_wp2
          refine NoPanic.normal ?_
          go_wp2_with fail
          clear cV iV cR2 lQ hap2 hap3
          go_loopw [5, 56] (fun qv tv wr => ∃ (k : Nat) (f : Names) (qw : Value) (came : Nat → Int) (q : List Nat) (D : Nat → Nat), k ≤ L.length ∧ tv = .int .i64 k ∧ qw = qv ∧ Rows w.heap.size wr f ∧ Below w.heap.size w wr ∧ FN f (.slice ca cn cc) qw M came q ∧ j < q.length ∧ MIn i (pairL K i T) D q j v (L.take k) ∧ CameOf i (pairL K i T) D q came ∧ rowM i (pairL K i T) v (stM i (pairL K i T) j) k = (came, q)) (fun _ tv _ => L.length - (intOf tv).toNat)
          case atStart => exact ⟨0, f2, _, came, q, D, by omega, rfl, rfl, hr2.out, by first | exact b2 | exact b2.drew, hF2.out, hjl2.out, hin.out, hC.out, hst.out⟩
          case round =>
            clear hr2 hF2 hO hC hOQ hin b2 hqlen hst
            obtain ⟨k, f3, qv, came, q, D, hk, rfl, rfl, hr3, b3, hF3, hjq, hIn, hC, hrm⟩ := hrel
            obtain ⟨wp', rfl⟩ : ∃ wo : World, wo = wr := ⟨_, rfl⟩
            have hqlen : q.length ≤ M := nodup_len M q hIn.nodup (fun x hx => by rw [← hM.out]; exact hIn.low x hx)
            by_cases hkl : k < L.length
            · obtain ⟨t, ht⟩ : ∃ t, L[k]? = some t := ⟨_, List.getElem?_eq_getElem hkl⟩
              have htm : t ∈ pairL K i T v := by rw [hL.out]; exact List.mem_of_getElem? ht
              have htM : t < M := hLlow t (List.mem_of_getElem? ht)
              have hM3 := hMv.out.below b3
              have iT := fun w' => hM3.idx k (by rw [castI_len]; exact hkl) w'
              have cT := hM3.cellD k (by rw [castI_len]; exact hkl)
              rw [castI_get ht] at cT
              have htk : L.take (k + 1) = L.take k ++ [t] := by rw [List.take_add_one, ht]; rfl
              have hrs : rowM i (pairL K i T) v (stM i (pairL K i T) j) (k + 1) = stepM i v (came, q) t := by rw [rowM_succ (t := t) (by rw [hL.out]; exact ht), hrm]
              have hskip : (Diag i t ∨ ¬ came t < 0) → stepM i v (came, q) t = (came, q) := fun e => by
                unfold stepM; rw [if_neg]; rintro ⟨e1, e2⟩; rcases e with e | e
                · exact e1 e
                · exact e e2
              have hpush : ¬ Diag i t → came t < 0 → stepM i v (came, q) t = (updN came t (v : Int), q ++ [t]) := fun e1 e2 => by
                unfold stepM; rw [if_pos ⟨e1, e2⟩]
              replace hrs := Lib.hid hrs
              replace hskip := Lib.hid hskip
              replace hpush := Lib.hid hpush
              replace hrm := Lib.hid hrm
              obtain ⟨e1, e2, e3, e4, e5, e6⟩ := dm t i (by omega)
              obtain ⟨a, ha⟩ : ∃ z, t / i = z := ⟨_, rfl⟩
              obtain ⟨b, hb⟩ : ∃ z, t % i = z := ⟨_, rfl⟩
              have htd : Diag i t ↔ a = b := by unfold Diag; rw [ha, hb]
              rw [ha] at e1 e3 e5
              rw [hb] at e2 e4 e6
              have hOC := hr3.ownI hF3.came
              have iC := fun w' => hOC.at.idx t (by rw [tabI_len]; exact htM) w'
              have cC := hOC.at.cellD t (by rw [tabI_len]; exact htM)
              rw [tabI_get _ _ _ htM] at cC
              have fC := hOC.frz t (by rw [tabI_len]; exact htM)
              have kC := (hOC.toV.blkB t (by rw [List.length_map, tabI_len]; exact htM)).2
              obtain ⟨f8, hr8, h8, hf8⟩ := hF3.set hr3 t htM (v : Int)
              obtain ⟨ct, hct⟩ : ∃ ct, came t = ct := ⟨_, rfl⟩
              rw [hct] at cC
              have hC1 := hC.1 t (by rw [hM.out]; exact htM)
              rw [hct] at hC1
              have hkl2 := Lib.hid hkl
              have hBs := b3.size
              generalize valAt mv k = ta at *
              generalize valAt (.slice ca cn cc) t = tc at *
              replace ha := Lib.hid ha
              replace hb := Lib.hid hb
              replace ht := Lib.hid ht
              replace hM3 := Lib.hid hM3
              replace hOC := Lib.hid hOC
              replace hr3 := Lib.hid hr3
              replace hF3 := Lib.hid hF3
              replace hIn := Lib.hid hIn
              replace hC := Lib.hid hC
              replace hr8 := Lib.hid hr8
              replace h8 := Lib.hid h8
              replace htk := Lib.hid htk
              replace htm := Lib.hid htm
              replace hct := Lib.hid hct
              replace hC1 := Lib.hid hC1
              by_cases hab : a = b
              · have hq : ((a : Int) != (b : Int)) = false := by rw [bne_eq_false_iff_eq]; omega
                have hq2 : ((a : Int) == (b : Int)) = true := by rw [beq_iff_eq]; omega
                have htD := htd.2 hab
                replace htd := Lib.hid htd
                go_upto_region 17 with fail
                refine wp_region_plan (fun _ => True) 14 [(0, true), (1, true), (2, true), (3, true), (4, true), (5, true), (6, true), (7, true), (8, true), (9, true), (10, true), (11, true), (12, true), (13, true)] (by kernel_rfl) (by kernel_rfl) ?_
                have hS : True := trivial
                refine headY (v := ?_) (some 61) rfl rfl (Or.inl ⟨by rfl, ?_⟩) hS ?_
                rotate_left
                · rintro W' _; go_simp; try with_reducible rfl
                simp only [Act.put, List.setIfInBounds_toArray, List.set_cons_zero, List.set_cons_succ]
                refine headY (v := ?_) (some 62) rfl rfl (Or.inl ⟨by rfl, ?_⟩) hS ?_
                rotate_left
                · rintro W' _; go_simp; try with_reducible rfl
                simp only [Act.put, List.setIfInBounds_toArray, List.set_cons_zero, List.set_cons_succ]
                refine headY (v := ?_) (some 63) rfl rfl (Or.inl ⟨by rfl, ?_⟩) hS ?_
                rotate_left
                · rintro W' _; go_simp; try with_reducible rfl
                simp only [Act.put, List.setIfInBounds_toArray, List.set_cons_zero, List.set_cons_succ]
                refine headY (v := ?_) (some 64) rfl rfl (Or.inl ⟨by rfl, ?_⟩) hS ?_
                rotate_left
                · rintro W' _; go_simp; try with_reducible rfl
                simp only [Act.put, List.setIfInBounds_toArray, List.set_cons_zero, List.set_cons_succ]
                refine headY (v := ?_) (some 65) rfl rfl (Or.inl ⟨by rfl, ?_⟩) hS ?_
                rotate_left
                · rintro W' _; go_simp; try with_reducible rfl
                simp only [Act.put, List.setIfInBounds_toArray, List.set_cons_zero, List.set_cons_succ]
                refine headY (v := ?_) (some 66) rfl rfl (Or.inl ⟨by rfl, ?_⟩) hS ?_
                rotate_left
                · rintro W' _; go_simp; try with_reducible rfl
                simp only [Act.put, List.setIfInBounds_toArray, List.set_cons_zero, List.set_cons_succ]
                refine headY (v := ?_) (some 67) rfl rfl (Or.inl ⟨by rfl, ?_⟩) hS ?_
                rotate_left
                · rintro W' _; go_simp; try with_reducible rfl
                simp only [Act.put, List.setIfInBounds_toArray, List.set_cons_zero, List.set_cons_succ]
                refine headY (v := ?_) (some 68) rfl rfl (Or.inl ⟨by rfl, ?_⟩) hS ?_
                rotate_left
                · rintro W' _; go_simp; try with_reducible rfl
                simp only [Act.put, List.setIfInBounds_toArray, List.set_cons_zero, List.set_cons_succ]
                refine headY (v := undef) (some 69) rfl rfl (Or.inr ⟨by rfl, rfl⟩) hS ?_
                simp only [Act.put, List.setIfInBounds_toArray, List.set_cons_zero, List.set_cons_succ]
                refine headY (v := undef) (some 70) rfl rfl (Or.inr ⟨by rfl, rfl⟩) hS ?_
                simp only [Act.put, List.setIfInBounds_toArray, List.set_cons_zero, List.set_cons_succ]
                refine headY (v := undef) (some 71) rfl rfl (Or.inr ⟨by rfl, rfl⟩) hS ?_
                simp only [Act.put, List.setIfInBounds_toArray, List.set_cons_zero, List.set_cons_succ]
                refine headY (v := undef) (some 72) rfl rfl (Or.inr ⟨by rfl, rfl⟩) hS ?_
                simp only [Act.put, List.setIfInBounds_toArray, List.set_cons_zero, List.set_cons_succ]
                refine headY (v := undef) (some 73) rfl rfl (Or.inr ⟨by rfl, rfl⟩) hS ?_
                simp only [Act.put, List.setIfInBounds_toArray, List.set_cons_zero, List.set_cons_succ]
                refine headY (v := ?_) (some 74) rfl rfl (Or.inl ⟨by rfl, ?_⟩) hS ?_
                rotate_left
                · rintro W' _; go_simp; try with_reducible rfl
                simp only [Act.put, List.setIfInBounds_toArray, List.set_cons_zero, List.set_cons_succ]
                refine head0 ?_
                simp only [List.drop_succ_cons, List.drop_zero]
                clear hS
                go_wp2
                refine NoPanic.normal ?_
                go_upto_region 20 with fail
                refine wp_region_plan (fun _ => True) 10 [(0, true), (1, true), (2, true), (3, true), (4, true), (5, true), (6, true), (7, true), (8, true), (9, true)] (by kernel_rfl) (by kernel_rfl) ?_
                have hS : True := trivial
                refine headY (v := ?_) (some 84) rfl rfl (Or.inl ⟨by rfl, ?_⟩) hS ?_
                rotate_left
                · rintro W' _; go_simp; try with_reducible rfl
                simp only [Act.put, List.setIfInBounds_toArray, List.set_cons_zero, List.set_cons_succ]
                refine headY (v := ?_) (some 85) rfl rfl (Or.inl ⟨by rfl, ?_⟩) hS ?_
                rotate_left
                · rintro W' _; go_simp; try with_reducible rfl
                simp only [Act.put, List.setIfInBounds_toArray, List.set_cons_zero, List.set_cons_succ]
                refine headY (v := ?_) (some 86) rfl rfl (Or.inl ⟨by rfl, ?_⟩) hS ?_
                rotate_left
                · rintro W' _; go_simp; try with_reducible rfl
                simp only [Act.put, List.setIfInBounds_toArray, List.set_cons_zero, List.set_cons_succ]
                refine headY (v := ?_) (some 87) rfl rfl (Or.inl ⟨by rfl, ?_⟩) hS ?_
                rotate_left
                · rintro W' _; go_simp; try with_reducible rfl
                simp only [Act.put, List.setIfInBounds_toArray, List.set_cons_zero, List.set_cons_succ]
                refine headY (v := ?_) (some 88) rfl rfl (Or.inl ⟨by rfl, ?_⟩) hS ?_
                rotate_left
                · rintro W' _; go_simp; try with_reducible rfl
                simp only [Act.put, List.setIfInBounds_toArray, List.set_cons_zero, List.set_cons_succ]
                refine headY (v := ?_) (some 89) rfl rfl (Or.inl ⟨by rfl, ?_⟩) hS ?_
                rotate_left
                · rintro W' _; go_simp; try with_reducible rfl
                simp only [Act.put, List.setIfInBounds_toArray, List.set_cons_zero, List.set_cons_succ]
                refine headY (v := ?_) (some 90) rfl rfl (Or.inl ⟨by rfl, ?_⟩) hS ?_
                rotate_left
                · rintro W' _; go_simp; try with_reducible rfl
                simp only [Act.put, List.setIfInBounds_toArray, List.set_cons_zero, List.set_cons_succ]
                refine headY (v := ?_) (some 91) rfl rfl (Or.inl ⟨by rfl, ?_⟩) hS ?_
                rotate_left
                · rintro W' _; go_simp; try with_reducible rfl
                simp only [Act.put, List.setIfInBounds_toArray, List.set_cons_zero, List.set_cons_succ]
                refine headY (v := ?_) (some 92) rfl rfl (Or.inl ⟨by rfl, ?_⟩) hS ?_
                rotate_left
                · rintro W' _; go_simp; try with_reducible rfl
                simp only [Act.put, List.setIfInBounds_toArray, List.set_cons_zero, List.set_cons_succ]
                refine headY (v := ?_) (some 93) rfl rfl (Or.inl ⟨by rfl, ?_⟩) hS ?_
                rotate_left
                · rintro W' _; go_simp; try with_reducible rfl
                simp only [Act.put, List.setIfInBounds_toArray, List.set_cons_zero, List.set_cons_succ]
                refine head0 ?_
                simp only [List.drop_succ_cons, List.drop_zero]
                clear hS
                cases ap with
                | false =>
                  have hvD : Diag i v := by
                    apply Classical.byContradiction
                    intro e
                    have := hapd.2 e
                    cases this
                  have hsk := hIn.out.skip (.inl ⟨htD, hvD⟩)
                  rw [← htk.out] at hsk
                  replace hsk := Lib.hid hsk
                  clear hapd
                  go_wp2
                  refine NoPanic.normal ?_
                  go_wp2
                  go_roundw
                  case measure => have := hkl2.out; simp [intOf]; omega
                  case rel => exact ⟨k + 1, f3, _, came, q, D, by have := hkl2.out; omega, by go_num, rfl, hr3.out.drew.drew, b3.drew.drew, hF3.out, hjq, hsk.out, hC.out, by rw [hrs.out, hskip.out (.inl htD)]⟩
                | true =>
                  have hvD : ¬ Diag i v := hapd.1 rfl
                  obtain ⟨c, hbw, hap1, hap2, hap3⟩ := hIn.out.met hC.out hvD htD (by rw [hM.out]; exact htM) htm.out
                  have hmi : MeetIs i (pairL K i T) (c.reverse ++ [t]) := ⟨j, v, k, t, c, hstv.out, by rw [hL.out]; exact ht.out, htD, hvD, by rw [hrm.out]; exact hbw, rfl, hnh.out, fun z x hz hx hd => (hIn.out.now x (by rw [hL.out] at hx; exact List.mem_of_getElem? (by rw [List.getElem?_take, if_pos hz]; exact hx))).2 hd⟩
                  have hDv : D v ≤ q.length := hIn.out.bnd v (List.mem_of_getElem? hIn.out.at_)
                  have hcl : c.length ≤ 7000 := by
                    have : (c.reverse ++ [t]).length = c.length + 1 := by simp
                    omega
                  have hnx := hbw.next (by rw [hM.out]; exact hvM)
                  have hrc : castI (c.reverse ++ [t]) = (castI (t :: c)).reverse := by rw [← castI_reverse, List.reverse_cons]
                  obtain ⟨c', hc'⟩ := hbw.ne
                  have hc0 : c[0]? = some v := by rw [hc']; rfl
                  have hc1 : 0 < c.length := by rw [hc']; simp
                  obtain ⟨W, hW⟩ : ∃ W : World, W = wp'.drew.drew := ⟨_, rfl⟩
                  have bWp : Below wp'.heap.size wp' W := by rw [hW]; exact (Below.refl _ _).drew.drew
                  have hrW : Rows w.heap.size W f3 := by rw [hW]; exact hr3.out
                  have bW := b3.trans (bWp.mono b3.size)
                  have bl := belowAlloc W (.cells #[.int .i64 t] 3)
                  have hlit := OwnI.lit W.heap.size W (Nat.le_refl _) [(t : Int)] (by simp [maxLen]) #[.int .i64 (t : Int)] rfl 1 rfl
                  replace hnx := Lib.hid hnx
                  replace hbw := Lib.hid hbw
                  replace hrc := Lib.hid hrc
                  replace hap1 := Lib.hid hap1
                  replace hmi := Lib.hid hmi
                  replace hap2 := Lib.hid hap2
                  replace hap3 := Lib.hid hap3
                  replace hc' := Lib.hid hc'
                  replace hc0 := Lib.hid hc0
                  replace hlit := Lib.hid hlit
                  replace hrW := Lib.hid hrW
                  clear hapd iT cT iC cC fC
                  go_wp2
                  refine NoPanic.normal ?_
                  go_upto_region 21 with fail
                  rw [← hW]
                  replace hW := Lib.hid hW
                  go_wp2_with fail
                  go_loopw [12, 13] (fun wv uv wr => ∃ (m : Nat) (ww : Value), m ≤ c.length ∧ ww = wv ∧ ((m < c.length ∧ ∃ y, c[m]? = some y ∧ uv = .int .i64 (y : Nat)) ∨ (m = c.length ∧ uv = .int .i64 (-1))) ∧ OwnI W.heap.size wr ww (castI (t :: c.take m)) ∧ Below W.heap.size W wr) (fun wv _ _ => c.length + 1 - sliceN wv)
                  case atStart => exact ⟨0, _, by omega, rfl, .inl ⟨hc1, v, hc0.out, rfl⟩, hlit.out, bl⟩
                  case round =>
                    obtain ⟨m, ww, hm, rfl, hcase, hoW, bWr⟩ := hrel
                    obtain ⟨wz, rfl⟩ : ∃ wo : World, wo = wr := ⟨_, rfl⟩
                    have hwl : (castI (t :: c.take m)).length = m + 1 := by rw [castI_len, List.length_cons, List.length_take]; omega
                    have hsn : sliceN ww = m + 1 := by rw [sliceN_of hoW.at, hwl]
                    rcases hcase with ⟨hmc, y, hy, rfl⟩ | ⟨hmc, rfl⟩
                    · obtain ⟨hyM, hnext⟩ := hnx.out m y hy
                      rw [hM.out] at hyM
                      have htk2 : castI (t :: c.take m) ++ [(y : Int)] = castI (t :: c.take (m + 1)) := by
                        rw [← castI_snoc, List.take_add_one, hy]; rfl
                      have hBW := bWr.size
                      replace hnext := Lib.hid hnext
                      replace hy := Lib.hid hy
                      replace hsn := Lib.hid hsn
                      replace htk2 := Lib.hid htk2
                      go_wp2_with (at_builtin; go_loud (refine wpl_append1 rfl _ _ rfl W.heap.size ww _ y hoW rfl rfl (by omega) hBW ?_))
                      intro v' w7 ho7 b7 _ _
                      have bW7 := bWr.trans b7
                      have hOC7 := (hrW.out.below bW7).ownI hF3.out.came
                      have iY := fun w' => hOC7.at.idx y (by rw [tabI_len]; exact hyM) w'
                      have cY := hOC7.at.cellD y (by rw [tabI_len]; exact hyM)
                      rw [tabI_get _ _ _ hyM] at cY
                      rw [htk2.out] at ho7
                      have hl7 : (castI (t :: c.take (m + 1))).length = m + 2 := by rw [castI_len, List.length_cons, List.length_take]; omega
                      have hs7 : sliceN v' = m + 2 := by rw [sliceN_of ho7.at, hl7]
                      obtain ⟨va, vn, vc, rfl⟩ := ho7.at.shape
                      generalize valAt (.slice ca cn cc) y = ya at *
                      obtain ⟨z, hz⟩ : ∃ z, came y = z := ⟨_, rfl⟩
                      rw [hz] at cY
                      have hnext2 : (m + 1 < c.length ∧ ∃ x, c[m + 1]? = some x ∧ z = (x : Nat)) ∨ (m + 1 = c.length ∧ z = -1) := by rw [← hz]; exact hnext.out
                      replace ho7 := Lib.hid ho7
                      replace hOC7 := Lib.hid hOC7
                      replace hz := Lib.hid hz
                      replace hs7 := Lib.hid hs7
                      replace hnext2 := Lib.hid hnext2
                      clear hoW
                      go_wp2
                      go_roundw
                      case measure => have := hs7.out; have := hsn.out; omega
                      case rel =>
                        refine ⟨m + 1, _, by omega, rfl, ?_, ho7.out, bW7⟩
                        rcases hnext2.out with ⟨h1, x, h2, h3⟩ | ⟨h1, h2⟩
                        · exact .inl ⟨h1, x, h2, by rw [h3]⟩
                        · exact .inr ⟨h1, by rw [h2]⟩
                    · subst hmc
                      rw [List.take_length] at hoW
                      replace hoW := Lib.hid hoW
                      replace hsn := Lib.hid hsn
                      go_wp2_with fail
                      refine (reverse_own W.heap.size ww _ wz hoW.out (by rw [castI_len, List.length_cons]; omega)).mono ?_
                      rintro e w8 ⟨rfl, ho8, b8⟩
                      rw [← hrc.out] at ho8
                      have bE := bW.trans ((bWr.trans b8).mono bW.size)
                      have ho9 := ho8.mono (B' := w.heap.size) bW.size
                      have hlen9 : (c.reverse ++ [t]).length ≤ 20000 := by simp; omega
                      obtain ⟨va, vn, vc, rfl⟩ := ho8.at.shape
                      replace ho8 := Lib.hid ho8
                      replace ho9 := Lib.hid ho9
                      go_wp2
                      go_ret
                      exact ⟨_, rfl, bE, .inl ⟨_, hmi.out, hap1.out, hap3.out, hlen9, ho9.out⟩⟩
              · have hq : ((a : Int) != (b : Int)) = true := by rw [bne_iff_ne]; omega
                have hq2 : ((a : Int) == (b : Int)) = false := by rw [beq_eq_false_iff_ne]; omega
                have htD : ¬ Diag i t := fun e => hab (htd.1 e)
                replace htd := Lib.hid htd
                by_cases hneg : ct < 0
                · obtain rfl := hC1.out.2 hneg
                  have htq : t ∉ q := (hC1.out.1.1 (by decide)).resolve_left htD
                  have hadd := hIn.out.add (by rw [hM.out]; exact htM) htD htq
                  have hcadd := hC.out.add hIn.out htD htq htm.out
                  rw [← htk.out] at hadd
                  replace hadd := Lib.hid hadd
                  replace hcadd := Lib.hid hcadd
                  replace htq := Lib.hid htq
                  go_upto_region 17 with fail
                  refine wp_region_plan (fun w' => w'.cell? tc = some (.int .i64 (-1))) 14 [(0, true), (1, true), (2, true), (3, true), (4, true), (5, true), (6, true), (7, true), (8, true), (9, true), (10, true), (11, true), (12, true), (13, true)] (by kernel_rfl) (by kernel_rfl) ?_
                  have hS : wp'.drew.cell? tc = some (.int .i64 (-1)) := cC
                  refine headY (v := ?_) (some 61) rfl rfl (Or.inl ⟨by rfl, ?_⟩) hS ?_
                  rotate_left
                  · rintro W' s0; go_simp; try with_reducible rfl
                  simp only [Act.put, List.setIfInBounds_toArray, List.set_cons_zero, List.set_cons_succ]
                  refine headY (v := ?_) (some 62) rfl rfl (Or.inl ⟨by rfl, ?_⟩) hS ?_
                  rotate_left
                  · rintro W' s0; go_simp; try with_reducible rfl
                  simp only [Act.put, List.setIfInBounds_toArray, List.set_cons_zero, List.set_cons_succ]
                  refine headY (v := ?_) (some 63) rfl rfl (Or.inl ⟨by rfl, ?_⟩) hS ?_
                  rotate_left
                  · rintro W' s0; go_simp; try with_reducible rfl
                  simp only [Act.put, List.setIfInBounds_toArray, List.set_cons_zero, List.set_cons_succ]
                  refine headY (v := ?_) (some 64) rfl rfl (Or.inl ⟨by rfl, ?_⟩) hS ?_
                  rotate_left
                  · rintro W' s0; go_simp; try with_reducible rfl
                  simp only [Act.put, List.setIfInBounds_toArray, List.set_cons_zero, List.set_cons_succ]
                  refine headY (v := ?_) (some 65) rfl rfl (Or.inl ⟨by rfl, ?_⟩) hS ?_
                  rotate_left
                  · rintro W' s0; go_simp; try with_reducible rfl
                  simp only [Act.put, List.setIfInBounds_toArray, List.set_cons_zero, List.set_cons_succ]
                  refine headY (v := ?_) (some 66) rfl rfl (Or.inl ⟨by rfl, ?_⟩) hS ?_
                  rotate_left
                  · rintro W' s0; go_simp; try with_reducible rfl
                  simp only [Act.put, List.setIfInBounds_toArray, List.set_cons_zero, List.set_cons_succ]
                  refine headY (v := ?_) (some 67) rfl rfl (Or.inl ⟨by rfl, ?_⟩) hS ?_
                  rotate_left
                  · rintro W' s0; go_simp; try with_reducible rfl
                  simp only [Act.put, List.setIfInBounds_toArray, List.set_cons_zero, List.set_cons_succ]
                  refine headY (v := ?_) (some 68) rfl rfl (Or.inl ⟨by rfl, ?_⟩) hS ?_
                  rotate_left
                  · rintro W' s0; go_simp; try with_reducible rfl
                  simp only [Act.put, List.setIfInBounds_toArray, List.set_cons_zero, List.set_cons_succ]
                  refine headY (v := ?_) (some 69) rfl rfl (Or.inl ⟨by rfl, ?_⟩) hS ?_
                  rotate_left
                  · rintro W' s0; go_simp; try with_reducible rfl
                  simp only [Act.put, List.setIfInBounds_toArray, List.set_cons_zero, List.set_cons_succ]
                  refine headY (v := ?_) (some 70) rfl rfl (Or.inl ⟨by rfl, ?_⟩) hS ?_
                  rotate_left
                  · rintro W' s0; go_simp; try with_reducible rfl
                  simp only [Act.put, List.setIfInBounds_toArray, List.set_cons_zero, List.set_cons_succ]
                  refine headY (v := ?_) (some 71) rfl rfl (Or.inl ⟨by rfl, ?_⟩) hS ?_
                  rotate_left
                  · rintro W' s0; go_simp; try with_reducible rfl
                  simp only [Act.put, List.setIfInBounds_toArray, List.set_cons_zero, List.set_cons_succ]
                  refine headY (v := ?_) (some 72) rfl rfl (Or.inl ⟨by rfl, ?_⟩) hS ?_
                  rotate_left
                  · rintro W' s0; go_simp; try with_reducible rfl
                  simp only [Act.put, List.setIfInBounds_toArray, List.set_cons_zero, List.set_cons_succ]
                  refine headY (v := ?_) (some 73) rfl rfl (Or.inl ⟨by rfl, ?_⟩) hS ?_
                  rotate_left
                  · rintro W' s0; go_simp; try with_reducible rfl
                  simp only [Act.put, List.setIfInBounds_toArray, List.set_cons_zero, List.set_cons_succ]
                  refine headY (v := ?_) (some 74) rfl rfl (Or.inl ⟨by rfl, ?_⟩) hS ?_
                  rotate_left
                  · rintro W' s0; go_simp; try with_reducible rfl
                  simp only [Act.put, List.setIfInBounds_toArray, List.set_cons_zero, List.set_cons_succ]
                  refine head0 ?_
                  simp only [List.drop_succ_cons, List.drop_zero]
                  clear hS
                  have hr8' : Rows w.heap.size ((wp'.setCell tc (.int .i64 (v : Int))).drew) f8 := hr8.out
                  have b8 : Below w.heap.size w ((wp'.setCell tc (.int .i64 (v : Int))).drew) := (b3.setCell kC _).drew
                  obtain ⟨W8, hW8⟩ : ∃ W : World, W = (wp'.setCell tc (.int .i64 (v : Int))).drew := ⟨_, rfl⟩
                  rw [← hW8] at hr8' b8
                  have hoQ8 := hr8'.ownI h8.out.queue
                  have hB8 := b8.size
                  have hlq : (castI q).length ≤ 7000 := by rw [castI_len]; omega
                  replace hr8' := Lib.hid hr8'
                  go_wp2
                  refine NoPanic.normal ?_
                  go_upto_region 19 with fail
                  rw [← hW8]
                  replace hW8 := Lib.hid hW8
                  go_wp2_with (at_builtin; go_loud (refine wpl_app1 rfl _ _ rfl w.heap.size qv _ t hoQ8 rfl rfl (by omega) hB8 ?_))
                  intro qv' w9 ho9 b9 hal9
                  obtain ⟨f9, hr9, h9, _⟩ := h8.out.push hr8'.out t ho9 hal9
                  obtain ⟨q1, q2, q3, rfl⟩ := ho9.at.shape
                  replace hr9 := Lib.hid hr9
                  replace ho9 := Lib.hid ho9
                  clear hal9 hoQ8
                  go_wp2
                  go_roundw
                  case measure => have := hkl2.out; simp [intOf]; omega
                  case rel => exact ⟨k + 1, f9, _, _, _, _, by have := hkl2.out; omega, by go_num, rfl, hr9.out, b8.trans b9, h9, by simp; omega, hadd.out, hcadd.out, by rw [hrs.out, hpush.out htD (by rw [hct.out]; decide)]⟩
                · obtain ⟨pc, rfl⟩ := Int.eq_ofNat_of_zero_le (show 0 ≤ ct by omega)
                  have htq : t ∈ q := by
                    apply Classical.byContradiction
                    intro e
                    exact hneg (hC1.out.1.2 (.inr e))
                  have hsk := hIn.out.skip (.inr ⟨htD, htq⟩)
                  rw [← htk.out] at hsk
                  replace hsk := Lib.hid hsk
                  replace htq := Lib.hid htq
                  go_upto_region 17 with fail
                  refine wp_region_plan (fun w' => w'.cell? tc = some (.int .i64 (pc : Nat))) 14 [(0, true), (1, true), (2, true), (3, true), (4, true), (5, true), (6, true), (7, true), (8, true), (9, true), (10, true), (11, true), (12, true), (13, true)] (by kernel_rfl) (by kernel_rfl) ?_
                  have hS : wp'.drew.cell? tc = some (.int .i64 (pc : Nat)) := cC
                  refine headY (v := ?_) (some 61) rfl rfl (Or.inl ⟨by rfl, ?_⟩) hS ?_
                  rotate_left
                  · rintro W' s0; go_simp; try with_reducible rfl
                  simp only [Act.put, List.setIfInBounds_toArray, List.set_cons_zero, List.set_cons_succ]
                  refine headY (v := ?_) (some 62) rfl rfl (Or.inl ⟨by rfl, ?_⟩) hS ?_
                  rotate_left
                  · rintro W' s0; go_simp; try with_reducible rfl
                  simp only [Act.put, List.setIfInBounds_toArray, List.set_cons_zero, List.set_cons_succ]
                  refine headY (v := ?_) (some 63) rfl rfl (Or.inl ⟨by rfl, ?_⟩) hS ?_
                  rotate_left
                  · rintro W' s0; go_simp; try with_reducible rfl
                  simp only [Act.put, List.setIfInBounds_toArray, List.set_cons_zero, List.set_cons_succ]
                  refine headY (v := ?_) (some 64) rfl rfl (Or.inl ⟨by rfl, ?_⟩) hS ?_
                  rotate_left
                  · rintro W' s0; go_simp; try with_reducible rfl
                  simp only [Act.put, List.setIfInBounds_toArray, List.set_cons_zero, List.set_cons_succ]
                  refine headY (v := ?_) (some 65) rfl rfl (Or.inl ⟨by rfl, ?_⟩) hS ?_
                  rotate_left
                  · rintro W' s0; go_simp; try with_reducible rfl
                  simp only [Act.put, List.setIfInBounds_toArray, List.set_cons_zero, List.set_cons_succ]
                  refine headY (v := ?_) (some 66) rfl rfl (Or.inl ⟨by rfl, ?_⟩) hS ?_
                  rotate_left
                  · rintro W' s0; go_simp; try with_reducible rfl
                  simp only [Act.put, List.setIfInBounds_toArray, List.set_cons_zero, List.set_cons_succ]
                  refine headY (v := ?_) (some 67) rfl rfl (Or.inl ⟨by rfl, ?_⟩) hS ?_
                  rotate_left
                  · rintro W' s0; go_simp; try with_reducible rfl
                  simp only [Act.put, List.setIfInBounds_toArray, List.set_cons_zero, List.set_cons_succ]
                  refine headY (v := ?_) (some 68) rfl rfl (Or.inl ⟨by rfl, ?_⟩) hS ?_
                  rotate_left
                  · rintro W' s0; go_simp; try with_reducible rfl
                  simp only [Act.put, List.setIfInBounds_toArray, List.set_cons_zero, List.set_cons_succ]
                  refine headY (v := ?_) (some 69) rfl rfl (Or.inl ⟨by rfl, ?_⟩) hS ?_
                  rotate_left
                  · rintro W' s0; go_simp; try with_reducible rfl
                  simp only [Act.put, List.setIfInBounds_toArray, List.set_cons_zero, List.set_cons_succ]
                  refine headY (v := ?_) (some 70) rfl rfl (Or.inl ⟨by rfl, ?_⟩) hS ?_
                  rotate_left
                  · rintro W' s0; go_simp; try with_reducible rfl
                  simp only [Act.put, List.setIfInBounds_toArray, List.set_cons_zero, List.set_cons_succ]
                  refine headY (v := ?_) (some 71) rfl rfl (Or.inl ⟨by rfl, ?_⟩) hS ?_
                  rotate_left
                  · rintro W' s0; go_simp; try with_reducible rfl
                  simp only [Act.put, List.setIfInBounds_toArray, List.set_cons_zero, List.set_cons_succ]
                  refine headY (v := ?_) (some 72) rfl rfl (Or.inl ⟨by rfl, ?_⟩) hS ?_
                  rotate_left
                  · rintro W' s0; go_simp; try with_reducible rfl
                  simp only [Act.put, List.setIfInBounds_toArray, List.set_cons_zero, List.set_cons_succ]
                  refine headY (v := ?_) (some 73) rfl rfl (Or.inl ⟨by rfl, ?_⟩) hS ?_
                  rotate_left
                  · rintro W' s0; go_simp; try with_reducible rfl
                  simp only [Act.put, List.setIfInBounds_toArray, List.set_cons_zero, List.set_cons_succ]
                  refine headY (v := ?_) (some 74) rfl rfl (Or.inl ⟨by rfl, ?_⟩) hS ?_
                  rotate_left
                  · rintro W' s0; go_simp; try with_reducible rfl
                  simp only [Act.put, List.setIfInBounds_toArray, List.set_cons_zero, List.set_cons_succ]
                  refine head0 ?_
                  simp only [List.drop_succ_cons, List.drop_zero]
                  clear hS
                  go_wp2
                  refine NoPanic.normal ?_
                  go_upto_region 20 with fail
                  refine wp_region_plan (fun _ => True) 10 [(0, true), (1, true), (2, true), (3, true), (4, true), (5, true), (6, true), (7, true), (8, true), (9, true)] (by kernel_rfl) (by kernel_rfl) ?_
                  have hS : True := trivial
                  refine headY (v := ?_) (some 84) rfl rfl (Or.inl ⟨by rfl, ?_⟩) hS ?_
                  rotate_left
                  · rintro W' _; go_simp; try with_reducible rfl
                  simp only [Act.put, List.setIfInBounds_toArray, List.set_cons_zero, List.set_cons_succ]
                  refine headY (v := ?_) (some 85) rfl rfl (Or.inl ⟨by rfl, ?_⟩) hS ?_
                  rotate_left
                  · rintro W' _; go_simp; try with_reducible rfl
                  simp only [Act.put, List.setIfInBounds_toArray, List.set_cons_zero, List.set_cons_succ]
                  refine headY (v := ?_) (some 86) rfl rfl (Or.inl ⟨by rfl, ?_⟩) hS ?_
                  rotate_left
                  · rintro W' _; go_simp; try with_reducible rfl
                  simp only [Act.put, List.setIfInBounds_toArray, List.set_cons_zero, List.set_cons_succ]
                  refine headY (v := ?_) (some 87) rfl rfl (Or.inl ⟨by rfl, ?_⟩) hS ?_
                  rotate_left
                  · rintro W' _; go_simp; try with_reducible rfl
                  simp only [Act.put, List.setIfInBounds_toArray, List.set_cons_zero, List.set_cons_succ]
                  refine headY (v := ?_) (some 88) rfl rfl (Or.inl ⟨by rfl, ?_⟩) hS ?_
                  rotate_left
                  · rintro W' _; go_simp; try with_reducible rfl
                  simp only [Act.put, List.setIfInBounds_toArray, List.set_cons_zero, List.set_cons_succ]
                  refine headY (v := ?_) (some 89) rfl rfl (Or.inl ⟨by rfl, ?_⟩) hS ?_
                  rotate_left
                  · rintro W' _; go_simp; try with_reducible rfl
                  simp only [Act.put, List.setIfInBounds_toArray, List.set_cons_zero, List.set_cons_succ]
                  refine headY (v := ?_) (some 90) rfl rfl (Or.inl ⟨by rfl, ?_⟩) hS ?_
                  rotate_left
                  · rintro W' _; go_simp; try with_reducible rfl
                  simp only [Act.put, List.setIfInBounds_toArray, List.set_cons_zero, List.set_cons_succ]
                  refine headY (v := ?_) (some 91) rfl rfl (Or.inl ⟨by rfl, ?_⟩) hS ?_
                  rotate_left
                  · rintro W' _; go_simp; try with_reducible rfl
                  simp only [Act.put, List.setIfInBounds_toArray, List.set_cons_zero, List.set_cons_succ]
                  refine headY (v := undef) (some 92) rfl rfl (Or.inr ⟨by rfl, rfl⟩) hS ?_
                  simp only [Act.put, List.setIfInBounds_toArray, List.set_cons_zero, List.set_cons_succ]
                  refine headY (v := ?_) (some 93) rfl rfl (Or.inl ⟨by rfl, ?_⟩) hS ?_
                  rotate_left
                  · rintro W' _; go_simp; try with_reducible rfl
                  simp only [Act.put, List.setIfInBounds_toArray, List.set_cons_zero, List.set_cons_succ]
                  refine head0 ?_
                  simp only [List.drop_succ_cons, List.drop_zero]
                  clear hS
                  go_wp2
                  refine NoPanic.normal ?_
                  go_wp2
                  go_roundw
                  case measure => have := hkl2.out; simp [intOf]; omega
                  case rel => exact ⟨k + 1, f3, _, came, q, D, by have := hkl2.out; omega, by go_num, rfl, hr3.out.drew.drew, b3.drew.drew, hF3.out, hjq, hsk.out, hC.out, by rw [hrs.out, hskip.out (.inr (by rw [hct.out]; omega))]⟩
            · obtain rfl : k = L.length := by omega
              rw [List.take_length] at hIn
              have hout := hIn.leave hL.out.symm
              have hst2 : stM i (pairL K i T) (j + 1) = (came, q) := by rw [stM_succ hstv.out, hL.out, hrm]
              have hnh2 : ∀ z, z < j + 1 → NoHit i (pairL K i T) z := fun z hz => by
                by_cases e : z = j
                · subst e
                  intro v' hv' t ht htD
                  rw [hstv.out] at hv'
                  obtain rfl := Option.some.inj hv'
                  rw [hL.out] at ht
                  exact (hIn.now t ht).2 htD
                · exact hnh.out z (by omega)
              replace hst2 := Lib.hid hst2
              replace hnh2 := Lib.hid hnh2
              replace hout := Lib.hid hout
              replace hIn := Lib.hid hIn
              replace hr3 := Lib.hid hr3
              replace hF3 := Lib.hid hF3
              replace hC := Lib.hid hC
              go_wp2
              go_roundw
              case measure => simp [intOf]; omega
              case rel => exact ⟨j + 1, f3, _, came, q, D, by omega, by go_num, rfl, hr3.out, b3, hF3.out, hout.out, hC.out, hst2.out, hnh2.out⟩
        · obtain rfl : j = q.length := by omega
          have hno := hO.none (Nat.le_refl _)
          replace hno := Lib.hid hno
          replace hr2 := Lib.hid hr2
          replace hF2 := Lib.hid hF2
          replace hO := Lib.hid hO
          replace hC := Lib.hid hC
          replace hOQ := Lib.hid hOQ
          go_wp2
          go_ret
          exact ⟨_, rfl, b2, .inr ⟨rfl, hno.out⟩⟩
end Go.Proofs.YtilpckngghffoaaDoor

namespace Go.Proofs.YtilpckngghffoaaDoor
open Go.RowKit
set_option maxRecDepth 100000

/-- What Words leaves, of a list of vertices. -/
def WordsPost (r : Nat → Addr) (w : World) (K R : Nat) (T : List Int) (ns : List Nat) (x y z : Value) (w' : World) : Prop :=
  (AllFit K (pw K (2 * R)) T ns ∧ z = .nilIface ∧ OwnI w.heap.size w' x (alongW K (2 * R) (· / pw K (2 * R)) ns) ∧ OwnI w.heap.size w' y (alongW K (2 * R) (· % pw K (2 * R)) ns) ∧ (x.ownBlock = none ∨ x.ownBlock ≠ y.ownBlock)) ∨
  (¬ AllFit K (pw K (2 * R)) T ns ∧ x = .slice none 0 0 ∧ y = .slice none 0 0 ∧ ErrIs r w' (fresh sPairs 1 3) z)

set_option maxHeartbeats 4000000 in
theorem pwords_way (r : Nat → Addr) (K R : Nat) (va : Option Addr) (vn vc : Nat) (T : List Int) (u : Value) (ns : List Nat) (w : World) (hg : Glob r w) (h : IntsAt w (.slice va vn vc) T) (hr : RuleOk K R T) (hl : T.length ≤ 256) (hu : IntsAt w u (castI ns)) (hne : ns ≠ []) (hlow : ∀ p ∈ ns, p < pw K (2 * wkR R) * pw K (2 * wkR R)) (hnl : ns.length ≤ 17592186044000) :
    Calls Tryd.prog 15 #[.agg #[.int .i64 K, .int .i64 R, .slice va vn vc], u] w (Ret3 (WordsPost r w K (wkR R) (wkT K R T) ns) w) := by
  have b0 := belowAlloc w (.cells #[.int .i64 K, .int .i64 R, .slice va vn vc] 24)
  have hk1 := hr.k1
  have hk4 := hr.k4
  have hokW := wk_ok hr
  have hlW := wk_small hr hl
  have hRW := wk_pos R
  have hN81 := nodes_le hokW hRW hlW
  obtain ⟨hdiv, hlen⟩ := hokW.half
  have hR3 := hokW.r3
  have hN1 := pw_pos (K := K) (2 * wkR R) hk1
  have hwork := fun (w' : World) (hgl : Glob r w') (hT : IntsAt w' (.slice va vn vc) T) => working_ok r K R va vn vc T w' hgl hT hr hl
  have hNodes := fun (a : Option Addr) (n c : Nat) (w' : World) (hgl : Glob r w') (hT : IntsAt w' (.slice a n c) (wkT K R T)) => over_Nodes r K (wkR R) a n c (wkT K R T) w' hgl hT hokW hlW
  have hEdge := fun (a : Option Addr) (n c u s : Nat) (w' : World) (hgl : Glob r w') (hT : IntsAt w' (.slice a n c) (wkT K R T)) (hu : u < pw K (2 * wkR R)) (hs : s < K) => over_Edge r K (wkR R) a n c (wkT K R T) u s w' hgl hT hokW hlW (by rw [hdiv]; exact hu) hs
  rw [hdiv] at hNodes hEdge
  have hpost := fun (x y z : Value) (w' : World) => @WordsPost r w K (wkR R) (wkT K R T) ns x y z w'
  obtain ⟨m, hm⟩ : ∃ m, 2 * wkR R = m := ⟨_, rfl⟩
  unfold WordsPost
  rw [hm] at hNodes hEdge hlow hN81 hN1 hdiv hlen ⊢
  obtain ⟨N, hN⟩ : ∃ N, pw K m = N := ⟨_, rfl⟩
  rw [hN] at hNodes hEdge hlow hN81 hN1 hdiv hlen ⊢
  generalize wkT K R T = T' at *
  generalize wkR R = R' at *
  clear hpost
  have lu := hu.len
  obtain ⟨up, hup, hupI⟩ := hu.post 1 (by rw [castI_len]; exact List.length_pos_iff.2 hne)
  have lup := hupI.len
  have hcl : (castI ns).length = ns.length := castI_len ns
  have hdl : ((castI ns).drop 1).length = ns.length - 1 := by rw [List.length_drop, castI_len]
  rw [hdl] at lup
  rw [hcl] at lu
  have hnp : 0 < ns.length := List.length_pos_iff.2 hne
  have iU := fun (i : Nat) (hi : i < ns.length) w' => hu.idx i (by rw [castI_len]; exact hi) w'
  have cU := fun (i : Nat) (hi : i < ns.length) => hu.cellD i (by rw [castI_len]; exact hi)
  have iP := fun (i : Nat) (hi : i + 1 < ns.length) w' => hupI.idx i (by rw [hdl]; omega) w'
  have cP := fun (i : Nat) (hi : i + 1 < ns.length) => hupI.cellD i (by rw [hdl]; omega)
  have gU : ∀ i, i < ns.length → (castI ns).getD i 0 = ((ns.getD i 0 : Nat) : Int) := fun i hi => by simp [castI, List.getD, hi]
  have gP : ∀ i, i + 1 < ns.length → ((castI ns).drop 1).getD i 0 = ((ns.getD (i + 1) 0 : Nat) : Int) := fun i hi => by
    rw [List.getD_eq_getElem?_getD, List.getElem?_drop, Nat.add_comm 1 i, ← List.getD_eq_getElem?_getD]; exact gU _ hi
  have cU2 := fun (i : Nat) (hi : i < ns.length) => (cU i hi).trans (by rw [gU i hi])
  have cP2 := fun (i : Nat) (hi : i + 1 < ns.length) => (cP i hi).trans (by rw [gP i hi])
  have hlow2 : ∀ i, i < ns.length → ns.getD i 0 < N * N := fun i hi => by
    simp only [List.getD_eq_getElem?_getD, List.getElem?_eq_getElem hi, Option.getD_some]
    exact hlow _ (List.getElem_mem hi)
  have hM6 : N * N ≤ 6561 := Nat.mul_le_mul hN81 hN81
  have hokway : decide (0 ≤ idxOf (odd1 ((N * N : Nat) : Int)) (castI ns)) = false := by
    rw [decide_eq_false_iff_not, idxOf_neg]
    · omega
    · intro x hx
      obtain ⟨p, hp, rfl⟩ := List.mem_map.1 hx
      have := hlow p hp
      rw [odd1_false]; omega
  have hl0 : ¬ ns.length = 0 := by omega
  have hl1 : ((ns.length : Int) == 0) = false := by rw [beq_eq_false_iff_ne]; omega
  obtain ⟨ua, un, uc, rfl⟩ := hu.shape
  obtain ⟨pa, pn, pc, rfl⟩ := hupI.shape
  replace hwork := Lib.hid hwork
  replace hNodes := Lib.hid hNodes
  replace hEdge := Lib.hid hEdge
  replace hg := Lib.hid (hg.below b0)
  replace h := Lib.hid (h.below b0)
  replace hu := Lib.hid (hu.below b0)
  replace hokW := Lib.hid hokW
  replace hr := Lib.hid hr
  replace hdiv := Lib.hid hdiv
  replace hlen := Lib.hid hlen
  replace hm := Lib.hid hm
  replace hN := Lib.hid hN
  replace iU := Lib.hid iU
  replace iP := Lib.hid iP
  replace cU2 := Lib.hid cU2
  replace cP2 := Lib.hid cP2
  replace hlow2 := Lib.hid hlow2
  replace hlow := Lib.hid hlow
  replace hokway := Lib.hid hokway
  replace hne := Lib.hid hne
  replace hupI := Lib.hid hupI
  clear cU cP gU gP hdl hcl
  go_enter Tryd.func15, Tryd.ntmps15
  go_wp2_with fail
  refine (hwork.out _ hg.out h.out).mono ?_
  rintro e w1 ⟨x, y, rfl, b1, rfl, a, n, c, rfl, hT1⟩
  have ba := belowAlloc w1 (.cells #[.int .i64 K, .int .i64 R', .slice a n c] 24)
  have qw : Box3 (w1.alloc (.cells #[.int .i64 K, .int .i64 R', .slice a n c] 24)) w1.heap.size (.int .i64 K) (.int .i64 R') (.slice a n c) := by simp [Box3, go_sem]
  have b12 := Below.step b1 ba
  have hT2 := hT1.below ba
  replace hT1 := Lib.hid hT1
  replace hT2 := Lib.hid hT2
  replace qw := Lib.hid qw
  go_wp2_with fail
  refine (hNodes.out a n c _ (hg.out.below b12) hT2.out).mono ?_
  rintro e w3 ⟨x, y, rfl, b3, rfl, rfl⟩
  have bb := belowAlloc w3 (.cells #[.int .i64 N] 3)
  have b34 := Below.step b3 bb
  have b14 := Below.step b12 b34
  have cN : (w3.alloc (.cells #[.int .i64 N] 3)).cell? ⟨w3.heap.size, 0, none⟩ = some (.int .i64 N) := by simp [go_sem]
  have hcf := containsFunc_any (.slice ua un uc) (.pointer (some ⟨w3.heap.size, 0, none⟩)) 37 (castI ns) (odd1 ((N * N : Nat) : Int)) _ (hu.out.below b14) eg_words1 (fun x _ => words1_any x w3.heap.size N _ (by omega) cN)
  replace hcf := Lib.hid hcf
  replace cN := Lib.hid cN
  go_wp2_with fail
  refine hcf.out.mono ?_
  rintro e w5 ⟨rfl, hw5⟩
  rw [hokway.out]
  have cN5 := cN.out
  have qw5 := qw.out.below b34
  have hT5 := hT2.out.below b34
  rw [hw5] at b14 cN5 qw5 hT5
  clear hcf cN hw5 bb b34 b3 b12
  have b05 := Below.step b0 b14
  have hg5 := hg.out.below b14
  clear b14
  -- region 8
  obtain ⟨L1, hL1⟩ : ∃ L1, ns.length = L1 + 1 := ⟨ns.length - 1, by omega⟩
  rw [hL1, Nat.add_sub_cancel] at lup
  have hLbig : L1 ≤ 17592186044000 := by omega
  have hup1 : ∀ w', (Instr.slice 22 (.slice ua un uc) (some (.int .i64 1)) none none).run Tryd.prog w' = .ok (.slice pa pn pc) w' := hup
  obtain ⟨p0, hp0⟩ : ∃ p, ns.getD 0 0 = p := ⟨_, rfl⟩
  have hp0l : p0 < N * N := by rw [← hp0]; exact hlow2.out 0 hnp
  have i0 : ∀ w', (Instr.indexAt 22 (.slice ua un uc) (.int .i64 0)).run Tryd.prog w' = .ok (.pointer (some (valAt (.slice ua un uc) 0))) w' := fun w' => iU.out 0 hnp w'
  have c0 := cU2.out 0 hnp
  rw [hp0] at c0
  have c05 := (b05.cell (World.block_lt_of_cell? _ _ c0)).trans c0
  have hN0 : ((N : Int) == 0) = false := by rw [beq_eq_false_iff_ne]; omega
  have hN2 : ¬ (N : Int) = 0 := by omega
  have hN3 : ¬ N = 0 := by omega
  have hK0 : ((K : Int) == 0) = false := by rw [beq_eq_false_iff_ne]; omega
  have hK1 : ¬ (K : Int) = 0 := by omega
  have hK3 : ¬ K = 0 := by omega
  obtain ⟨d1, d2, d3, d4, d5, d6⟩ := dm p0 N (by omega)
  obtain ⟨u0, hu0⟩ : ∃ z, p0 / N = z := ⟨_, rfl⟩
  obtain ⟨v0, hv0⟩ : ∃ z, p0 % N = z := ⟨_, rfl⟩
  rw [hu0] at d1 d3 d5
  rw [hv0] at d2 d4 d6
  have hu0l : u0 < N := by rw [← hu0]; exact div_lt_of hp0l
  have hv0l : v0 < N := by rw [← hv0]; exact Nat.mod_lt _ (by omega)
  clear c0
  generalize valAt (.slice ua un uc) 0 = t0 at *
  replace hL1 := Lib.hid hL1
  replace hp0 := Lib.hid hp0
  replace hu0 := Lib.hid hu0
  replace hv0 := Lib.hid hv0
  replace hT5 := Lib.hid hT5
  replace hg5 := Lib.hid hg5
  go_upto_region 8 with fail
  refine wp_region_plan (fun w' => w'.cell? t0 = some (.int .i64 p0) ∧ w'.cell? ⟨w3.heap.size, 0, none⟩ = some (.int .i64 N)) 15 [(0, true), (1, true), (2, true), (3, true), (4, true), (5, true), (7, true), (8, true), (9, true), (10, true), (11, true), (12, true), (6, false), (13, false), (14, true)] (by kernel_rfl) (by kernel_rfl) ?_
  have hS : w5.drew.cell? t0 = some (.int .i64 p0) ∧ w5.drew.cell? ⟨w3.heap.size, 0, none⟩ = some (.int .i64 N) := ⟨c05, cN5⟩
  refine headY (v := ?_) (some 47) rfl rfl (Or.inl ⟨by rfl, ?_⟩) hS ?_
  rotate_left
  · rintro W' ⟨s0, s1⟩; go_simp; try with_reducible rfl
  simp only [Act.put, List.setIfInBounds_toArray, List.set_cons_zero, List.set_cons_succ]
  refine headY (v := ?_) (some 48) rfl rfl (Or.inl ⟨by rfl, ?_⟩) hS ?_
  rotate_left
  · rintro W' ⟨s0, s1⟩; go_simp; try with_reducible rfl
  simp only [Act.put, List.setIfInBounds_toArray, List.set_cons_zero, List.set_cons_succ]
  refine headY (v := ?_) (some 49) rfl rfl (Or.inl ⟨by rfl, ?_⟩) hS ?_
  rotate_left
  · rintro W' ⟨s0, s1⟩; go_simp; try with_reducible rfl
  simp only [Act.put, List.setIfInBounds_toArray, List.set_cons_zero, List.set_cons_succ]
  refine headY (v := ?_) (some 50) rfl rfl (Or.inl ⟨by rfl, ?_⟩) hS ?_
  rotate_left
  · rintro W' ⟨s0, s1⟩; go_simp; try with_reducible rfl
  simp only [Act.put, List.setIfInBounds_toArray, List.set_cons_zero, List.set_cons_succ]
  refine headY (v := ?_) (some 51) rfl rfl (Or.inl ⟨by rfl, ?_⟩) hS ?_
  rotate_left
  · rintro W' ⟨s0, s1⟩; go_simp; try with_reducible rfl
  simp only [Act.put, List.setIfInBounds_toArray, List.set_cons_zero, List.set_cons_succ]
  refine headY (v := ?_) (some 52) rfl rfl (Or.inl ⟨by rfl, ?_⟩) hS ?_
  rotate_left
  · rintro W' ⟨s0, s1⟩; go_simp; try with_reducible rfl
  simp only [Act.put, List.setIfInBounds_toArray, List.set_cons_zero, List.set_cons_succ]
  refine headY (v := ?_) (some 54) rfl rfl (Or.inl ⟨by rfl, ?_⟩) hS ?_
  rotate_left
  · rintro W' ⟨s0, s1⟩; go_simp; try with_reducible rfl
  simp only [Act.put, List.setIfInBounds_toArray, List.set_cons_zero, List.set_cons_succ]
  refine headY (v := ?_) (some 55) rfl rfl (Or.inl ⟨by rfl, ?_⟩) hS ?_
  rotate_left
  · rintro W' ⟨s0, s1⟩; go_simp; try with_reducible rfl
  simp only [Act.put, List.setIfInBounds_toArray, List.set_cons_zero, List.set_cons_succ]
  refine headY (v := ?_) (some 56) rfl rfl (Or.inl ⟨by rfl, ?_⟩) hS ?_
  rotate_left
  · rintro W' ⟨s0, s1⟩; go_simp; try with_reducible rfl
  simp only [Act.put, List.setIfInBounds_toArray, List.set_cons_zero, List.set_cons_succ]
  refine headY (v := ?_) (some 57) rfl rfl (Or.inl ⟨by rfl, ?_⟩) hS ?_
  rotate_left
  · rintro W' ⟨s0, s1⟩; go_simp; try with_reducible rfl
  simp only [Act.put, List.setIfInBounds_toArray, List.set_cons_zero, List.set_cons_succ]
  refine headY (v := ?_) (some 58) rfl rfl (Or.inl ⟨by rfl, ?_⟩) hS ?_
  rotate_left
  · rintro W' ⟨s0, s1⟩; go_simp; try with_reducible rfl
  simp only [Act.put, List.setIfInBounds_toArray, List.set_cons_zero, List.set_cons_succ]
  refine headY (v := ?_) (some 59) rfl rfl (Or.inl ⟨by rfl, ?_⟩) hS ?_
  rotate_left
  · rintro W' ⟨s0, s1⟩; go_simp; try with_reducible rfl
  simp only [Act.put, List.setIfInBounds_toArray, List.set_cons_zero, List.set_cons_succ]
  refine headC rfl (fun KK hK => ?_)
  go_simp
  refine (words2_any K R' u0 w1.heap.size w5.drew hk1 hk4 hR3 (by omega) qw5.1.1 qw5.1.2.1).mono ?_
  rintro e w6 ⟨av, rfl, b6, ho6⟩
  have hS6 : w6.cell? t0 = some (.int .i64 p0) ∧ w6.cell? ⟨w3.heap.size, 0, none⟩ = some (.int .i64 N) := ⟨(b6.cell (World.block_lt_of_cell? _ _ hS.1)).trans hS.1, cell_keep b6 hS.2⟩
  have qw6 := qw5.below (w' := w6) (Below.trans ((Below.refl _ _).drew) b6)
  refine hK _ _ hS6 ?_
  clear hK KK
  refine headC rfl (fun KK hK => ?_)
  go_simp
  refine (words2_any K R' v0 w1.heap.size w6 hk1 hk4 hR3 (by omega) qw6.1.1 qw6.1.2.1).mono ?_
  rintro e w7 ⟨bv, rfl, b7, ho7⟩
  have hS7 : w7.cell? t0 = some (.int .i64 p0) ∧ w7.cell? ⟨w3.heap.size, 0, none⟩ = some (.int .i64 N) := ⟨(b7.cell (World.block_lt_of_cell? _ _ hS6.1)).trans hS6.1, cell_keep b7 hS6.2⟩
  refine hK _ _ hS7 ?_
  clear hK KK
  refine headY (v := ?_) (some 12) rfl rfl (Or.inl ⟨by rfl, ?_⟩) hS7 ?_
  rotate_left
  · rintro W' ⟨s0, s1⟩; go_simp; try with_reducible rfl
  simp only [Act.put, List.setIfInBounds_toArray, List.set_cons_zero, List.set_cons_succ]
  refine head0 ?_
  simp only [List.drop_succ_cons, List.drop_zero]
  have b56 : Below w5.heap.size w5 w6 := Below.trans ((Below.refl _ _).drew) b6
  have b57 := Below.step b56 b7
  rw [hm.out] at ho6 ho7
  have r1 := (Rows.void w5.heap.size w5).add (i := (1, 0)) (r' := rowI av (digs K m u0)) b56 ho6 (fun k hk => (ho6.lt k hk).1)
  have r2 := r1.add (i := (2, 0)) (r' := rowI bv (digs K m v0)) b7 (ho7.mono b56.size) (fun k hk => (ho7.lt k hk).1)
  obtain ⟨f, hf⟩ : ∃ f, f = upd (upd (fun _ => none) (1, 0) (some (rowI av (digs K m u0)))) (2, 0) (some (rowI bv (digs K m v0))) := ⟨_, rfl⟩
  have hfa : f (1, 0) = some (rowI av (digs K m u0)) := by rw [hf, upd_ne _ _ (by simp), upd_same]
  have hfb : f (2, 0) = some (rowI bv (digs K m v0)) := by rw [hf, upd_same]
  rw [← hf] at r2
  have htk : ns.take 1 = [p0] := by
    cases hns : ns with
    | nil => exact absurd hns hne.out
    | cons a l => have := hp0.out; rw [hns] at this; simp at this; simp [this]
  have ha1 : alongW K m (· / N) (ns.take 1) = digs K m u0 := by rw [htk, alongW_one, hu0.out]
  have hb1 : alongW K m (· % N) (ns.take 1) = digs K m v0 := by rw [htk, alongW_one, hv0.out]
  rw [← ha1] at hfa
  rw [← hb1] at hfb
  clear hS hS6 hS7 ho6 ho7 r1 hf htk ha1 hb1 qw6 i0 c05 d1 d2 d3 d4 d5 d6
  obtain ⟨aa, an, ac, rfl⟩ := (r2.ownI hfa).at.shape
  obtain ⟨ba', bn, bc, rfl⟩ := (r2.ownI hfb).at.shape
  replace r2 := Lib.hid r2
  replace hfa := Lib.hid hfa
  replace hfb := Lib.hid hfb
  replace qw5 := Lib.hid qw5
  replace cN5 := Lib.hid cN5
  go_wp2
  refine NoPanic.normal ?_
  go_wp2_with fail
  clear hup hup1
  go_loopw [12, 13, 64] (fun xa xb jv wr => ∃ (j : Nat) (f : Names) (va' vb' : Value), j ≤ L1 ∧ jv = .int .i64 j ∧ va' = xa ∧ vb' = xb ∧ Rows w5.heap.size wr f ∧ Below w5.heap.size w5 wr ∧ f (1, 0) = some (rowI va' (alongW K m (· / N) (ns.take (j + 1)))) ∧ f (2, 0) = some (rowI vb' (alongW K m (· % N) (ns.take (j + 1)))) ∧ (∀ i, i < j → StepFits K N T' (ns.getD i 0) (ns.getD (i + 1) 0))) (fun _ _ jv _ => L1 - (intOf jv).toNat)
  case atStart => exact ⟨0, f, _, _, by omega, rfl, rfl, rfl, r2.out, b57, hfa.out, hfb.out, fun i hi => by omega⟩
  case round =>
    clear hfa hfb r2 b57 b56 b6 b7
    obtain ⟨j, f2, av, bv, hj, rfl, rfl, rfl, hr, bI, hfa, hfb, hfit⟩ := hrel
    obtain ⟨wo, rfl⟩ : ∃ wo : World, wo = wr := ⟨_, rfl⟩
    have b0o := b05.trans (bI.mono b05.size)
    by_cases hjl : j < L1
    · obtain ⟨p, hp⟩ : ∃ p, ns.getD (j + 1) 0 = p := ⟨_, rfl⟩
      obtain ⟨pj, hpj⟩ : ∃ p, ns.getD j 0 = p := ⟨_, rfl⟩
      have hll := hL1.out
      have hjl2 := Lib.hid hjl
      have hpl : p < N * N := by rw [← hp]; exact hlow2.out (j + 1) (by omega)
      have hpjl : pj < N * N := by rw [← hpj]; exact hlow2.out j (by omega)
      have iJ := fun w' => iP.out j (by omega) w'
      have cJ := cP2.out j (by omega)
      have iI := fun w' => iU.out j (by omega) w'
      have cI := cU2.out j (by omega)
      rw [hp] at cJ
      rw [hpj] at cI
      have cJo := (b0o.cell (World.block_lt_of_cell? _ _ cJ)).trans cJ
      have cIo := (b0o.cell (World.block_lt_of_cell? _ _ cI)).trans cI
      have htk : ns.take (j + 1 + 1) = ns.take (j + 1) ++ [p] := by
        rw [List.take_add_one, List.getElem?_eq_getElem (show j + 1 < ns.length by omega)]
        have : ns[j + 1]'(by omega) = p := by rw [← hp]; simp [List.getD, show j + 1 < ns.length by omega]
        rw [this]; rfl
      have htn : ns.take (j + 1) ≠ [] := by
        intro e
        have := congrArg List.length e
        rw [List.length_take, List.length_nil] at this; omega
      have haS := alongW_snoc K m (· / N) (ns.take (j + 1)) p htn
      have hbS := alongW_snoc K m (· % N) (ns.take (j + 1)) p htn
      rw [← htk] at haS hbS
      obtain ⟨d1, d2, d3, d4, d5, d6⟩ := dm p N (by omega)
      obtain ⟨u1, hu1⟩ : ∃ z, p / N = z := ⟨_, rfl⟩
      obtain ⟨v1, hv1⟩ : ∃ z, p % N = z := ⟨_, rfl⟩
      rw [hu1] at d1 d3 d5 haS
      rw [hv1] at d2 d4 d6 hbS
      have hu1l : u1 < N := by rw [← hu1]; exact div_lt_of hpl
      have hv1l : v1 < N := by rw [← hv1]; exact Nat.mod_lt _ (by omega)
      obtain ⟨g1, g2, g3, g4, g5, g6⟩ := dm pj N (by omega)
      obtain ⟨uj, huj⟩ : ∃ z, pj / N = z := ⟨_, rfl⟩
      obtain ⟨vj, hvj⟩ : ∃ z, pj % N = z := ⟨_, rfl⟩
      rw [huj] at g1 g3 g5
      rw [hvj] at g2 g4 g6
      have hujl : uj < N := by rw [← huj]; exact div_lt_of hpjl
      have hvjl : vj < N := by rw [← hvj]; exact Nat.mod_lt _ (by omega)
      obtain ⟨_, x2, _, x4, _, x6⟩ := dm u1 K (by omega)
      obtain ⟨_, z2, _, z4, _, z6⟩ := dm v1 K (by omega)
      obtain ⟨s, hs⟩ : ∃ z, u1 % K = z := ⟨_, rfl⟩
      obtain ⟨t, ht⟩ : ∃ z, v1 % K = z := ⟨_, rfl⟩
      rw [hs] at x2 x4 x6 haS
      rw [ht] at z2 z4 z6 hbS
      have hsl : s < K := by rw [← hs]; exact Nat.mod_lt _ (by omega)
      have htl : t < K := by rw [← ht]; exact Nat.mod_lt _ (by omega)
      have hstep : StepFits K N T' pj p ↔ toN K N uj s = u1 ∧ toN K N vj t = v1 ∧ labN K T' uj s = labN K T' vj t := by
        unfold StepFits; rw [hu1, hv1, huj, hvj, hs, ht]
      have qwo := qw5.out.below bI
      have cNo := cell_keep bI cN5.out
      clear cJ cI
      generalize valAt (.slice pa pn pc) j = tj at *
      generalize valAt (.slice ua un uc) j = ti at *
      have hoa := hr.ownI hfa
      have hob := hr.ownI hfb
      have hm6 : m ≤ 6 := by have := hm.out; omega
      have hLa : (alongW K m (· / N) (ns.take (j + 1))).length ≤ 17592186044100 := by rw [alongW_len, List.length_take]; omega
      have hLb : (alongW K m (· % N) (ns.take (j + 1))).length ≤ 17592186044100 := by rw [alongW_len, List.length_take]; omega
      replace hp := Lib.hid hp
      replace hpj := Lib.hid hpj
      replace hll := Lib.hid hll
      replace htk := Lib.hid htk
      replace htn := Lib.hid htn
      replace haS := Lib.hid haS
      replace hbS := Lib.hid hbS
      replace hu1 := Lib.hid hu1
      replace hv1 := Lib.hid hv1
      replace huj := Lib.hid huj
      replace hvj := Lib.hid hvj
      replace hs := Lib.hid hs
      replace ht := Lib.hid ht
      replace hstep := Lib.hid hstep
      replace hfit := Lib.hid hfit
      replace hr := Lib.hid hr
      replace hfa := Lib.hid hfa
      replace hfb := Lib.hid hfb
      replace hoa := Lib.hid hoa
      replace hob := Lib.hid hob
      go_upto_region 12 with fail
      refine wp_region_plan (fun w' => w'.cell? ⟨w1.heap.size, 0, none⟩ = some (.int .i64 K) ∧ w'.cell? ⟨w3.heap.size, 0, none⟩ = some (.int .i64 N)) 13 [(0, true), (1, true), (2, true), (3, true), (4, true), (5, true), (6, true), (7, true), (8, true), (9, true), (10, true), (11, true), (12, true)] (by kernel_rfl) (by kernel_rfl) ?_
      have hS : wo.drew.cell? ⟨w1.heap.size, 0, none⟩ = some (.int .i64 K) ∧ wo.drew.cell? ⟨w3.heap.size, 0, none⟩ = some (.int .i64 N) := ⟨qwo.1.1, cNo⟩
      refine headY (v := ?_) (some 69) rfl rfl (Or.inl ⟨by rfl, ?_⟩) hS ?_
      rotate_left
      · rintro W' ⟨s0, s1⟩; go_simp; try with_reducible rfl
      simp only [Act.put, List.setIfInBounds_toArray, List.set_cons_zero, List.set_cons_succ]
      refine headY (v := ?_) (some 70) rfl rfl (Or.inl ⟨by rfl, ?_⟩) hS ?_
      rotate_left
      · rintro W' ⟨s0, s1⟩; go_simp; try with_reducible rfl
      simp only [Act.put, List.setIfInBounds_toArray, List.set_cons_zero, List.set_cons_succ]
      refine headY (v := ?_) (some 71) rfl rfl (Or.inl ⟨by rfl, ?_⟩) hS ?_
      rotate_left
      · rintro W' ⟨s0, s1⟩; go_simp; try with_reducible rfl
      simp only [Act.put, List.setIfInBounds_toArray, List.set_cons_zero, List.set_cons_succ]
      refine headY (v := ?_) (some 72) rfl rfl (Or.inl ⟨by rfl, ?_⟩) hS ?_
      rotate_left
      · rintro W' ⟨s0, s1⟩; go_simp; try with_reducible rfl
      simp only [Act.put, List.setIfInBounds_toArray, List.set_cons_zero, List.set_cons_succ]
      refine headY (v := ?_) (some 73) rfl rfl (Or.inl ⟨by rfl, ?_⟩) hS ?_
      rotate_left
      · rintro W' ⟨s0, s1⟩; go_simp; try with_reducible rfl
      simp only [Act.put, List.setIfInBounds_toArray, List.set_cons_zero, List.set_cons_succ]
      refine headY (v := ?_) (some 74) rfl rfl (Or.inl ⟨by rfl, ?_⟩) hS ?_
      rotate_left
      · rintro W' ⟨s0, s1⟩; go_simp; try with_reducible rfl
      simp only [Act.put, List.setIfInBounds_toArray, List.set_cons_zero, List.set_cons_succ]
      refine headY (v := ?_) (some 75) rfl rfl (Or.inl ⟨by rfl, ?_⟩) hS ?_
      rotate_left
      · rintro W' ⟨s0, s1⟩; go_simp; try with_reducible rfl
      simp only [Act.put, List.setIfInBounds_toArray, List.set_cons_zero, List.set_cons_succ]
      refine headY (v := ?_) (some 76) rfl rfl (Or.inl ⟨by rfl, ?_⟩) hS ?_
      rotate_left
      · rintro W' ⟨s0, s1⟩; go_simp; try with_reducible rfl
      simp only [Act.put, List.setIfInBounds_toArray, List.set_cons_zero, List.set_cons_succ]
      refine headY (v := ?_) (some 77) rfl rfl (Or.inl ⟨by rfl, ?_⟩) hS ?_
      rotate_left
      · rintro W' ⟨s0, s1⟩; go_simp; try with_reducible rfl
      simp only [Act.put, List.setIfInBounds_toArray, List.set_cons_zero, List.set_cons_succ]
      refine headY (v := ?_) (some 78) rfl rfl (Or.inl ⟨by rfl, ?_⟩) hS ?_
      rotate_left
      · rintro W' ⟨s0, s1⟩; go_simp; try with_reducible rfl
      simp only [Act.put, List.setIfInBounds_toArray, List.set_cons_zero, List.set_cons_succ]
      refine headY (v := ?_) (some 79) rfl rfl (Or.inl ⟨by rfl, ?_⟩) hS ?_
      rotate_left
      · rintro W' ⟨s0, s1⟩; go_simp; try with_reducible rfl
      simp only [Act.put, List.setIfInBounds_toArray, List.set_cons_zero, List.set_cons_succ]
      refine headY (v := ?_) (some 80) rfl rfl (Or.inl ⟨by rfl, ?_⟩) hS ?_
      rotate_left
      · rintro W' ⟨s0, s1⟩; go_simp; try with_reducible rfl
      simp only [Act.put, List.setIfInBounds_toArray, List.set_cons_zero, List.set_cons_succ]
      refine headY (v := ?_) (some 16) rfl rfl (Or.inl ⟨by rfl, ?_⟩) hS ?_
      rotate_left
      · rintro W' ⟨s0, s1⟩; go_simp; try with_reducible rfl
      simp only [Act.put, List.setIfInBounds_toArray, List.set_cons_zero, List.set_cons_succ]
      refine head0 ?_
      simp only [List.drop_succ_cons, List.drop_zero]
      clear hS
      go_wp2
      refine NoPanic.normal ?_
      go_upto_region 13 with fail
      refine wp_region_plan (fun w' => w'.cell? ⟨w1.heap.size, 0, none⟩ = some (.int .i64 K) ∧ w'.cell? ⟨w1.heap.size, 1, none⟩ = some (.int .i64 R') ∧ w'.cell? ⟨w1.heap.size, 2, none⟩ = some (.slice a n c) ∧ w'.cell? ⟨w3.heap.size, 0, none⟩ = some (.int .i64 N) ∧ w'.cell? ti = some (.int .i64 pj)) 15 [(0, true), (1, true), (2, true), (3, true), (4, true), (5, true), (6, true), (7, true), (8, false), (9, true), (10, true), (11, true), (12, true), (13, true), (14, true)] (by kernel_rfl) (by kernel_rfl) ?_
      have hS : wo.drew.drew.cell? ⟨w1.heap.size, 0, none⟩ = some (.int .i64 K) ∧ wo.drew.drew.cell? ⟨w1.heap.size, 1, none⟩ = some (.int .i64 R') ∧ wo.drew.drew.cell? ⟨w1.heap.size, 2, none⟩ = some (.slice a n c) ∧ wo.drew.drew.cell? ⟨w3.heap.size, 0, none⟩ = some (.int .i64 N) ∧ wo.drew.drew.cell? ti = some (.int .i64 pj) := ⟨qwo.1.1, qwo.1.2.1, qwo.1.2.2, cNo, cIo⟩
      refine headY (v := ?_) (some 82) rfl rfl (Or.inl ⟨by rfl, ?_⟩) hS ?_
      rotate_left
      · rintro W' ⟨s0, s1, s2, s3, s4⟩; go_simp; try with_reducible rfl
      simp only [Act.put, List.setIfInBounds_toArray, List.set_cons_zero, List.set_cons_succ]
      refine headY (v := ?_) (some 83) rfl rfl (Or.inl ⟨by rfl, ?_⟩) hS ?_
      rotate_left
      · rintro W' ⟨s0, s1, s2, s3, s4⟩; go_simp; try with_reducible rfl
      simp only [Act.put, List.setIfInBounds_toArray, List.set_cons_zero, List.set_cons_succ]
      refine headY (v := ?_) (some 84) rfl rfl (Or.inl ⟨by rfl, ?_⟩) hS ?_
      rotate_left
      · rintro W' ⟨s0, s1, s2, s3, s4⟩; go_simp; try with_reducible rfl
      simp only [Act.put, List.setIfInBounds_toArray, List.set_cons_zero, List.set_cons_succ]
      refine headY (v := ?_) (some 85) rfl rfl (Or.inl ⟨by rfl, ?_⟩) hS ?_
      rotate_left
      · rintro W' ⟨s0, s1, s2, s3, s4⟩; go_simp; try with_reducible rfl
      simp only [Act.put, List.setIfInBounds_toArray, List.set_cons_zero, List.set_cons_succ]
      refine headY (v := ?_) (some 86) rfl rfl (Or.inl ⟨by rfl, ?_⟩) hS ?_
      rotate_left
      · rintro W' ⟨s0, s1, s2, s3, s4⟩; go_simp; try with_reducible rfl
      simp only [Act.put, List.setIfInBounds_toArray, List.set_cons_zero, List.set_cons_succ]
      refine headY (v := ?_) (some 87) rfl rfl (Or.inl ⟨by rfl, ?_⟩) hS ?_
      rotate_left
      · rintro W' ⟨s0, s1, s2, s3, s4⟩; go_simp; try with_reducible rfl
      simp only [Act.put, List.setIfInBounds_toArray, List.set_cons_zero, List.set_cons_succ]
      refine headY (v := ?_) (some 88) rfl rfl (Or.inl ⟨by rfl, ?_⟩) hS ?_
      rotate_left
      · rintro W' ⟨s0, s1, s2, s3, s4⟩; go_simp; try with_reducible rfl
      simp only [Act.put, List.setIfInBounds_toArray, List.set_cons_zero, List.set_cons_succ]
      refine headY (v := ?_) (some 89) rfl rfl (Or.inl ⟨by rfl, ?_⟩) hS ?_
      rotate_left
      · rintro W' ⟨s0, s1, s2, s3, s4⟩; go_simp; try with_reducible rfl
      simp only [Act.put, List.setIfInBounds_toArray, List.set_cons_zero, List.set_cons_succ]
      refine headC rfl (fun KK hK => ?_)
      go_simp
      refine (hEdge.out a n c uj s wo.drew.drew (hg5.out.below bI.drew.drew) (hT5.out.below bI.drew.drew) hujl hsl).mono ?_
      rintro e w6 ⟨x, y, z, rfl, b6, rfl, rfl, rfl⟩
      obtain ⟨X1, hX1⟩ : ∃ X, toN K N uj s = X := ⟨_, rfl⟩
      obtain ⟨O1, hO1⟩ : ∃ X, labN K T' uj s = X := ⟨_, rfl⟩
      rw [hX1, hO1]
      have bo6 : Below wo.heap.size wo w6 := Below.trans ((Below.refl _ _).drew.drew) b6
      have hS6 : w6.cell? ⟨w1.heap.size, 0, none⟩ = some (.int .i64 K) ∧ w6.cell? ⟨w1.heap.size, 1, none⟩ = some (.int .i64 R') ∧ w6.cell? ⟨w1.heap.size, 2, none⟩ = some (.slice a n c) ∧ w6.cell? ⟨w3.heap.size, 0, none⟩ = some (.int .i64 N) ∧ w6.cell? ti = some (.int .i64 pj) := ⟨cell_keep b6 hS.1, cell_keep b6 hS.2.1, cell_keep b6 hS.2.2.1, cell_keep b6 hS.2.2.2.1, (b6.cell (World.block_lt_of_cell? _ _ hS.2.2.2.2)).trans hS.2.2.2.2⟩
      refine hK _ _ hS6 ?_
      clear hK KK
      refine headY (v := ?_) (some 81) rfl rfl (Or.inl ⟨by rfl, ?_⟩) hS6 ?_
      rotate_left
      · rintro W' ⟨s0, s1, s2, s3, s4⟩; go_simp; try with_reducible rfl
      simp only [Act.put, List.setIfInBounds_toArray, List.set_cons_zero, List.set_cons_succ]
      refine headY (v := ?_) (some 91) rfl rfl (Or.inl ⟨by rfl, ?_⟩) hS6 ?_
      rotate_left
      · rintro W' ⟨s0, s1, s2, s3, s4⟩; go_simp; try with_reducible rfl
      simp only [Act.put, List.setIfInBounds_toArray, List.set_cons_zero, List.set_cons_succ]
      refine headY (v := ?_) (some 92) rfl rfl (Or.inl ⟨by rfl, ?_⟩) hS6 ?_
      rotate_left
      · rintro W' ⟨s0, s1, s2, s3, s4⟩; go_simp; try with_reducible rfl
      simp only [Act.put, List.setIfInBounds_toArray, List.set_cons_zero, List.set_cons_succ]
      refine headY (v := ?_) (some 93) rfl rfl (Or.inl ⟨by rfl, ?_⟩) hS6 ?_
      rotate_left
      · rintro W' ⟨s0, s1, s2, s3, s4⟩; go_simp; try with_reducible rfl
      simp only [Act.put, List.setIfInBounds_toArray, List.set_cons_zero, List.set_cons_succ]
      refine headY (v := ?_) (some 18) rfl rfl (Or.inl ⟨by rfl, ?_⟩) hS6 ?_
      rotate_left
      · rintro W' ⟨s0, s1, s2, s3, s4⟩; go_simp; try with_reducible rfl
      simp only [Act.put, List.setIfInBounds_toArray, List.set_cons_zero, List.set_cons_succ]
      refine headY (v := ?_) (some 19) rfl rfl (Or.inl ⟨by rfl, ?_⟩) hS6 ?_
      rotate_left
      · rintro W' ⟨s0, s1, s2, s3, s4⟩; go_simp; try with_reducible rfl
      simp only [Act.put, List.setIfInBounds_toArray, List.set_cons_zero, List.set_cons_succ]
      refine head0 ?_
      simp only [List.drop_succ_cons, List.drop_zero]
      have bI6 := bI.trans (bo6.mono bI.size)
      have hS6' := Lib.hid hS6
      clear hS hS6
      go_wp2
      refine NoPanic.normal ?_
      go_upto_region 14 with fail
      refine wp_region_plan (fun w' => w'.cell? ⟨w1.heap.size, 0, none⟩ = some (.int .i64 K) ∧ w'.cell? ⟨w1.heap.size, 1, none⟩ = some (.int .i64 R') ∧ w'.cell? ⟨w1.heap.size, 2, none⟩ = some (.slice a n c) ∧ w'.cell? ⟨w3.heap.size, 0, none⟩ = some (.int .i64 N) ∧ w'.cell? ti = some (.int .i64 pj)) 15 [(0, true), (1, true), (2, true), (3, true), (4, true), (5, true), (6, true), (7, true), (8, false), (9, true), (10, true), (11, true), (12, true), (13, true), (14, true)] (by kernel_rfl) (by kernel_rfl) ?_
      have hS : w6.drew.cell? ⟨w1.heap.size, 0, none⟩ = some (.int .i64 K) ∧ w6.drew.cell? ⟨w1.heap.size, 1, none⟩ = some (.int .i64 R') ∧ w6.drew.cell? ⟨w1.heap.size, 2, none⟩ = some (.slice a n c) ∧ w6.drew.cell? ⟨w3.heap.size, 0, none⟩ = some (.int .i64 N) ∧ w6.drew.cell? ti = some (.int .i64 pj) := hS6'.out
      refine headY (v := ?_) (some 95) rfl rfl (Or.inl ⟨by rfl, ?_⟩) hS ?_
      rotate_left
      · rintro W' ⟨s0, s1, s2, s3, s4⟩; go_simp; try with_reducible rfl
      simp only [Act.put, List.setIfInBounds_toArray, List.set_cons_zero, List.set_cons_succ]
      refine headY (v := ?_) (some 96) rfl rfl (Or.inl ⟨by rfl, ?_⟩) hS ?_
      rotate_left
      · rintro W' ⟨s0, s1, s2, s3, s4⟩; go_simp; try with_reducible rfl
      simp only [Act.put, List.setIfInBounds_toArray, List.set_cons_zero, List.set_cons_succ]
      refine headY (v := ?_) (some 97) rfl rfl (Or.inl ⟨by rfl, ?_⟩) hS ?_
      rotate_left
      · rintro W' ⟨s0, s1, s2, s3, s4⟩; go_simp; try with_reducible rfl
      simp only [Act.put, List.setIfInBounds_toArray, List.set_cons_zero, List.set_cons_succ]
      refine headY (v := ?_) (some 98) rfl rfl (Or.inl ⟨by rfl, ?_⟩) hS ?_
      rotate_left
      · rintro W' ⟨s0, s1, s2, s3, s4⟩; go_simp; try with_reducible rfl
      simp only [Act.put, List.setIfInBounds_toArray, List.set_cons_zero, List.set_cons_succ]
      refine headY (v := ?_) (some 99) rfl rfl (Or.inl ⟨by rfl, ?_⟩) hS ?_
      rotate_left
      · rintro W' ⟨s0, s1, s2, s3, s4⟩; go_simp; try with_reducible rfl
      simp only [Act.put, List.setIfInBounds_toArray, List.set_cons_zero, List.set_cons_succ]
      refine headY (v := ?_) (some 100) rfl rfl (Or.inl ⟨by rfl, ?_⟩) hS ?_
      rotate_left
      · rintro W' ⟨s0, s1, s2, s3, s4⟩; go_simp; try with_reducible rfl
      simp only [Act.put, List.setIfInBounds_toArray, List.set_cons_zero, List.set_cons_succ]
      refine headY (v := ?_) (some 101) rfl rfl (Or.inl ⟨by rfl, ?_⟩) hS ?_
      rotate_left
      · rintro W' ⟨s0, s1, s2, s3, s4⟩; go_simp; try with_reducible rfl
      simp only [Act.put, List.setIfInBounds_toArray, List.set_cons_zero, List.set_cons_succ]
      refine headY (v := ?_) (some 102) rfl rfl (Or.inl ⟨by rfl, ?_⟩) hS ?_
      rotate_left
      · rintro W' ⟨s0, s1, s2, s3, s4⟩; go_simp; try with_reducible rfl
      simp only [Act.put, List.setIfInBounds_toArray, List.set_cons_zero, List.set_cons_succ]
      refine headC rfl (fun KK hK => ?_)
      go_simp
      refine (hEdge.out a n c vj t w6.drew (hg5.out.below bI6.drew) (hT5.out.below bI6.drew) hvjl htl).mono ?_
      rintro e w7 ⟨x, y, z, rfl, b7, rfl, rfl, rfl⟩
      obtain ⟨X2, hX2⟩ : ∃ X, toN K N vj t = X := ⟨_, rfl⟩
      obtain ⟨O2, hO2⟩ : ∃ X, labN K T' vj t = X := ⟨_, rfl⟩
      rw [hX2, hO2]
      have b67 : Below w6.heap.size w6 w7 := Below.trans ((Below.refl _ _).drew) b7
      have bo7 := Below.step bo6 b67
      have bI7 := bI.trans (bo7.mono bI.size)
      have hS7 : w7.cell? ⟨w1.heap.size, 0, none⟩ = some (.int .i64 K) ∧ w7.cell? ⟨w1.heap.size, 1, none⟩ = some (.int .i64 R') ∧ w7.cell? ⟨w1.heap.size, 2, none⟩ = some (.slice a n c) ∧ w7.cell? ⟨w3.heap.size, 0, none⟩ = some (.int .i64 N) ∧ w7.cell? ti = some (.int .i64 pj) := ⟨cell_keep b7 hS.1, cell_keep b7 hS.2.1, cell_keep b7 hS.2.2.1, cell_keep b7 hS.2.2.2.1, (b7.cell (World.block_lt_of_cell? _ _ hS.2.2.2.2)).trans hS.2.2.2.2⟩
      refine hK _ _ hS7 ?_
      clear hK KK
      refine headY (v := ?_) (some 94) rfl rfl (Or.inl ⟨by rfl, ?_⟩) hS7 ?_
      rotate_left
      · rintro W' ⟨s0, s1, s2, s3, s4⟩; go_simp; try with_reducible rfl
      simp only [Act.put, List.setIfInBounds_toArray, List.set_cons_zero, List.set_cons_succ]
      refine headY (v := ?_) (some 104) rfl rfl (Or.inl ⟨by rfl, ?_⟩) hS7 ?_
      rotate_left
      · rintro W' ⟨s0, s1, s2, s3, s4⟩; go_simp; try with_reducible rfl
      simp only [Act.put, List.setIfInBounds_toArray, List.set_cons_zero, List.set_cons_succ]
      refine headY (v := ?_) (some 105) rfl rfl (Or.inl ⟨by rfl, ?_⟩) hS7 ?_
      rotate_left
      · rintro W' ⟨s0, s1, s2, s3, s4⟩; go_simp; try with_reducible rfl
      simp only [Act.put, List.setIfInBounds_toArray, List.set_cons_zero, List.set_cons_succ]
      refine headY (v := ?_) (some 106) rfl rfl (Or.inl ⟨by rfl, ?_⟩) hS7 ?_
      rotate_left
      · rintro W' ⟨s0, s1, s2, s3, s4⟩; go_simp; try with_reducible rfl
      simp only [Act.put, List.setIfInBounds_toArray, List.set_cons_zero, List.set_cons_succ]
      refine headY (v := ?_) (some 21) rfl rfl (Or.inl ⟨by rfl, ?_⟩) hS7 ?_
      rotate_left
      · rintro W' ⟨s0, s1, s2, s3, s4⟩; go_simp; try with_reducible rfl
      simp only [Act.put, List.setIfInBounds_toArray, List.set_cons_zero, List.set_cons_succ]
      refine headY (v := ?_) (some 22) rfl rfl (Or.inl ⟨by rfl, ?_⟩) hS7 ?_
      rotate_left
      · rintro W' ⟨s0, s1, s2, s3, s4⟩; go_simp; try with_reducible rfl
      simp only [Act.put, List.setIfInBounds_toArray, List.set_cons_zero, List.set_cons_succ]
      refine head0 ?_
      simp only [List.drop_succ_cons, List.drop_zero]
      obtain ⟨k0, k1, k2, k3, k4⟩ := hS7
      clear hS hS6' cIo cJo k0 k1 k2 k4 cNo
      rw [hX1, hO1, hX2, hO2] at hstep
      replace hX1 := Lib.hid hX1
      replace hX2 := Lib.hid hX2
      replace hO1 := Lib.hid hO1
      replace hO2 := Lib.hid hO2
      go_wp2
      refine NoPanic.normal ?_
      by_cases e1 : X1 = u1
      · have q1 : ((X1 : Int) != (u1 : Int)) = false := by rw [bne_eq_false_iff_eq]; omega
        by_cases e2 : X2 = v1
        · have q2 : ((X2 : Int) != (v1 : Int)) = false := by rw [bne_eq_false_iff_eq]; omega
          by_cases e3 : O1 = O2
          · have q3 : (O1 != O2) = false := by rw [bne_eq_false_iff_eq]; exact e3
            have hnow := hstep.out.2 ⟨e1, e2, e3⟩
            have hr7 := hr.out.below bo7
            have hoa7 := hoa.out.below bo7
            have hB7 := bI7.size
            replace e1 := Lib.hid e1
            replace e2 := Lib.hid e2
            replace e3 := Lib.hid e3
            replace hr7 := Lib.hid hr7
            go_wp2_with (at_builtin; go_loud (refine wpl_append1 rfl _ _ rfl w5.heap.size av _ s hoa7 rfl rfl (by omega) hB7 ?_))
            intro av2 w8 ho8 b8 hgr8 hal8
            have hr8 := hr7.out.push hfa.out (s : Int) ho8 hgr8 hal8
            have hfb8 : upd f2 (1, 0) (some (rowI av2 (alongW K m (· / N) (ns.take (j + 1)) ++ [(s : Int)]))) (2, 0) = some (rowI bv (alongW K m (· % N) (ns.take (j + 1)))) := by rw [upd_ne _ _ (by simp)]; exact hfb.out
            have hob8 := hr8.ownI hfb8
            have hB8 : w5.heap.size ≤ w8.heap.size := Nat.le_trans hB7 b8.size
            obtain ⟨a2a, a2n, a2c, rfl⟩ := ho8.at.shape
            replace hr8 := Lib.hid hr8
            replace ho8 := Lib.hid ho8
            clear hgr8 hal8 hoa7
            go_wp2_with (at_builtin; go_loud (refine wpl_append1 rfl _ _ rfl w5.heap.size bv _ t hob8 rfl rfl (by omega) hB8 ?_))
            intro bv2 w9 ho9 b9 hgr9 hal9
            have hr9 := hr8.out.push hfb8 (t : Int) ho9 hgr9 hal9
            obtain ⟨b2a, b2n, b2c, rfl⟩ := ho9.at.shape
            replace hr9 := Lib.hid hr9
            replace ho9 := Lib.hid ho9
            replace hfb8 := Lib.hid hfb8
            clear hgr9 hal9 hob8
            go_wp2
            go_roundw
            case measure => have := hjl2.out; simp [intOf]; omega
            case rel =>
              refine ⟨j + 1, _, _, _, by have := hjl2.out; omega, by go_num, rfl, rfl, hr9.out, bI7.trans (b8.trans b9), ?_, ?_, fun i hi => ?_⟩
              · rw [upd_ne _ _ (by simp), upd_same, haS.out]
              · rw [upd_same, hbS.out]
              · by_cases e : i = j
                · subst e; rw [hpj.out, hp.out]; exact hnow
                · exact hfit.out i (by omega)
          · have q3 : (O1 != O2) = true := by rw [bne_iff_ne]; exact e3
            have hnow : ¬ AllFit K N T' ns := fun hA => by
              have := hA j (by have := hll.out; have := hjl2.out; omega)
              rw [hpj.out, hp.out, hstep.out] at this
              exact e3 this.2.2
            replace hnow := Lib.hid hnow
            go_wp2_with fail
            refine (pairs_wrong r _ _ w7 (hg5.out.below bI7) (by decide) (by decide)).mono ?_
            rintro e w8 ⟨x, rfl, b8, he⟩
            replace he := Lib.hid he
            have bE := Below.step (b05.trans (bI7.mono b05.size)) b8
            go_wp2
            go_ret3
            exact ⟨_, _, _, rfl, bE, .inr ⟨hnow.out, rfl, rfl, he.out⟩⟩
        · have q2 : ((X2 : Int) != (v1 : Int)) = true := by rw [bne_iff_ne]; omega
          have hnow : ¬ AllFit K N T' ns := fun hA => by
            have := hA j (by have := hll.out; have := hjl2.out; omega)
            rw [hpj.out, hp.out, hstep.out] at this
            exact e2 this.2.1
          replace hnow := Lib.hid hnow
          go_wp2_with fail
          refine (pairs_wrong r _ _ w7 (hg5.out.below bI7) (by decide) (by decide)).mono ?_
          rintro e w8 ⟨x, rfl, b8, he⟩
          replace he := Lib.hid he
          have bE := Below.step (b05.trans (bI7.mono b05.size)) b8
          go_wp2
          go_ret3
          exact ⟨_, _, _, rfl, bE, .inr ⟨hnow.out, rfl, rfl, he.out⟩⟩
      · have q1 : ((X1 : Int) != (u1 : Int)) = true := by rw [bne_iff_ne]; omega
        have hnow : ¬ AllFit K N T' ns := fun hA => by
          have := hA j (by have := hll.out; have := hjl2.out; omega)
          rw [hpj.out, hp.out, hstep.out] at this
          exact e1 this.1
        replace hnow := Lib.hid hnow
        go_wp2_with fail
        refine (pairs_wrong r _ _ w7 (hg5.out.below bI7) (by decide) (by decide)).mono ?_
        rintro e w8 ⟨x, rfl, b8, he⟩
        replace he := Lib.hid he
        have bE := Below.step (b05.trans (bI7.mono b05.size)) b8
        go_wp2
        go_ret3
        exact ⟨_, _, _, rfl, bE, .inr ⟨hnow.out, rfl, rfl, he.out⟩⟩
    · obtain rfl : j = L1 := by omega
      have hall : ns.take (j + 1) = ns := List.take_of_length_le (by have := hL1.out; omega)
      rw [hall] at hfa hfb
      have hoa := hr.ownI hfa
      have hob := hr.ownI hfb
      have hdis := hr.2 (1, 0) (2, 0) _ _ hfa hfb (by simp)
      have hAll : AllFit K N T' ns := fun i hi => hfit i (by have := hL1.out; omega)
      have hoa' := hoa.mono (B' := w.heap.size) b05.size
      have hob' := hob.mono (B' := w.heap.size) b05.size
      obtain ⟨a2a, a2n, a2c, rfl⟩ := hoa.at.shape
      obtain ⟨b2a, b2n, b2c, rfl⟩ := hob.at.shape
      replace hr := Lib.hid hr
      replace hfa := Lib.hid hfa
      replace hfb := Lib.hid hfb
      replace hoa := Lib.hid hoa
      replace hob := Lib.hid hob
      replace hoa' := Lib.hid hoa'
      replace hob' := Lib.hid hob'
      replace hdis := Lib.hid hdis
      replace hAll := Lib.hid hAll
      replace hfit := Lib.hid hfit
      go_wp2
      go_ret3
      exact ⟨_, _, _, rfl, b0o, .inl ⟨hAll.out, rfl, hoa'.out, hob'.out, hdis.out⟩⟩
end Go.Proofs.YtilpckngghffoaaDoor

namespace Go.Proofs.YtilpckngghffoaaDoor
open Go.RowKit
set_option maxRecDepth 100000

/-- What Finite leaves of a small rule. -/
def FinPost (w : World) (K R : Nat) (T : List Int) (yes a b e : Value) (w' : World) : Prop :=
  e = .nilIface ∧ ((yes = .bool true ∧ a = .slice none 0 0 ∧ b = .slice none 0 0 ∧ ∀ x y, ¬ IsTwins K R T x y) ∨
  (yes = .bool false ∧ ∃ x y, FinIs K R T x y ∧ IsTwins K R T x y ∧ TwinLen K R T x.length ∧ x.length ≤ 20010 ∧ OwnI w.heap.size w' a x ∧ OwnI w.heap.size w' b y ∧ (a.ownBlock = none ∨ a.ownBlock ≠ b.ownBlock)))

theorem finite_bad (r : Nat → Addr) (k R : Int) (va : Option Addr) (vn vc : Nat) (T : List Int) (t : Int × List (ByteArray × Int)) (w : World) (hg : Glob r w) (h : IntsAt w (.slice va vn vc) T) (hc : smallP k R T = some t) :
    Calls Tryd.prog 5 #[.agg #[.int .i64 k, .int .i64 R, .slice va vn vc]] w (Ret4 (fun x y z u w' => x = .bool false ∧ y = .slice none 0 0 ∧ z = .slice none 0 0 ∧ ErrIs r w' (under sTwins 0 (under sPairs 0 (some t))) u) w) := by
  have b0 := belowAlloc w (.cells #[.int .i64 k, .int .i64 R, .slice va vn vc] 24)
  replace hg := Lib.hid (hg.below b0)
  replace h := Lib.hid (h.below b0)
  replace hc := Lib.hid hc
  go_enter Tryd.func5, Tryd.ntmps5
  go_wp2_with fail
  refine (pgraph_bad r k R va vn vc T t _ hg.out h.out hc.out).mono ?_
  rintro e w1 ⟨x, y, rfl, b1, rfl, hy⟩
  obtain ⟨T2, a2, rfl⟩ : ∃ T a, y = .iface T (.pointer (some a)) := by
    unfold under at hy
    exact ErrIs.some_shape hy
  replace hy := Lib.hid hy
  go_wp2_with fail
  refine (under_any r sTwins 0 _ _ w1 hy.out).mono ?_
  rintro e w2 ⟨u, rfl, b2, hu⟩
  obtain ⟨T3, a3, rfl⟩ : ∃ T a, u = .iface T (.pointer (some a)) := by
    unfold under at hu
    exact ErrIs.some_shape hu
  replace hu := Lib.hid hu
  go_wp2
  (try simp only [Exit.inBlock, Exit.then])
  refine bodyPost_ret (results_tmp4 rfl _ _ _) rfl ?_
  exact ⟨_, _, _, _, rfl, Below.step b0 (Below.step b1 b2), rfl, rfl, rfl, hu.out⟩

set_option maxHeartbeats 1000000 in
theorem finite_zero (r : Nat → Addr) (K : Nat) (va : Option Addr) (vn vc : Nat) (T : List Int) (w : World) (hg : Glob r w) (h : IntsAt w (.slice va vn vc) T) (hr : RuleOk K 0 T) (hl : T.length ≤ 256) :
    Calls Tryd.prog 5 #[.agg #[.int .i64 K, .int .i64 ((0 : Nat) : Int), .slice va vn vc]] w (Ret4 (FinPost w K 0 T) w) := by
  have b0 := belowAlloc w (.cells #[.int .i64 K, .int .i64 ((0 : Nat) : Int), .slice va vn vc] 24)
  have q : Box3 (w.alloc (.cells #[.int .i64 K, .int .i64 ((0 : Nat) : Int), .slice va vn vc] 24)) w.heap.size (.int .i64 K) (.int .i64 ((0 : Nat) : Int)) (.slice va vn vc) := by simp [Box3, go_sem]
  have hTK : T.length = K := by rw [hr.len]; simp [pw]
  have hgraph := fun (w' : World) (hgl : Glob r w') (hT : IntsAt w' (.slice va vn vc) T) => pgraph_ok r K 0 va vn vc T w' hgl hT hr hl
  replace hgraph := Lib.hid hgraph
  replace hTK := Lib.hid hTK
  replace hg := Lib.hid (hg.below b0)
  replace h := Lib.hid (h.below b0)
  replace hr := Lib.hid hr
  go_enter Tryd.func5, Tryd.ntmps5
  go_wp2_with fail
  refine (hgraph.out _ hg.out h.out).mono ?_
  rintro e w1 ⟨gv, y, rfl, b1, rfl, -⟩
  obtain ⟨⟨z0, z1, z2⟩, -, -, -⟩ := q.below b1
  have b01 := Below.step b0 b1
  have hs := b01.size
  go_wp2_with fail
  refine (single_any K ((0 : Nat) : Int) va vn vc T w1 (h.out.below b1)).mono ?_
  rintro e w2 ⟨x, y, rfl, b2, hp⟩
  have b02 := Below.step b01 b2
  rcases hp with ⟨a, b, hsi, hoa, hob, hd⟩ | ⟨rfl, rfl, hno⟩
  · have lx := hoa.at.len
    obtain ⟨x1, x2, x3, rfl⟩ := hoa.at.shape
    obtain ⟨y1, y2, y3, rfl⟩ := hob.at.shape
    have htw := hsi.twins hTK.out
    have htl : TwinLen K 0 T [(a : Int)].length := ⟨⟨_, _, htw, rfl⟩, fun c d hcd => twins_pos hcd⟩
    replace hsi := Lib.hid hsi
    replace hoa := Lib.hid hoa
    replace hob := Lib.hid hob
    replace hd := Lib.hid hd
    replace htw := Lib.hid htw
    replace htl := Lib.hid htl
    clear z0 z1 z2
    go_wp2
    (try simp only [Exit.inBlock, Exit.then])
    refine bodyPost_ret (results_tmp4 rfl _ _ _) rfl ?_
    exact ⟨_, _, _, _, rfl, b02, rfl, .inr ⟨rfl, _, _, .inl ⟨rfl, a, b, hsi.out, rfl, rfl⟩, htw.out, htl.out, by simp, hoa.out.mono hs, hob.out.mono hs, hd.out⟩⟩
  · have hn := no_single (K := K) hTK.out hno
    replace hn := Lib.hid hn
    clear hno z0 z1 z2
    go_wp2
    (try simp only [Exit.inBlock, Exit.then])
    refine bodyPost_ret (results_tmp4 rfl _ _ _) rfl ?_
    exact ⟨_, _, _, _, rfl, b02, rfl, .inl ⟨rfl, rfl, rfl, hn.out⟩⟩

set_option maxHeartbeats 1000000 in
theorem finite_pos (r : Nat → Addr) (K R : Nat) (va : Option Addr) (vn vc : Nat) (T : List Int) (w : World) (hg : Glob r w) (h : IntsAt w (.slice va vn vc) T) (hr : RuleOk K R T) (hl : T.length ≤ 256) (hR : 1 ≤ R) :
    Calls Tryd.prog 5 #[.agg #[.int .i64 K, .int .i64 R, .slice va vn vc]] w (Ret4 (FinPost w K R T) w) := by
  have b0 := belowAlloc w (.cells #[.int .i64 K, .int .i64 R, .slice va vn vc] 24)
  have q : Box3 (w.alloc (.cells #[.int .i64 K, .int .i64 R, .slice va vn vc] 24)) w.heap.size (.int .i64 K) (.int .i64 R) (.slice va vn vc) := by simp [Box3, go_sem]
  have hk1 := hr.k1
  have hk4 := hr.k4
  have hR3 := hr.r3
  have hN81 := nodes_le hr hR hl
  have hN1 := pw_pos (K := K) (2 * R) hk1
  have hwR : wkR R = R := if_neg (by omega)
  have hwT : wkT K R T = T := if_neg (by omega)
  have hgraph := fun (w' : World) (hgl : Glob r w') (hT : IntsAt w' (.slice va vn vc) T) => pgraph_ok r K R va vn vc T w' hgl hT hr hl
  have hwords := fun (u : Value) (ns : List Nat) (w' : World) (hgl : Glob r w') (hT : IntsAt w' (.slice va vn vc) T) => pwords_way r K R va vn vc T u ns w' hgl hT hr hl
  rw [hwR, hwT] at hgraph hwords
  have hmeet := fun (ga : Option Addr) (gc : Nat) (w' : World) => meet_any K (pw K (2 * R)) T ga gc w' hk4 hN1 hN81
  have hR0 : ((R : Int) == 0) = false := by rw [beq_eq_false_iff_ne]; omega
  have hR1 : ¬ (R : Int) = 0 := by omega
  have hR2 : ¬ R = 0 := by omega
  have hR22 := Lib.hid hR2
  have hRR := Lib.hid hR
  replace hgraph := Lib.hid hgraph
  replace hwords := Lib.hid hwords
  replace hmeet := Lib.hid hmeet
  replace hg := Lib.hid (hg.below b0)
  replace h := Lib.hid (h.below b0)
  replace hr := Lib.hid hr
  clear hwR hwT
  go_enter Tryd.func5, Tryd.ntmps5
  go_wp2_with fail
  refine (hgraph.out _ hg.out h.out).mono ?_
  rintro e w1 ⟨gv, y, rfl, b1, rfl, f, vals, hrows, hwn⟩
  have hL : ListsAt w1 gv (pairG K (pw K (2 * R)) T) := hwn.lists hrows
  obtain ⟨ga, gc, rfl⟩ := hL.shape
  obtain ⟨⟨z0, z1, z2⟩, -, -, -⟩ := q.below b1
  have b01 := Below.step b0 b1
  replace hL := Lib.hid hL
  clear hrows hwn
  go_wp2_with fail
  refine (hmeet.out ga gc w1 hL.out).mono ?_
  rintro e w2 ⟨mv, rfl, b2, hp⟩
  have b12 := Below.step b1 b2
  have b02 := Below.step b01 b2
  clear z0 z1 z2
  obtain ⟨⟨z0, z1, z2⟩, -, -, -⟩ := q.below b12
  rcases hp with ⟨ws, hmi, haw, hmin, hws, how⟩ | ⟨rfl, hno⟩
  · have hw3 := haw.len
    have hlow : ∀ p ∈ ws, p < pw K (2 * R) * pw K (2 * R) := fun p hp => by
      obtain ⟨i, hi, rfl⟩ := List.mem_iff_getElem.1 hp
      have := haw.low i hi
      simpa [List.getD, hi] using this
    have hne : ws ≠ [] := by intro e; rw [e] at hw3; simp at hw3
    have hfit : AllFit K (pw K (2 * R)) T ws := fun i hi => (fits_iff hk1 hR (haw.low _ hi)).2 ((mem_pairL (by omega)).1 (haw.arr i hi))
    have htw := haw.twins hk1 hR
    have htl := way_twinLen hk1 hR haw hmin
    have lm := how.at.len
    rw [castI_len] at lm
    have hln : (((ws.length : Nat) : Int) == 0) = false := by rw [beq_eq_false_iff_ne]; omega
    have hln2 : ¬ ((ws.length : Nat) : Int) = 0 := by omega
    have hln3 : ¬ ws.length = 0 := by omega
    obtain ⟨m1, m2, m3, rfl⟩ := how.at.shape
    replace hmi := Lib.hid hmi
    replace haw := Lib.hid haw
    replace hlow := Lib.hid hlow
    replace hne := Lib.hid hne
    replace hfit := Lib.hid hfit
    replace htw := Lib.hid htw
    replace htl := Lib.hid htl
    replace how := Lib.hid how
    have hws2 := Lib.hid hws
    clear hmin
    go_wp2_with fail
    refine (hwords.out _ ws w2 (hg.out.below b12) (h.out.below b12) how.out.at hne.out hlow.out (by have := hws2.out; omega)).mono ?_
    rintro e w3 ⟨x, y, z, rfl, b3, hpo⟩
    rcases hpo with ⟨_, rfl, hox, hoy, hd⟩ | ⟨hnf, _⟩
    · obtain ⟨x1, x2, x3, rfl⟩ := hox.at.shape
      obtain ⟨y1, y2, y3, rfl⟩ := hoy.at.shape
      have hs := b02.size
      replace hox := Lib.hid hox
      replace hoy := Lib.hid hoy
      replace hd := Lib.hid hd
      clear z0 z1 z2
      go_wp2
      (try simp only [Exit.inBlock, Exit.then])
      refine bodyPost_ret (results_tmp4 rfl _ _ _) rfl ?_
      refine ⟨_, _, _, _, rfl, Below.step b02 b3, rfl, .inr ⟨rfl, _, _, .inr ⟨hR22.out, ws, hmi.out, rfl, rfl⟩, htw.out, ?_, ?_, hox.out.mono hs, hoy.out.mono hs, hd.out⟩⟩
      · rw [alongW_len]; exact htl.out
      · rw [alongW_len]; have := hws2.out; omega
    · exact absurd hfit.out hnf
  · have hn := no_twins (K := K) (R := R) (T := T) hk1 hR hno
    replace hn := Lib.hid hn
    clear hno z0 z1 z2
    go_wp2
    (try simp only [Exit.inBlock, Exit.then])
    refine bodyPost_ret (results_tmp4 rfl _ _ _) rfl ?_
    exact ⟨_, _, _, _, rfl, b02, rfl, .inl ⟨rfl, rfl, rfl, hn.out⟩⟩

theorem finite_ok (r : Nat → Addr) (K R : Nat) (va : Option Addr) (vn vc : Nat) (T : List Int) (w : World) (hg : Glob r w) (h : IntsAt w (.slice va vn vc) T) (hr : RuleOk K R T) (hl : T.length ≤ 256) :
    Calls Tryd.prog 5 #[.agg #[.int .i64 K, .int .i64 R, .slice va vn vc]] w (Ret4 (FinPost w K R T) w) := by
  by_cases e : R = 0
  · subst e; exact finite_zero r K va vn vc T w hg h hr hl
  · exact finite_pos r K R va vn vc T w hg h hr hl (by omega)
end Go.Proofs.YtilpckngghffoaaDoor

namespace Go.Proofs.YtilpckngghffoaaDoor
open Go.RowKit
set_option maxRecDepth 100000

def zT : List Int := List.replicate 8 0
theorem zT_ok : RuleOk 2 1 zT := ⟨by decide, by decide, by decide, by decide, fun x hx => by rw [List.eq_of_mem_replicate hx]; decide⟩
end Go.Proofs.YtilpckngghffoaaDoor

namespace Go.Proofs.YtilpckngghffoaaDoor
open Go.RowKit
set_option maxRecDepth 100000

theorem tcheck_bad (r : Nat → Addr) (k R : Int) (va : Option Addr) (vn vc : Nat) (T : List Int) (u v : Value) (t : Int × List (ByteArray × Int)) (w : World) (hg : Glob r w) (h : IntsAt w (.slice va vn vc) T) (hc : smallP k R T = some t) :
    Calls Tryd.prog 6 #[.agg #[.int .i64 k, .int .i64 R, .slice va vn vc], u, v] w (Ret1 (fun x w' => ErrIs r w' (under sTwins 0 (some t)) x) w) := by
  have b0 := belowAlloc w (.cells #[.int .i64 k, .int .i64 R, .slice va vn vc] 24)
  replace hg := Lib.hid (hg.below b0)
  replace h := Lib.hid (h.below b0)
  replace hc := Lib.hid hc
  go_enter Tryd.func6, Tryd.ntmps6
  go_wp2_with fail
  refine (small_any r k R va vn vc T _ hg.out h.out).mono ?_
  rintro e w1 ⟨x, rfl, b1, hx⟩
  rw [hc.out] at hx
  obtain ⟨T2, a2, rfl⟩ := hx.some_shape
  replace hx := Lib.hid hx
  go_wp2_with fail
  refine (under_any r sTwins 0 _ _ w1 hx.out).mono ?_
  rintro e w2 ⟨y, rfl, b2, hy⟩
  obtain ⟨T3, a3, rfl⟩ : ∃ T a, y = .iface T (.pointer (some a)) := by
    unfold under at hy
    exact ErrIs.some_shape hy
  replace hy := Lib.hid hy
  go_wp2
  go_ret
  exact ⟨_, rfl, Below.step b0 (Below.step b1 b2), hy.out⟩

theorem zT_twins : IsTwins 2 1 zT [0, 0, 0, 0, 0] [0, 0, 1, 0, 0] :=
  ⟨fun x hx => by simp at hx; omega, fun x hx => by simp at hx; omega, rfl, by decide, by decide, by decide, by decide, by decide⟩
theorem zT_finite (r : Nat → Addr) (ta : Option Addr) (tn tc : Nat) (w : World) (hg : Glob r w) (h : IntsAt w (.slice ta tn tc) zT) :
    Calls Tryd.prog 5 #[.agg #[.int .i64 2, .int .i64 1, .slice ta tn tc]] w (Ret4 (fun y a b e w' => y = .bool false ∧ e = .nilIface ∧ ∃ p q, IntsAt w' a p ∧ IntsAt w' b q ∧ p.length = 5 ∧ q.length = 5) w) := by
  refine (finite_ok r 2 1 ta tn tc zT w hg h zT_ok (by decide)).mono ?_
  rintro e w' ⟨y, a, b, z, rfl, bl, rfl, hp⟩
  refine ⟨_, _, _, _, rfl, bl, ?_⟩
  rcases hp with ⟨_, _, _, hno⟩ | ⟨rfl, p, q, _, htw, htl, _, hoa, hob, _⟩
  · exact absurd zT_twins (hno _ _)
  · have h1 := htw.long
    have h2 := htl.2 _ _ zT_twins
    have h3 := htw.len
    simp at h2
    exact ⟨rfl, rfl, p, q, hoa.at, hob.at, by omega, by omega⟩
/-- The sum of both neighbours. -/
def xT : List Int := [0, 1, 0, 1, 1, 0, 1, 0]
theorem xT_ok : RuleOk 2 1 xT := ⟨by decide, by decide, by decide, by decide, fun x hx => by simp [xT] at hx; omega⟩
theorem xT_diag : ∀ p, p < 16 → Diag 4 p → ∀ t ∈ pairL 2 4 xT p, Diag 4 t := by decide +kernel
theorem xT_none (a b : List Int) : ¬ IsTwins 2 1 xT a b := by
  refine no_twins (by decide) (by decide) (fun u hu => ?_) a b
  have h3 := hu.len
  have h0 := hu.low 0 (by omega)
  have ha := hu.arr 0 (by omega)
  exact hu.inn 1 (by omega) (by omega) (xT_diag _ h0 hu.fst _ ha)
theorem xT_finite (r : Nat → Addr) (ta : Option Addr) (tn tc : Nat) (w : World) (hg : Glob r w) (h : IntsAt w (.slice ta tn tc) xT) :
    Calls Tryd.prog 5 #[.agg #[.int .i64 2, .int .i64 1, .slice ta tn tc]] w (Ret4 (fun y a b e _ => y = .bool true ∧ e = .nilIface ∧ a = .slice none 0 0 ∧ b = .slice none 0 0) w) := by
  refine (finite_ok r 2 1 ta tn tc xT w hg h xT_ok (by decide)).mono ?_
  rintro e w' ⟨y, a, b, z, rfl, bl, rfl, hp⟩
  refine ⟨_, _, _, _, rfl, bl, ?_⟩
  rcases hp with ⟨rfl, rfl, rfl, _⟩ | ⟨_, p, q, _, htw, _⟩
  · exact ⟨rfl, rfl, rfl, rfl⟩
  · exact absurd htw (xT_none _ _)

set_option maxHeartbeats 1000000 in
theorem awake15 (r : Nat → Addr) (w : World) (hg : Glob r w) : Calls Tryd.prog 4 #[] w (Ret1 (fun x _ => x = .bool true) w) := by
  obtain ⟨tv, w1, mk, ho, b1⟩ := run_makeI (8 : Int) 8 w rfl (by omega)
  have hT : IntsAt w1 tv zT := ho.at
  obtain ⟨ta, tn, tc, rfl⟩ := ho.at.shape
  obtain ⟨t9, ht9⟩ : ∃ t, smallP 9 0 [] = some t := ⟨_, rfl⟩
  replace hg := Lib.hid hg
  replace ho := Lib.hid ho
  replace hT := Lib.hid hT
  replace ht9 := Lib.hid ht9
  go_enter Tryd.func4, Tryd.ntmps4
  go_wp2_with fail
  refine (zT_finite r ta tn tc w1 (hg.out.below b1) hT.out).mono ?_
  rintro e w2 ⟨y, a, b, z, rfl, b2, rfl, rfl, p, q, hpa, hqb, hpl, hql⟩
  have b02 := Below.step b1 b2
  have lp := hpa.len
  have lq := hqb.len
  rw [hpl] at lp
  rw [hql] at lq
  obtain ⟨a1, a2, a3, rfl⟩ := hpa.shape
  obtain ⟨c1, c2, c3, rfl⟩ := hqb.shape
  have bl := belowAlloc w2 (.cells #[.int .i64 0, .int .i64 1, .int .i64 0, .int .i64 1, .int .i64 1, .int .i64 0, .int .i64 1, .int .i64 0] 3)
  have hlit := lit_ints w2 [0, 1, 0, 1, 1, 0, 1, 0] #[.int .i64 0, .int .i64 1, .int .i64 0, .int .i64 1, .int .i64 1, .int .i64 0, .int .i64 1, .int .i64 0] rfl (by decide)
  have b03 := Below.step b02 bl
  replace hlit := Lib.hid hlit
  clear mk hpa hqb hpl hql
  go_wp2_with fail
  refine (xT_finite r _ _ _ _ (hg.out.below b03) hlit.out).mono ?_
  rintro e w4 ⟨y, a, b, z, rfl, b4, rfl, rfl, rfl, rfl⟩
  have b04 := Below.step b03 b4
  go_wp2_with fail
  refine (tcheck_bad r 9 0 none 0 0 [] _ _ t9 w4 (hg.out.below b04) (OwnI.nil 0 _).at ht9.out).mono ?_
  rintro e w5 ⟨x, rfl, b5, hx⟩
  obtain ⟨T3, a3', rfl⟩ : ∃ T a, x = .iface T (.pointer (some a)) := by
    unfold under at hx
    exact ErrIs.some_shape hx
  replace hx := Lib.hid hx
  go_wp2
  go_ret
  exact ⟨_, rfl, Below.step b04 b5, rfl⟩
end Go.Proofs.YtilpckngghffoaaDoor
