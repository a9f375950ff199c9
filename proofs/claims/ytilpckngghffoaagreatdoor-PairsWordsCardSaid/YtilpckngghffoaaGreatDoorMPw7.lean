/-
  Walk: pairs.Words along a list of vertices.
  Plain facts: the window that edenref13.Words reads off the end of a word that it makes.
  Walk: edenref13.Words along a way of nodes.
  pairs.Words and edenref13.Words at any rule and any list: one name for what both answer.
  Plain mathematics: the nodes along a word, symbol by symbol.
  Walk: overlap.Path.
-/
import Derived.Test.YtilpckngghffoaaGreatDoorMPw6
namespace Go.Proofs.YtilpckngghffoaaGreatDoor
open Go.RowKit
set_option maxRecDepth 100000

/-- What Words leaves, of a list of vertices. -/
def WordsPost (r : Nat → Addr) (w : World) (K R : Nat) (T : List Int) (ns : List Nat) (x y z : Value) (w' : World) : Prop :=
  (AllFit K (pw K (2 * R)) T ns ∧ z = .nilIface ∧ OwnI w.heap.size w' x (alongW K (2 * R) (· / pw K (2 * R)) ns) ∧ OwnI w.heap.size w' y (alongW K (2 * R) (· % pw K (2 * R)) ns) ∧ (x.ownBlock = none ∨ x.ownBlock ≠ y.ownBlock)) ∨
  (¬ AllFit K (pw K (2 * R)) T ns ∧ x = .slice none 0 0 ∧ y = .slice none 0 0 ∧ ErrIs r w' (fresh sPairs 1 3) z)

set_option maxHeartbeats 4000000 in
theorem pwords_way (r : Nat → Addr) (K R : Nat) (va : Option Addr) (vn vc : Nat) (T : List Int) (u : Value) (ns : List Nat) (w : World) (hg : Glob r w) (h : IntsAt w (.slice va vn vc) T) (hr : RuleOk K R T) (hl : T.length ≤ 256) (hu : IntsAt w u (castI ns)) (hne : ns ≠ []) (hlow : ∀ p ∈ ns, p < pw K (2 * wkR R) * pw K (2 * wkR R)) (hnl : ns.length ≤ 17592186044000) :
    Calls Tryz.prog 25 #[.agg #[.int .i64 K, .int .i64 R, .slice va vn vc], u] w (Ret3 (WordsPost r w K (wkR R) (wkT K R T) ns) w) := by
  have b0 := belowAlloc w (.cells #[.int .i64 K, .int .i64 R, .slice va vn vc] 24)
  have hk1 := hr.k1
  have hk4 := hr.k4
  have hokW := wk_ok hr
  have hlW := wk_small hr hl
  have hRW := wk_pos R
  have hN81 := nodes_le hokW hRW hlW
  obtain ⟨hdiv, hlen⟩ := hokW.half
  have hR3 := hokW.r3
  have hN1 := pw_pos (K := K) (2 * wkR R) hk1
  have hwork := fun (w' : World) (hgl : Glob r w') (hT : IntsAt w' (.slice va vn vc) T) => working_ok r K R va vn vc T w' hgl hT hr hl
  have hNodes := fun (a : Option Addr) (n c : Nat) (w' : World) (hgl : Glob r w') (hT : IntsAt w' (.slice a n c) (wkT K R T)) => over_Nodes r K (wkR R) a n c (wkT K R T) w' hgl hT hokW hlW
  have hEdge := fun (a : Option Addr) (n c u s : Nat) (w' : World) (hgl : Glob r w') (hT : IntsAt w' (.slice a n c) (wkT K R T)) (hu : u < pw K (2 * wkR R)) (hs : s < K) => over_Edge r K (wkR R) a n c (wkT K R T) u s w' hgl hT hokW hlW (by rw [hdiv]; exact hu) hs
  rw [hdiv] at hNodes hEdge
  have hpost := fun (x y z : Value) (w' : World) => @WordsPost r w K (wkR R) (wkT K R T) ns x y z w'
  obtain ⟨m, hm⟩ : ∃ m, 2 * wkR R = m := ⟨_, rfl⟩
  unfold WordsPost
  rw [hm] at hNodes hEdge hlow hN81 hN1 hdiv hlen ⊢
  obtain ⟨N, hN⟩ : ∃ N, pw K m = N := ⟨_, rfl⟩
  rw [hN] at hNodes hEdge hlow hN81 hN1 hdiv hlen ⊢
  generalize wkT K R T = T' at *
  generalize wkR R = R' at *
  clear hpost
  have lu := hu.len
  obtain ⟨up, hup, hupI⟩ := hu.post 1 (by rw [castI_len]; exact List.length_pos_iff.2 hne)
  have lup := hupI.len
  have hcl : (castI ns).length = ns.length := castI_len ns
  have hdl : ((castI ns).drop 1).length = ns.length - 1 := by rw [List.length_drop, castI_len]
  rw [hdl] at lup
  rw [hcl] at lu
  have hnp : 0 < ns.length := List.length_pos_iff.2 hne
  have iU := fun (i : Nat) (hi : i < ns.length) w' => hu.idx i (by rw [castI_len]; exact hi) w'
  have cU := fun (i : Nat) (hi : i < ns.length) => hu.cellD i (by rw [castI_len]; exact hi)
  have iP := fun (i : Nat) (hi : i + 1 < ns.length) w' => hupI.idx i (by rw [hdl]; omega) w'
  have cP := fun (i : Nat) (hi : i + 1 < ns.length) => hupI.cellD i (by rw [hdl]; omega)
  have gU : ∀ i, i < ns.length → (castI ns).getD i 0 = ((ns.getD i 0 : Nat) : Int) := fun i hi => by simp [castI, List.getD, hi]
  have gP : ∀ i, i + 1 < ns.length → ((castI ns).drop 1).getD i 0 = ((ns.getD (i + 1) 0 : Nat) : Int) := fun i hi => by
    rw [List.getD_eq_getElem?_getD, List.getElem?_drop, Nat.add_comm 1 i, ← List.getD_eq_getElem?_getD]; exact gU _ hi
  have cU2 := fun (i : Nat) (hi : i < ns.length) => (cU i hi).trans (by rw [gU i hi])
  have cP2 := fun (i : Nat) (hi : i + 1 < ns.length) => (cP i hi).trans (by rw [gP i hi])
  have hlow2 : ∀ i, i < ns.length → ns.getD i 0 < N * N := fun i hi => by
    simp only [List.getD_eq_getElem?_getD, List.getElem?_eq_getElem hi, Option.getD_some]
    exact hlow _ (List.getElem_mem hi)
  have hM6 : N * N ≤ 6561 := Nat.mul_le_mul hN81 hN81
  have hokway : decide (0 ≤ idxOf (odd1 ((N * N : Nat) : Int)) (castI ns)) = false := by
    rw [decide_eq_false_iff_not, idxOf_neg]
    · omega
    · intro x hx
      obtain ⟨p, hp, rfl⟩ := List.mem_map.1 hx
      have := hlow p hp
      rw [odd1_false]; omega
  have hl0 : ¬ ns.length = 0 := by omega
  have hl1 : ((ns.length : Int) == 0) = false := by rw [beq_eq_false_iff_ne]; omega
  obtain ⟨ua, un, uc, rfl⟩ := hu.shape
  obtain ⟨pa, pn, pc, rfl⟩ := hupI.shape
  replace hwork := Lib.hid hwork
  replace hNodes := Lib.hid hNodes
  replace hEdge := Lib.hid hEdge
  replace hg := Lib.hid (hg.below b0)
  replace h := Lib.hid (h.below b0)
  replace hu := Lib.hid (hu.below b0)
  replace hokW := Lib.hid hokW
  replace hr := Lib.hid hr
  replace hdiv := Lib.hid hdiv
  replace hlen := Lib.hid hlen
  replace hm := Lib.hid hm
  replace hN := Lib.hid hN
  replace iU := Lib.hid iU
  replace iP := Lib.hid iP
  replace cU2 := Lib.hid cU2
  replace cP2 := Lib.hid cP2
  replace hlow2 := Lib.hid hlow2
  replace hlow := Lib.hid hlow
  replace hokway := Lib.hid hokway
  replace hne := Lib.hid hne
  replace hupI := Lib.hid hupI
  clear cU cP gU gP hdl hcl
  go_enter Tryz.func25, Tryz.ntmps25
  go_wp2_with fail
  refine (hwork.out _ hg.out h.out).mono ?_
  rintro e w1 ⟨x, y, rfl, b1, rfl, a, n, c, rfl, hT1⟩
  have ba := belowAlloc w1 (.cells #[.int .i64 K, .int .i64 R', .slice a n c] 24)
  have qw : Box3 (w1.alloc (.cells #[.int .i64 K, .int .i64 R', .slice a n c] 24)) w1.heap.size (.int .i64 K) (.int .i64 R') (.slice a n c) := by simp [Box3, go_sem]
  have b12 := Below.step b1 ba
  have hT2 := hT1.below ba
  replace hT1 := Lib.hid hT1
  replace hT2 := Lib.hid hT2
  replace qw := Lib.hid qw
  go_wp2_with fail
  refine (hNodes.out a n c _ (hg.out.below b12) hT2.out).mono ?_
  rintro e w3 ⟨x, y, rfl, b3, rfl, rfl⟩
  have bb := belowAlloc w3 (.cells #[.int .i64 N] 3)
  have b34 := Below.step b3 bb
  have b14 := Below.step b12 b34
  have cN : (w3.alloc (.cells #[.int .i64 N] 3)).cell? ⟨w3.heap.size, 0, none⟩ = some (.int .i64 N) := by simp [go_sem]
  have hcf := containsFunc_any (.slice ua un uc) (.pointer (some ⟨w3.heap.size, 0, none⟩)) 62 (castI ns) (odd1 ((N * N : Nat) : Int)) _ (hu.out.below b14) eg_words1 (fun x _ => words1_any x w3.heap.size N _ (by omega) cN)
  replace hcf := Lib.hid hcf
  replace cN := Lib.hid cN
  go_wp2_with fail
  refine hcf.out.mono ?_
  rintro e w5 ⟨rfl, hw5⟩
  rw [hokway.out]
  have cN5 := cN.out
  have qw5 := qw.out.below b34
  have hT5 := hT2.out.below b34
  rw [hw5] at b14 cN5 qw5 hT5
  clear hcf cN hw5 bb b34 b3 b12
  have b05 := Below.step b0 b14
  have hg5 := hg.out.below b14
  clear b14
  -- region 8
  obtain ⟨L1, hL1⟩ : ∃ L1, ns.length = L1 + 1 := ⟨ns.length - 1, by omega⟩
  rw [hL1, Nat.add_sub_cancel] at lup
  have hLbig : L1 ≤ 17592186044000 := by omega
  have hup1 : ∀ w', (Instr.slice 22 (.slice ua un uc) (some (.int .i64 1)) none none).run Tryz.prog w' = .ok (.slice pa pn pc) w' := hup
  obtain ⟨p0, hp0⟩ : ∃ p, ns.getD 0 0 = p := ⟨_, rfl⟩
  have hp0l : p0 < N * N := by rw [← hp0]; exact hlow2.out 0 hnp
  have i0 : ∀ w', (Instr.indexAt 22 (.slice ua un uc) (.int .i64 0)).run Tryz.prog w' = .ok (.pointer (some (valAt (.slice ua un uc) 0))) w' := fun w' => iU.out 0 hnp w'
  have c0 := cU2.out 0 hnp
  rw [hp0] at c0
  have c05 := (b05.cell (World.block_lt_of_cell? _ _ c0)).trans c0
  have hN0 : ((N : Int) == 0) = false := by rw [beq_eq_false_iff_ne]; omega
  have hN2 : ¬ (N : Int) = 0 := by omega
  have hN3 : ¬ N = 0 := by omega
  have hK0 : ((K : Int) == 0) = false := by rw [beq_eq_false_iff_ne]; omega
  have hK1 : ¬ (K : Int) = 0 := by omega
  have hK3 : ¬ K = 0 := by omega
  obtain ⟨d1, d2, d3, d4, d5, d6⟩ := dm p0 N (by omega)
  obtain ⟨u0, hu0⟩ : ∃ z, p0 / N = z := ⟨_, rfl⟩
  obtain ⟨v0, hv0⟩ : ∃ z, p0 % N = z := ⟨_, rfl⟩
  rw [hu0] at d1 d3 d5
  rw [hv0] at d2 d4 d6
  have hu0l : u0 < N := by rw [← hu0]; exact div_lt_of hp0l
  have hv0l : v0 < N := by rw [← hv0]; exact Nat.mod_lt _ (by omega)
  clear c0
  generalize valAt (.slice ua un uc) 0 = t0 at *
  replace hL1 := Lib.hid hL1
  replace hp0 := Lib.hid hp0
  replace hu0 := Lib.hid hu0
  replace hv0 := Lib.hid hv0
  replace hT5 := Lib.hid hT5
  replace hg5 := Lib.hid hg5
  go_upto_region 8 with fail
  refine wp_region_plan (fun w' => w'.cell? t0 = some (.int .i64 p0) ∧ w'.cell? ⟨w3.heap.size, 0, none⟩ = some (.int .i64 N)) 15 [(0, true), (1, true), (2, true), (3, true), (4, true), (5, true), (7, true), (8, true), (9, true), (10, true), (11, true), (12, true), (6, false), (13, false), (14, true)] (by kernel_rfl) (by kernel_rfl) ?_
  have hS : w5.drew.cell? t0 = some (.int .i64 p0) ∧ w5.drew.cell? ⟨w3.heap.size, 0, none⟩ = some (.int .i64 N) := ⟨c05, cN5⟩
  refine headY (v := ?_) (some 47) rfl rfl (Or.inl ⟨by rfl, ?_⟩) hS ?_
  rotate_left
  · rintro W' ⟨s0, s1⟩; go_simp; try with_reducible rfl
  simp only [Act.put, List.setIfInBounds_toArray, List.set_cons_zero, List.set_cons_succ]
  refine headY (v := ?_) (some 48) rfl rfl (Or.inl ⟨by rfl, ?_⟩) hS ?_
  rotate_left
  · rintro W' ⟨s0, s1⟩; go_simp; try with_reducible rfl
  simp only [Act.put, List.setIfInBounds_toArray, List.set_cons_zero, List.set_cons_succ]
  refine headY (v := ?_) (some 49) rfl rfl (Or.inl ⟨by rfl, ?_⟩) hS ?_
  rotate_left
  · rintro W' ⟨s0, s1⟩; go_simp; try with_reducible rfl
  simp only [Act.put, List.setIfInBounds_toArray, List.set_cons_zero, List.set_cons_succ]
  refine headY (v := ?_) (some 50) rfl rfl (Or.inl ⟨by rfl, ?_⟩) hS ?_
  rotate_left
  · rintro W' ⟨s0, s1⟩; go_simp; try with_reducible rfl
  simp only [Act.put, List.setIfInBounds_toArray, List.set_cons_zero, List.set_cons_succ]
  refine headY (v := ?_) (some 51) rfl rfl (Or.inl ⟨by rfl, ?_⟩) hS ?_
  rotate_left
  · rintro W' ⟨s0, s1⟩; go_simp; try with_reducible rfl
  simp only [Act.put, List.setIfInBounds_toArray, List.set_cons_zero, List.set_cons_succ]
  refine headY (v := ?_) (some 52) rfl rfl (Or.inl ⟨by rfl, ?_⟩) hS ?_
  rotate_left
  · rintro W' ⟨s0, s1⟩; go_simp; try with_reducible rfl
  simp only [Act.put, List.setIfInBounds_toArray, List.set_cons_zero, List.set_cons_succ]
  refine headY (v := ?_) (some 54) rfl rfl (Or.inl ⟨by rfl, ?_⟩) hS ?_
  rotate_left
  · rintro W' ⟨s0, s1⟩; go_simp; try with_reducible rfl
  simp only [Act.put, List.setIfInBounds_toArray, List.set_cons_zero, List.set_cons_succ]
  refine headY (v := ?_) (some 55) rfl rfl (Or.inl ⟨by rfl, ?_⟩) hS ?_
  rotate_left
  · rintro W' ⟨s0, s1⟩; go_simp; try with_reducible rfl
  simp only [Act.put, List.setIfInBounds_toArray, List.set_cons_zero, List.set_cons_succ]
  refine headY (v := ?_) (some 56) rfl rfl (Or.inl ⟨by rfl, ?_⟩) hS ?_
  rotate_left
  · rintro W' ⟨s0, s1⟩; go_simp; try with_reducible rfl
  simp only [Act.put, List.setIfInBounds_toArray, List.set_cons_zero, List.set_cons_succ]
  refine headY (v := ?_) (some 57) rfl rfl (Or.inl ⟨by rfl, ?_⟩) hS ?_
  rotate_left
  · rintro W' ⟨s0, s1⟩; go_simp; try with_reducible rfl
  simp only [Act.put, List.setIfInBounds_toArray, List.set_cons_zero, List.set_cons_succ]
  refine headY (v := ?_) (some 58) rfl rfl (Or.inl ⟨by rfl, ?_⟩) hS ?_
  rotate_left
  · rintro W' ⟨s0, s1⟩; go_simp; try with_reducible rfl
  simp only [Act.put, List.setIfInBounds_toArray, List.set_cons_zero, List.set_cons_succ]
  refine headY (v := ?_) (some 59) rfl rfl (Or.inl ⟨by rfl, ?_⟩) hS ?_
  rotate_left
  · rintro W' ⟨s0, s1⟩; go_simp; try with_reducible rfl
  simp only [Act.put, List.setIfInBounds_toArray, List.set_cons_zero, List.set_cons_succ]
  refine headC rfl (fun KK hK => ?_)
  go_simp
  refine (words2_any K R' u0 w1.heap.size w5.drew hk1 hk4 hR3 (by omega) qw5.1.1 qw5.1.2.1).mono ?_
  rintro e w6 ⟨av, rfl, b6, ho6⟩
  have hS6 : w6.cell? t0 = some (.int .i64 p0) ∧ w6.cell? ⟨w3.heap.size, 0, none⟩ = some (.int .i64 N) := ⟨(b6.cell (World.block_lt_of_cell? _ _ hS.1)).trans hS.1, cell_keep b6 hS.2⟩
  have qw6 := qw5.below (w' := w6) (Below.trans ((Below.refl _ _).drew) b6)
  refine hK _ _ hS6 ?_
  clear hK KK
  refine headC rfl (fun KK hK => ?_)
  go_simp
  refine (words2_any K R' v0 w1.heap.size w6 hk1 hk4 hR3 (by omega) qw6.1.1 qw6.1.2.1).mono ?_
  rintro e w7 ⟨bv, rfl, b7, ho7⟩
  have hS7 : w7.cell? t0 = some (.int .i64 p0) ∧ w7.cell? ⟨w3.heap.size, 0, none⟩ = some (.int .i64 N) := ⟨(b7.cell (World.block_lt_of_cell? _ _ hS6.1)).trans hS6.1, cell_keep b7 hS6.2⟩
  refine hK _ _ hS7 ?_
  clear hK KK
  refine headY (v := ?_) (some 12) rfl rfl (Or.inl ⟨by rfl, ?_⟩) hS7 ?_
  rotate_left
  · rintro W' ⟨s0, s1⟩; go_simp; try with_reducible rfl
  simp only [Act.put, List.setIfInBounds_toArray, List.set_cons_zero, List.set_cons_succ]
  refine head0 ?_
  simp only [List.drop_succ_cons, List.drop_zero]
  have b56 : Below w5.heap.size w5 w6 := Below.trans ((Below.refl _ _).drew) b6
  have b57 := Below.step b56 b7
  rw [hm.out] at ho6 ho7
  have r1 := (Rows.void w5.heap.size w5).add (i := (1, 0)) (r' := rowI av (digs K m u0)) b56 ho6 (fun k hk => (ho6.lt k hk).1)
  have r2 := r1.add (i := (2, 0)) (r' := rowI bv (digs K m v0)) b7 (ho7.mono b56.size) (fun k hk => (ho7.lt k hk).1)
  obtain ⟨f, hf⟩ : ∃ f, f = upd (upd (fun _ => none) (1, 0) (some (rowI av (digs K m u0)))) (2, 0) (some (rowI bv (digs K m v0))) := ⟨_, rfl⟩
  have hfa : f (1, 0) = some (rowI av (digs K m u0)) := by rw [hf, upd_ne _ _ (by simp), upd_same]
  have hfb : f (2, 0) = some (rowI bv (digs K m v0)) := by rw [hf, upd_same]
  rw [← hf] at r2
  have htk : ns.take 1 = [p0] := by
    cases hns : ns with
    | nil => exact absurd hns hne.out
    | cons a l => have := hp0.out; rw [hns] at this; simp at this; simp [this]
  have ha1 : alongW K m (· / N) (ns.take 1) = digs K m u0 := by rw [htk, alongW_one, hu0.out]
  have hb1 : alongW K m (· % N) (ns.take 1) = digs K m v0 := by rw [htk, alongW_one, hv0.out]
  rw [← ha1] at hfa
  rw [← hb1] at hfb
  clear hS hS6 hS7 ho6 ho7 r1 hf htk ha1 hb1 qw6 i0 c05 d1 d2 d3 d4 d5 d6
  obtain ⟨aa, an, ac, rfl⟩ := (r2.ownI hfa).at.shape
  obtain ⟨ba', bn, bc, rfl⟩ := (r2.ownI hfb).at.shape
  replace r2 := Lib.hid r2
  replace hfa := Lib.hid hfa
  replace hfb := Lib.hid hfb
  replace qw5 := Lib.hid qw5
  replace cN5 := Lib.hid cN5
  go_wp2
  refine NoPanic.normal ?_
  go_wp2_with fail
  clear hup hup1
  go_loopw [12, 13, 64] (fun xa xb jv wr => ∃ (j : Nat) (f : Names) (va' vb' : Value), j ≤ L1 ∧ jv = .int .i64 j ∧ va' = xa ∧ vb' = xb ∧ Rows w5.heap.size wr f ∧ Below w5.heap.size w5 wr ∧ f (1, 0) = some (rowI va' (alongW K m (· / N) (ns.take (j + 1)))) ∧ f (2, 0) = some (rowI vb' (alongW K m (· % N) (ns.take (j + 1)))) ∧ (∀ i, i < j → StepFits K N T' (ns.getD i 0) (ns.getD (i + 1) 0))) (fun _ _ jv _ => L1 - (intOf jv).toNat)
  case atStart => exact ⟨0, f, _, _, by omega, rfl, rfl, rfl, r2.out, b57, hfa.out, hfb.out, fun i hi => by omega⟩
  case round =>
    clear hfa hfb r2 b57 b56 b6 b7
    obtain ⟨j, f2, av, bv, hj, rfl, rfl, rfl, hr, bI, hfa, hfb, hfit⟩ := hrel
    obtain ⟨wo, rfl⟩ : ∃ wo : World, wo = wr := ⟨_, rfl⟩
    have b0o := b05.trans (bI.mono b05.size)
    by_cases hjl : j < L1
    · obtain ⟨p, hp⟩ : ∃ p, ns.getD (j + 1) 0 = p := ⟨_, rfl⟩
      obtain ⟨pj, hpj⟩ : ∃ p, ns.getD j 0 = p := ⟨_, rfl⟩
      have hll := hL1.out
      have hjl2 := Lib.hid hjl
      have hpl : p < N * N := by rw [← hp]; exact hlow2.out (j + 1) (by omega)
      have hpjl : pj < N * N := by rw [← hpj]; exact hlow2.out j (by omega)
      have iJ := fun w' => iP.out j (by omega) w'
      have cJ := cP2.out j (by omega)
      have iI := fun w' => iU.out j (by omega) w'
      have cI := cU2.out j (by omega)
      rw [hp] at cJ
      rw [hpj] at cI
      have cJo := (b0o.cell (World.block_lt_of_cell? _ _ cJ)).trans cJ
      have cIo := (b0o.cell (World.block_lt_of_cell? _ _ cI)).trans cI
      have htk : ns.take (j + 1 + 1) = ns.take (j + 1) ++ [p] := by
        rw [List.take_add_one, List.getElem?_eq_getElem (show j + 1 < ns.length by omega)]
        have : ns[j + 1]'(by omega) = p := by rw [← hp]; simp [List.getD, show j + 1 < ns.length by omega]
        rw [this]; rfl
      have htn : ns.take (j + 1) ≠ [] := by
        intro e
        have := congrArg List.length e
        rw [List.length_take, List.length_nil] at this; omega
      have haS := alongW_snoc K m (· / N) (ns.take (j + 1)) p htn
      have hbS := alongW_snoc K m (· % N) (ns.take (j + 1)) p htn
      rw [← htk] at haS hbS
      obtain ⟨d1, d2, d3, d4, d5, d6⟩ := dm p N (by omega)
      obtain ⟨u1, hu1⟩ : ∃ z, p / N = z := ⟨_, rfl⟩
      obtain ⟨v1, hv1⟩ : ∃ z, p % N = z := ⟨_, rfl⟩
      rw [hu1] at d1 d3 d5 haS
      rw [hv1] at d2 d4 d6 hbS
      have hu1l : u1 < N := by rw [← hu1]; exact div_lt_of hpl
      have hv1l : v1 < N := by rw [← hv1]; exact Nat.mod_lt _ (by omega)
      obtain ⟨g1, g2, g3, g4, g5, g6⟩ := dm pj N (by omega)
      obtain ⟨uj, huj⟩ : ∃ z, pj / N = z := ⟨_, rfl⟩
      obtain ⟨vj, hvj⟩ : ∃ z, pj % N = z := ⟨_, rfl⟩
      rw [huj] at g1 g3 g5
      rw [hvj] at g2 g4 g6
      have hujl : uj < N := by rw [← huj]; exact div_lt_of hpjl
      have hvjl : vj < N := by rw [← hvj]; exact Nat.mod_lt _ (by omega)
      obtain ⟨_, x2, _, x4, _, x6⟩ := dm u1 K (by omega)
      obtain ⟨_, z2, _, z4, _, z6⟩ := dm v1 K (by omega)
      obtain ⟨s, hs⟩ : ∃ z, u1 % K = z := ⟨_, rfl⟩
      obtain ⟨t, ht⟩ : ∃ z, v1 % K = z := ⟨_, rfl⟩
      rw [hs] at x2 x4 x6 haS
      rw [ht] at z2 z4 z6 hbS
      have hsl : s < K := by rw [← hs]; exact Nat.mod_lt _ (by omega)
      have htl : t < K := by rw [← ht]; exact Nat.mod_lt _ (by omega)
      have hstep : StepFits K N T' pj p ↔ toN K N uj s = u1 ∧ toN K N vj t = v1 ∧ labN K T' uj s = labN K T' vj t := by
        unfold StepFits; rw [hu1, hv1, huj, hvj, hs, ht]
      have qwo := qw5.out.below bI
      have cNo := cell_keep bI cN5.out
      clear cJ cI
      generalize valAt (.slice pa pn pc) j = tj at *
      generalize valAt (.slice ua un uc) j = ti at *
      have hoa := hr.ownI hfa
      have hob := hr.ownI hfb
      have hm6 : m ≤ 6 := by have := hm.out; omega
      have hLa : (alongW K m (· / N) (ns.take (j + 1))).length ≤ 17592186044100 := by rw [alongW_len, List.length_take]; omega
      have hLb : (alongW K m (· % N) (ns.take (j + 1))).length ≤ 17592186044100 := by rw [alongW_len, List.length_take]; omega
      replace hp := Lib.hid hp
      replace hpj := Lib.hid hpj
      replace hll := Lib.hid hll
      replace htk := Lib.hid htk
      replace htn := Lib.hid htn
      replace haS := Lib.hid haS
      replace hbS := Lib.hid hbS
      replace hu1 := Lib.hid hu1
      replace hv1 := Lib.hid hv1
      replace huj := Lib.hid huj
      replace hvj := Lib.hid hvj
      replace hs := Lib.hid hs
      replace ht := Lib.hid ht
      replace hstep := Lib.hid hstep
      replace hfit := Lib.hid hfit
      replace hr := Lib.hid hr
      replace hfa := Lib.hid hfa
      replace hfb := Lib.hid hfb
      replace hoa := Lib.hid hoa
      replace hob := Lib.hid hob
      go_upto_region 12 with fail
      refine wp_region_plan (fun w' => w'.cell? ⟨w1.heap.size, 0, none⟩ = some (.int .i64 K) ∧ w'.cell? ⟨w3.heap.size, 0, none⟩ = some (.int .i64 N)) 13 [(0, true), (1, true), (2, true), (3, true), (4, true), (5, true), (6, true), (7, true), (8, true), (9, true), (10, true), (11, true), (12, true)] (by kernel_rfl) (by kernel_rfl) ?_
      have hS : wo.drew.cell? ⟨w1.heap.size, 0, none⟩ = some (.int .i64 K) ∧ wo.drew.cell? ⟨w3.heap.size, 0, none⟩ = some (.int .i64 N) := ⟨qwo.1.1, cNo⟩
      refine headY (v := ?_) (some 69) rfl rfl (Or.inl ⟨by rfl, ?_⟩) hS ?_
      rotate_left
      · rintro W' ⟨s0, s1⟩; go_simp; try with_reducible rfl
      simp only [Act.put, List.setIfInBounds_toArray, List.set_cons_zero, List.set_cons_succ]
      refine headY (v := ?_) (some 70) rfl rfl (Or.inl ⟨by rfl, ?_⟩) hS ?_
      rotate_left
      · rintro W' ⟨s0, s1⟩; go_simp; try with_reducible rfl
      simp only [Act.put, List.setIfInBounds_toArray, List.set_cons_zero, List.set_cons_succ]
      refine headY (v := ?_) (some 71) rfl rfl (Or.inl ⟨by rfl, ?_⟩) hS ?_
      rotate_left
      · rintro W' ⟨s0, s1⟩; go_simp; try with_reducible rfl
      simp only [Act.put, List.setIfInBounds_toArray, List.set_cons_zero, List.set_cons_succ]
      refine headY (v := ?_) (some 72) rfl rfl (Or.inl ⟨by rfl, ?_⟩) hS ?_
      rotate_left
      · rintro W' ⟨s0, s1⟩; go_simp; try with_reducible rfl
      simp only [Act.put, List.setIfInBounds_toArray, List.set_cons_zero, List.set_cons_succ]
      refine headY (v := ?_) (some 73) rfl rfl (Or.inl ⟨by rfl, ?_⟩) hS ?_
      rotate_left
      · rintro W' ⟨s0, s1⟩; go_simp; try with_reducible rfl
      simp only [Act.put, List.setIfInBounds_toArray, List.set_cons_zero, List.set_cons_succ]
      refine headY (v := ?_) (some 74) rfl rfl (Or.inl ⟨by rfl, ?_⟩) hS ?_
      rotate_left
      · rintro W' ⟨s0, s1⟩; go_simp; try with_reducible rfl
      simp only [Act.put, List.setIfInBounds_toArray, List.set_cons_zero, List.set_cons_succ]
      refine headY (v := ?_) (some 75) rfl rfl (Or.inl ⟨by rfl, ?_⟩) hS ?_
      rotate_left
      · rintro W' ⟨s0, s1⟩; go_simp; try with_reducible rfl
      simp only [Act.put, List.setIfInBounds_toArray, List.set_cons_zero, List.set_cons_succ]
      refine headY (v := ?_) (some 76) rfl rfl (Or.inl ⟨by rfl, ?_⟩) hS ?_
      rotate_left
      · rintro W' ⟨s0, s1⟩; go_simp; try with_reducible rfl
      simp only [Act.put, List.setIfInBounds_toArray, List.set_cons_zero, List.set_cons_succ]
      refine headY (v := ?_) (some 77) rfl rfl (Or.inl ⟨by rfl, ?_⟩) hS ?_
      rotate_left
      · rintro W' ⟨s0, s1⟩; go_simp; try with_reducible rfl
      simp only [Act.put, List.setIfInBounds_toArray, List.set_cons_zero, List.set_cons_succ]
      refine headY (v := ?_) (some 78) rfl rfl (Or.inl ⟨by rfl, ?_⟩) hS ?_
      rotate_left
      · rintro W' ⟨s0, s1⟩; go_simp; try with_reducible rfl
      simp only [Act.put, List.setIfInBounds_toArray, List.set_cons_zero, List.set_cons_succ]
      refine headY (v := ?_) (some 79) rfl rfl (Or.inl ⟨by rfl, ?_⟩) hS ?_
      rotate_left
      · rintro W' ⟨s0, s1⟩; go_simp; try with_reducible rfl
      simp only [Act.put, List.setIfInBounds_toArray, List.set_cons_zero, List.set_cons_succ]
      refine headY (v := ?_) (some 80) rfl rfl (Or.inl ⟨by rfl, ?_⟩) hS ?_
      rotate_left
      · rintro W' ⟨s0, s1⟩; go_simp; try with_reducible rfl
      simp only [Act.put, List.setIfInBounds_toArray, List.set_cons_zero, List.set_cons_succ]
      refine headY (v := ?_) (some 16) rfl rfl (Or.inl ⟨by rfl, ?_⟩) hS ?_
      rotate_left
      · rintro W' ⟨s0, s1⟩; go_simp; try with_reducible rfl
      simp only [Act.put, List.setIfInBounds_toArray, List.set_cons_zero, List.set_cons_succ]
      refine head0 ?_
      simp only [List.drop_succ_cons, List.drop_zero]
      clear hS
      go_wp2
      refine NoPanic.normal ?_
      go_upto_region 13 with fail
      refine wp_region_plan (fun w' => w'.cell? ⟨w1.heap.size, 0, none⟩ = some (.int .i64 K) ∧ w'.cell? ⟨w1.heap.size, 1, none⟩ = some (.int .i64 R') ∧ w'.cell? ⟨w1.heap.size, 2, none⟩ = some (.slice a n c) ∧ w'.cell? ⟨w3.heap.size, 0, none⟩ = some (.int .i64 N) ∧ w'.cell? ti = some (.int .i64 pj)) 15 [(0, true), (1, true), (2, true), (3, true), (4, true), (5, true), (6, true), (7, true), (8, false), (9, true), (10, true), (11, true), (12, true), (13, true), (14, true)] (by kernel_rfl) (by kernel_rfl) ?_
      have hS : wo.drew.drew.cell? ⟨w1.heap.size, 0, none⟩ = some (.int .i64 K) ∧ wo.drew.drew.cell? ⟨w1.heap.size, 1, none⟩ = some (.int .i64 R') ∧ wo.drew.drew.cell? ⟨w1.heap.size, 2, none⟩ = some (.slice a n c) ∧ wo.drew.drew.cell? ⟨w3.heap.size, 0, none⟩ = some (.int .i64 N) ∧ wo.drew.drew.cell? ti = some (.int .i64 pj) := ⟨qwo.1.1, qwo.1.2.1, qwo.1.2.2, cNo, cIo⟩
      refine headY (v := ?_) (some 82) rfl rfl (Or.inl ⟨by rfl, ?_⟩) hS ?_
      rotate_left
      · rintro W' ⟨s0, s1, s2, s3, s4⟩; go_simp; try with_reducible rfl
      simp only [Act.put, List.setIfInBounds_toArray, List.set_cons_zero, List.set_cons_succ]
      refine headY (v := ?_) (some 83) rfl rfl (Or.inl ⟨by rfl, ?_⟩) hS ?_
      rotate_left
      · rintro W' ⟨s0, s1, s2, s3, s4⟩; go_simp; try with_reducible rfl
      simp only [Act.put, List.setIfInBounds_toArray, List.set_cons_zero, List.set_cons_succ]
      refine headY (v := ?_) (some 84) rfl rfl (Or.inl ⟨by rfl, ?_⟩) hS ?_
      rotate_left
      · rintro W' ⟨s0, s1, s2, s3, s4⟩; go_simp; try with_reducible rfl
      simp only [Act.put, List.setIfInBounds_toArray, List.set_cons_zero, List.set_cons_succ]
      refine headY (v := ?_) (some 85) rfl rfl (Or.inl ⟨by rfl, ?_⟩) hS ?_
      rotate_left
      · rintro W' ⟨s0, s1, s2, s3, s4⟩; go_simp; try with_reducible rfl
      simp only [Act.put, List.setIfInBounds_toArray, List.set_cons_zero, List.set_cons_succ]
      refine headY (v := ?_) (some 86) rfl rfl (Or.inl ⟨by rfl, ?_⟩) hS ?_
      rotate_left
      · rintro W' ⟨s0, s1, s2, s3, s4⟩; go_simp; try with_reducible rfl
      simp only [Act.put, List.setIfInBounds_toArray, List.set_cons_zero, List.set_cons_succ]
      refine headY (v := ?_) (some 87) rfl rfl (Or.inl ⟨by rfl, ?_⟩) hS ?_
      rotate_left
      · rintro W' ⟨s0, s1, s2, s3, s4⟩; go_simp; try with_reducible rfl
      simp only [Act.put, List.setIfInBounds_toArray, List.set_cons_zero, List.set_cons_succ]
      refine headY (v := ?_) (some 88) rfl rfl (Or.inl ⟨by rfl, ?_⟩) hS ?_
      rotate_left
      · rintro W' ⟨s0, s1, s2, s3, s4⟩; go_simp; try with_reducible rfl
      simp only [Act.put, List.setIfInBounds_toArray, List.set_cons_zero, List.set_cons_succ]
      refine headY (v := ?_) (some 89) rfl rfl (Or.inl ⟨by rfl, ?_⟩) hS ?_
      rotate_left
      · rintro W' ⟨s0, s1, s2, s3, s4⟩; go_simp; try with_reducible rfl
      simp only [Act.put, List.setIfInBounds_toArray, List.set_cons_zero, List.set_cons_succ]
      refine headC rfl (fun KK hK => ?_)
      go_simp
      refine (hEdge.out a n c uj s wo.drew.drew (hg5.out.below bI.drew.drew) (hT5.out.below bI.drew.drew) hujl hsl).mono ?_
      rintro e w6 ⟨x, y, z, rfl, b6, rfl, rfl, rfl⟩
      obtain ⟨X1, hX1⟩ : ∃ X, toN K N uj s = X := ⟨_, rfl⟩
      obtain ⟨O1, hO1⟩ : ∃ X, labN K T' uj s = X := ⟨_, rfl⟩
      rw [hX1, hO1]
      have bo6 : Below wo.heap.size wo w6 := Below.trans ((Below.refl _ _).drew.drew) b6
      have hS6 : w6.cell? ⟨w1.heap.size, 0, none⟩ = some (.int .i64 K) ∧ w6.cell? ⟨w1.heap.size, 1, none⟩ = some (.int .i64 R') ∧ w6.cell? ⟨w1.heap.size, 2, none⟩ = some (.slice a n c) ∧ w6.cell? ⟨w3.heap.size, 0, none⟩ = some (.int .i64 N) ∧ w6.cell? ti = some (.int .i64 pj) := ⟨cell_keep b6 hS.1, cell_keep b6 hS.2.1, cell_keep b6 hS.2.2.1, cell_keep b6 hS.2.2.2.1, (b6.cell (World.block_lt_of_cell? _ _ hS.2.2.2.2)).trans hS.2.2.2.2⟩
      refine hK _ _ hS6 ?_
      clear hK KK
      refine headY (v := ?_) (some 81) rfl rfl (Or.inl ⟨by rfl, ?_⟩) hS6 ?_
      rotate_left
      · rintro W' ⟨s0, s1, s2, s3, s4⟩; go_simp; try with_reducible rfl
      simp only [Act.put, List.setIfInBounds_toArray, List.set_cons_zero, List.set_cons_succ]
      refine headY (v := ?_) (some 91) rfl rfl (Or.inl ⟨by rfl, ?_⟩) hS6 ?_
      rotate_left
      · rintro W' ⟨s0, s1, s2, s3, s4⟩; go_simp; try with_reducible rfl
      simp only [Act.put, List.setIfInBounds_toArray, List.set_cons_zero, List.set_cons_succ]
      refine headY (v := ?_) (some 92) rfl rfl (Or.inl ⟨by rfl, ?_⟩) hS6 ?_
      rotate_left
      · rintro W' ⟨s0, s1, s2, s3, s4⟩; go_simp; try with_reducible rfl
      simp only [Act.put, List.setIfInBounds_toArray, List.set_cons_zero, List.set_cons_succ]
      refine headY (v := ?_) (some 93) rfl rfl (Or.inl ⟨by rfl, ?_⟩) hS6 ?_
      rotate_left
      · rintro W' ⟨s0, s1, s2, s3, s4⟩; go_simp; try with_reducible rfl
      simp only [Act.put, List.setIfInBounds_toArray, List.set_cons_zero, List.set_cons_succ]
      refine headY (v := ?_) (some 18) rfl rfl (Or.inl ⟨by rfl, ?_⟩) hS6 ?_
      rotate_left
      · rintro W' ⟨s0, s1, s2, s3, s4⟩; go_simp; try with_reducible rfl
      simp only [Act.put, List.setIfInBounds_toArray, List.set_cons_zero, List.set_cons_succ]
      refine headY (v := ?_) (some 19) rfl rfl (Or.inl ⟨by rfl, ?_⟩) hS6 ?_
      rotate_left
      · rintro W' ⟨s0, s1, s2, s3, s4⟩; go_simp; try with_reducible rfl
      simp only [Act.put, List.setIfInBounds_toArray, List.set_cons_zero, List.set_cons_succ]
      refine head0 ?_
      simp only [List.drop_succ_cons, List.drop_zero]
      have bI6 := bI.trans (bo6.mono bI.size)
      have hS6' := Lib.hid hS6
      clear hS hS6
      go_wp2
      refine NoPanic.normal ?_
      go_upto_region 14 with fail
      refine wp_region_plan (fun w' => w'.cell? ⟨w1.heap.size, 0, none⟩ = some (.int .i64 K) ∧ w'.cell? ⟨w1.heap.size, 1, none⟩ = some (.int .i64 R') ∧ w'.cell? ⟨w1.heap.size, 2, none⟩ = some (.slice a n c) ∧ w'.cell? ⟨w3.heap.size, 0, none⟩ = some (.int .i64 N) ∧ w'.cell? ti = some (.int .i64 pj)) 15 [(0, true), (1, true), (2, true), (3, true), (4, true), (5, true), (6, true), (7, true), (8, false), (9, true), (10, true), (11, true), (12, true), (13, true), (14, true)] (by kernel_rfl) (by kernel_rfl) ?_
      have hS : w6.drew.cell? ⟨w1.heap.size, 0, none⟩ = some (.int .i64 K) ∧ w6.drew.cell? ⟨w1.heap.size, 1, none⟩ = some (.int .i64 R') ∧ w6.drew.cell? ⟨w1.heap.size, 2, none⟩ = some (.slice a n c) ∧ w6.drew.cell? ⟨w3.heap.size, 0, none⟩ = some (.int .i64 N) ∧ w6.drew.cell? ti = some (.int .i64 pj) := hS6'.out
      refine headY (v := ?_) (some 95) rfl rfl (Or.inl ⟨by rfl, ?_⟩) hS ?_
      rotate_left
      · rintro W' ⟨s0, s1, s2, s3, s4⟩; go_simp; try with_reducible rfl
      simp only [Act.put, List.setIfInBounds_toArray, List.set_cons_zero, List.set_cons_succ]
      refine headY (v := ?_) (some 96) rfl rfl (Or.inl ⟨by rfl, ?_⟩) hS ?_
      rotate_left
      · rintro W' ⟨s0, s1, s2, s3, s4⟩; go_simp; try with_reducible rfl
      simp only [Act.put, List.setIfInBounds_toArray, List.set_cons_zero, List.set_cons_succ]
      refine headY (v := ?_) (some 97) rfl rfl (Or.inl ⟨by rfl, ?_⟩) hS ?_
      rotate_left
      · rintro W' ⟨s0, s1, s2, s3, s4⟩; go_simp; try with_reducible rfl
      simp only [Act.put, List.setIfInBounds_toArray, List.set_cons_zero, List.set_cons_succ]
      refine headY (v := ?_) (some 98) rfl rfl (Or.inl ⟨by rfl, ?_⟩) hS ?_
      rotate_left
      · rintro W' ⟨s0, s1, s2, s3, s4⟩; go_simp; try with_reducible rfl
      simp only [Act.put, List.setIfInBounds_toArray, List.set_cons_zero, List.set_cons_succ]
      refine headY (v := ?_) (some 99) rfl rfl (Or.inl ⟨by rfl, ?_⟩) hS ?_
      rotate_left
      · rintro W' ⟨s0, s1, s2, s3, s4⟩; go_simp; try with_reducible rfl
      simp only [Act.put, List.setIfInBounds_toArray, List.set_cons_zero, List.set_cons_succ]
      refine headY (v := ?_) (some 100) rfl rfl (Or.inl ⟨by rfl, ?_⟩) hS ?_
      rotate_left
      · rintro W' ⟨s0, s1, s2, s3, s4⟩; go_simp; try with_reducible rfl
      simp only [Act.put, List.setIfInBounds_toArray, List.set_cons_zero, List.set_cons_succ]
      refine headY (v := ?_) (some 101) rfl rfl (Or.inl ⟨by rfl, ?_⟩) hS ?_
      rotate_left
      · rintro W' ⟨s0, s1, s2, s3, s4⟩; go_simp; try with_reducible rfl
      simp only [Act.put, List.setIfInBounds_toArray, List.set_cons_zero, List.set_cons_succ]
      refine headY (v := ?_) (some 102) rfl rfl (Or.inl ⟨by rfl, ?_⟩) hS ?_
      rotate_left
      · rintro W' ⟨s0, s1, s2, s3, s4⟩; go_simp; try with_reducible rfl
      simp only [Act.put, List.setIfInBounds_toArray, List.set_cons_zero, List.set_cons_succ]
      refine headC rfl (fun KK hK => ?_)
      go_simp
      refine (hEdge.out a n c vj t w6.drew (hg5.out.below bI6.drew) (hT5.out.below bI6.drew) hvjl htl).mono ?_
      rintro e w7 ⟨x, y, z, rfl, b7, rfl, rfl, rfl⟩
      obtain ⟨X2, hX2⟩ : ∃ X, toN K N vj t = X := ⟨_, rfl⟩
      obtain ⟨O2, hO2⟩ : ∃ X, labN K T' vj t = X := ⟨_, rfl⟩
      rw [hX2, hO2]
      have b67 : Below w6.heap.size w6 w7 := Below.trans ((Below.refl _ _).drew) b7
      have bo7 := Below.step bo6 b67
      have bI7 := bI.trans (bo7.mono bI.size)
      have hS7 : w7.cell? ⟨w1.heap.size, 0, none⟩ = some (.int .i64 K) ∧ w7.cell? ⟨w1.heap.size, 1, none⟩ = some (.int .i64 R') ∧ w7.cell? ⟨w1.heap.size, 2, none⟩ = some (.slice a n c) ∧ w7.cell? ⟨w3.heap.size, 0, none⟩ = some (.int .i64 N) ∧ w7.cell? ti = some (.int .i64 pj) := ⟨cell_keep b7 hS.1, cell_keep b7 hS.2.1, cell_keep b7 hS.2.2.1, cell_keep b7 hS.2.2.2.1, (b7.cell (World.block_lt_of_cell? _ _ hS.2.2.2.2)).trans hS.2.2.2.2⟩
      refine hK _ _ hS7 ?_
      clear hK KK
      refine headY (v := ?_) (some 94) rfl rfl (Or.inl ⟨by rfl, ?_⟩) hS7 ?_
      rotate_left
      · rintro W' ⟨s0, s1, s2, s3, s4⟩; go_simp; try with_reducible rfl
      simp only [Act.put, List.setIfInBounds_toArray, List.set_cons_zero, List.set_cons_succ]
      refine headY (v := ?_) (some 104) rfl rfl (Or.inl ⟨by rfl, ?_⟩) hS7 ?_
      rotate_left
      · rintro W' ⟨s0, s1, s2, s3, s4⟩; go_simp; try with_reducible rfl
      simp only [Act.put, List.setIfInBounds_toArray, List.set_cons_zero, List.set_cons_succ]
      refine headY (v := ?_) (some 105) rfl rfl (Or.inl ⟨by rfl, ?_⟩) hS7 ?_
      rotate_left
      · rintro W' ⟨s0, s1, s2, s3, s4⟩; go_simp; try with_reducible rfl
      simp only [Act.put, List.setIfInBounds_toArray, List.set_cons_zero, List.set_cons_succ]
      refine headY (v := ?_) (some 106) rfl rfl (Or.inl ⟨by rfl, ?_⟩) hS7 ?_
      rotate_left
      · rintro W' ⟨s0, s1, s2, s3, s4⟩; go_simp; try with_reducible rfl
      simp only [Act.put, List.setIfInBounds_toArray, List.set_cons_zero, List.set_cons_succ]
      refine headY (v := ?_) (some 21) rfl rfl (Or.inl ⟨by rfl, ?_⟩) hS7 ?_
      rotate_left
      · rintro W' ⟨s0, s1, s2, s3, s4⟩; go_simp; try with_reducible rfl
      simp only [Act.put, List.setIfInBounds_toArray, List.set_cons_zero, List.set_cons_succ]
      refine headY (v := ?_) (some 22) rfl rfl (Or.inl ⟨by rfl, ?_⟩) hS7 ?_
      rotate_left
      · rintro W' ⟨s0, s1, s2, s3, s4⟩; go_simp; try with_reducible rfl
      simp only [Act.put, List.setIfInBounds_toArray, List.set_cons_zero, List.set_cons_succ]
      refine head0 ?_
      simp only [List.drop_succ_cons, List.drop_zero]
      obtain ⟨k0, k1, k2, k3, k4⟩ := hS7
      clear hS hS6' cIo cJo k0 k1 k2 k4 cNo
      rw [hX1, hO1, hX2, hO2] at hstep
      replace hX1 := Lib.hid hX1
      replace hX2 := Lib.hid hX2
      replace hO1 := Lib.hid hO1
      replace hO2 := Lib.hid hO2
      go_wp2
      refine NoPanic.normal ?_
      by_cases e1 : X1 = u1
      · have q1 : ((X1 : Int) != (u1 : Int)) = false := by rw [bne_eq_false_iff_eq]; omega
        by_cases e2 : X2 = v1
        · have q2 : ((X2 : Int) != (v1 : Int)) = false := by rw [bne_eq_false_iff_eq]; omega
          by_cases e3 : O1 = O2
          · have q3 : (O1 != O2) = false := by rw [bne_eq_false_iff_eq]; exact e3
            have hnow := hstep.out.2 ⟨e1, e2, e3⟩
            have hr7 := hr.out.below bo7
            have hoa7 := hoa.out.below bo7
            have hB7 := bI7.size
            replace e1 := Lib.hid e1
            replace e2 := Lib.hid e2
            replace e3 := Lib.hid e3
            replace hr7 := Lib.hid hr7
            go_wp2_with (at_builtin; go_loud (refine wpl_append1 rfl _ _ rfl w5.heap.size av _ s hoa7 rfl rfl (by omega) hB7 ?_))
            intro av2 w8 ho8 b8 hgr8 hal8
            have hr8 := hr7.out.push hfa.out (s : Int) ho8 hgr8 hal8
            have hfb8 : upd f2 (1, 0) (some (rowI av2 (alongW K m (· / N) (ns.take (j + 1)) ++ [(s : Int)]))) (2, 0) = some (rowI bv (alongW K m (· % N) (ns.take (j + 1)))) := by rw [upd_ne _ _ (by simp)]; exact hfb.out
            have hob8 := hr8.ownI hfb8
            have hB8 : w5.heap.size ≤ w8.heap.size := Nat.le_trans hB7 b8.size
            obtain ⟨a2a, a2n, a2c, rfl⟩ := ho8.at.shape
            replace hr8 := Lib.hid hr8
            replace ho8 := Lib.hid ho8
            clear hgr8 hal8 hoa7
            go_wp2_with (at_builtin; go_loud (refine wpl_append1 rfl _ _ rfl w5.heap.size bv _ t hob8 rfl rfl (by omega) hB8 ?_))
            intro bv2 w9 ho9 b9 hgr9 hal9
            have hr9 := hr8.out.push hfb8 (t : Int) ho9 hgr9 hal9
            obtain ⟨b2a, b2n, b2c, rfl⟩ := ho9.at.shape
            replace hr9 := Lib.hid hr9
            replace ho9 := Lib.hid ho9
            replace hfb8 := Lib.hid hfb8
            clear hgr9 hal9 hob8
            go_wp2
            go_roundw
            case measure => have := hjl2.out; simp [intOf]; omega
            case rel =>
              refine ⟨j + 1, _, _, _, by have := hjl2.out; omega, by go_num, rfl, rfl, hr9.out, bI7.trans (b8.trans b9), ?_, ?_, fun i hi => ?_⟩
              · rw [upd_ne _ _ (by simp), upd_same, haS.out]
              · rw [upd_same, hbS.out]
              · by_cases e : i = j
                · subst e; rw [hpj.out, hp.out]; exact hnow
                · exact hfit.out i (by omega)
          · have q3 : (O1 != O2) = true := by rw [bne_iff_ne]; exact e3
            have hnow : ¬ AllFit K N T' ns := fun hA => by
              have := hA j (by have := hll.out; have := hjl2.out; omega)
              rw [hpj.out, hp.out, hstep.out] at this
              exact e3 this.2.2
            replace hnow := Lib.hid hnow
            go_wp2_with fail
            refine (pairs_wrong r _ _ w7 (hg5.out.below bI7) (by decide) (by decide)).mono ?_
            rintro e w8 ⟨x, rfl, b8, he⟩
            replace he := Lib.hid he
            have bE := Below.step (b05.trans (bI7.mono b05.size)) b8
            go_wp2
            go_ret3
            exact ⟨_, _, _, rfl, bE, .inr ⟨hnow.out, rfl, rfl, he.out⟩⟩
        · have q2 : ((X2 : Int) != (v1 : Int)) = true := by rw [bne_iff_ne]; omega
          have hnow : ¬ AllFit K N T' ns := fun hA => by
            have := hA j (by have := hll.out; have := hjl2.out; omega)
            rw [hpj.out, hp.out, hstep.out] at this
            exact e2 this.2.1
          replace hnow := Lib.hid hnow
          go_wp2_with fail
          refine (pairs_wrong r _ _ w7 (hg5.out.below bI7) (by decide) (by decide)).mono ?_
          rintro e w8 ⟨x, rfl, b8, he⟩
          replace he := Lib.hid he
          have bE := Below.step (b05.trans (bI7.mono b05.size)) b8
          go_wp2
          go_ret3
          exact ⟨_, _, _, rfl, bE, .inr ⟨hnow.out, rfl, rfl, he.out⟩⟩
      · have q1 : ((X1 : Int) != (u1 : Int)) = true := by rw [bne_iff_ne]; omega
        have hnow : ¬ AllFit K N T' ns := fun hA => by
          have := hA j (by have := hll.out; have := hjl2.out; omega)
          rw [hpj.out, hp.out, hstep.out] at this
          exact e1 this.1
        replace hnow := Lib.hid hnow
        go_wp2_with fail
        refine (pairs_wrong r _ _ w7 (hg5.out.below bI7) (by decide) (by decide)).mono ?_
        rintro e w8 ⟨x, rfl, b8, he⟩
        replace he := Lib.hid he
        have bE := Below.step (b05.trans (bI7.mono b05.size)) b8
        go_wp2
        go_ret3
        exact ⟨_, _, _, rfl, bE, .inr ⟨hnow.out, rfl, rfl, he.out⟩⟩
    · obtain rfl : j = L1 := by omega
      have hall : ns.take (j + 1) = ns := List.take_of_length_le (by have := hL1.out; omega)
      rw [hall] at hfa hfb
      have hoa := hr.ownI hfa
      have hob := hr.ownI hfb
      have hdis := hr.2 (1, 0) (2, 0) _ _ hfa hfb (by simp)
      have hAll : AllFit K N T' ns := fun i hi => hfit i (by have := hL1.out; omega)
      have hoa' := hoa.mono (B' := w.heap.size) b05.size
      have hob' := hob.mono (B' := w.heap.size) b05.size
      obtain ⟨a2a, a2n, a2c, rfl⟩ := hoa.at.shape
      obtain ⟨b2a, b2n, b2c, rfl⟩ := hob.at.shape
      replace hr := Lib.hid hr
      replace hfa := Lib.hid hfa
      replace hfb := Lib.hid hfb
      replace hoa := Lib.hid hoa
      replace hob := Lib.hid hob
      replace hoa' := Lib.hid hoa'
      replace hob' := Lib.hid hob'
      replace hdis := Lib.hid hdis
      replace hAll := Lib.hid hAll
      replace hfit := Lib.hid hfit
      go_wp2
      go_ret3
      exact ⟨_, _, _, rfl, b0o, .inl ⟨hAll.out, rfl, hoa'.out, hob'.out, hdis.out⟩⟩
end Go.Proofs.YtilpckngghffoaaGreatDoor

namespace Go.Proofs.YtilpckngghffoaaGreatDoor

theorem winD_syms {K m u s : Nat} (hK : 1 ≤ K) (hs : s < K) : Syms K (digs K m u ++ [(s : Int)]) := by
  intro y hy
  rcases List.mem_append.1 hy with h | h
  · exact digs_syms hK m u y h
  · obtain rfl := List.mem_singleton.1 h
    omega
theorem winD_num {K m u s : Nat} (hK : 1 ≤ K) (hu : u < pw K m) : numW K (digs K m u ++ [(s : Int)]) = u * K + s := by
  rw [numW_snoc, numW_digs hK m u hu]; simp
/-- A window less its first symbol is the window that begins one step later. -/
theorem winD_next {K m u s : Nat} (hK : 1 ≤ K) (hu : u < pw K m) (hs : s < K) : ∃ c, digs K m u ++ [(s : Int)] = c :: digs K m ((u * K + s) % pw K m) := by
  have hl : (digs K m u ++ [(s : Int)]).length = m + 1 := by simp [digs_length]
  have hy := winD_syms (m := m) (u := u) hK hs
  have hn := winD_num (s := s) hK hu
  cases hw : digs K m u ++ [(s : Int)] with
  | nil => rw [hw] at hl; simp at hl
  | cons c v =>
    rw [hw] at hl hy hn
    have hv : v.length = m := by simpa using hl
    have hyv : Syms K v := fun y h => hy y (List.mem_cons_of_mem _ h)
    have h1 := numW_mod (K := K) (u := [c]) (v := v) hyv
    rw [hv, show [c] ++ v = c :: v from rfl, hn] at h1
    have h2 := digs_numW hK v hyv
    rw [hv] at h2
    exact ⟨c, by rw [h1, h2]⟩
theorem winD_drop {K m u s : Nat} (hK : 1 ≤ K) (hu : u < pw K m) (hs : s < K) : (digs K m u ++ [(s : Int)]).drop 1 = digs K m ((u * K + s) % pw K m) := by
  obtain ⟨c, h⟩ := winD_next (m := m) (u := u) (s := s) hK hu hs
  rw [h]; rfl
theorem takeD_next {ns : List Nat} {j : Nat} (h : j + 1 < ns.length) : ns.take (j + 1 + 1) = ns.take (j + 1) ++ [ns.getD (j + 1) 0] := by
  rw [List.take_add_one, List.getElem?_eq_getElem h]
  simp [List.getD, h]
theorem takeD_ne {ns : List Nat} {j : Nat} (h : j < ns.length) : ns.take (j + 1) ≠ [] := by
  intro e
  have := congrArg List.length e
  rw [List.length_take, List.length_nil] at this
  omega
/-- A word along a way ends in the window of the way's last node, as long as the steps fit. -/
theorem along_pre {K m : Nat} (hK : 1 ≤ K) (F : Nat → Nat) (ns : List Nat) : ∀ j, j < ns.length → (∀ i, i ≤ j → F (ns.getD i 0) < pw K m) →
    (∀ i, i < j → toN K (pw K m) (F (ns.getD i 0)) (F (ns.getD (i + 1) 0) % K) = F (ns.getD (i + 1) 0)) →
    ∃ pre : List Int, pre.length = j ∧ alongW K m F (ns.take (j + 1)) = pre ++ digs K m (F (ns.getD j 0))
  | 0, hj, _, _ => ⟨[], rfl, by
      rw [show ns.take (0 + 1) = [ns.getD 0 0] by
        cases ns with
        | nil => simp at hj
        | cons a l => simp, alongW_one]
      rfl⟩
  | j + 1, hj, hlt, hf => by
    obtain ⟨pre, hl, he⟩ := along_pre hK F ns j (by omega) (fun i hi => hlt i (by omega)) (fun i hi => hf i (by omega))
    have hs : F (ns.getD (j + 1) 0) % K < K := Nat.mod_lt _ hK
    obtain ⟨c, hc⟩ := winD_next (m := m) hK (hlt j (by omega)) hs
    have h1 := hf j (by omega)
    unfold toN at h1
    rw [h1] at hc
    refine ⟨pre ++ [c], by simp [hl], ?_⟩
    rw [takeD_next hj, alongW_snoc K m F _ _ (takeD_ne (by omega)), he, List.append_assoc, hc]
    simp
/-- The last m + 1 symbols once the next symbol is put on. -/
theorem along_win {K m : Nat} (hK : 1 ≤ K) (F : Nat → Nat) (ns : List Nat) (j : Nat) (hj : j + 1 < ns.length) (hlt : ∀ i, i ≤ j → F (ns.getD i 0) < pw K m)
    (hf : ∀ i, i < j → toN K (pw K m) (F (ns.getD i 0)) (F (ns.getD (i + 1) 0) % K) = F (ns.getD (i + 1) 0)) :
    (alongW K m F (ns.take (j + 1 + 1))).drop j = digs K m (F (ns.getD j 0)) ++ [((F (ns.getD (j + 1) 0) % K : Nat) : Int)] := by
  obtain ⟨pre, hl, he⟩ := along_pre hK F ns j (by omega) hlt hf
  rw [takeD_next hj, alongW_snoc K m F _ _ (takeD_ne (by omega)), he, List.append_assoc, ← hl, List.drop_left]
theorem lab_lt {K N u s : Nat} (hu : u < N) (hs : s < K) : u * K + s < N * K := by
  have h : (u + 1) * K ≤ N * K := Nat.mul_le_mul_right K hu
  rw [Nat.add_mul] at h
  omega
/-- The window at the end of a word along a way, by its last node and the symbol put on. -/
theorem along_winN {K m N : Nat} (hK : 1 ≤ K) (hN : pw K m = N) (F : Nat → Nat) (ns : List Nat) (j : Nat) (hj : j + 1 < ns.length) (hlt : ∀ i, i ≤ j → F (ns.getD i 0) < N)
    (hf : ∀ i, i < j → toN K N (F (ns.getD i 0)) (F (ns.getD (i + 1) 0) % K) = F (ns.getD (i + 1) 0)) {u s : Nat} (hu : F (ns.getD j 0) = u) (hs : F (ns.getD (j + 1) 0) % K = s) :
    alongW K m F (ns.take (j + 1)) ++ [(s : Int)] = alongW K m F (ns.take (j + 1 + 1)) ∧ (alongW K m F (ns.take (j + 1)) ++ [(s : Int)]).drop j = digs K m u ++ [(s : Int)] ∧ u < N := by
  subst hN hu hs
  have e : alongW K m F (ns.take (j + 1)) ++ [((F (ns.getD (j + 1) 0) % K : Nat) : Int)] = alongW K m F (ns.take (j + 1 + 1)) := by
    rw [takeD_next hj, alongW_snoc K m F _ _ (takeD_ne (by omega))]
  refine ⟨e, ?_, hlt j (Nat.le_refl _)⟩
  rw [e]
  exact along_win hK F ns j hj hlt hf
theorem win_facts {K m N u s : Nat} (hK : 1 ≤ K) (hN : pw K m = N) (hu : u < N) (hs : s < K) :
    Syms K (digs K m u ++ [(s : Int)]) ∧ numW K (digs K m u ++ [(s : Int)]) = u * K + s ∧ (digs K m u ++ [(s : Int)]).drop 1 = digs K m (toN K N u s) ∧ numW K (digs K m (toN K N u s)) = toN K N u s ∧ (digs K m u ++ [(s : Int)]).length = m + 1 := by
  subst hN
  refine ⟨winD_syms hK hs, winD_num hK hu, winD_drop hK hu hs, numW_digs hK m _ (Nat.mod_lt _ (pw_pos m hK)), by simp [digs_length]⟩
end Go.Proofs.YtilpckngghffoaaGreatDoor

namespace Go.Proofs.YtilpckngghffoaaGreatDoor
open Go.RowKit
set_option maxRecDepth 100000

/-- append(s, t...) in a region that draws, with what else it keeps. -/
theorem step_appIG {ops : Array Oper} {o : Oper} {a : Act} {w : World} {K : Act → World → Prop} {Q : Exit → Act → World → Prop} {Ep : Prop} (hgd : o.guard = none) (s x : Operand)
    (ho : o.op = .call { callee := .builtin .append, args := #[s, x], argTypes := #[22, 22] })
    (B : Nat) (v u : Value) (xs ys : List Int) (hs : a.eval s = v) (hx : a.eval x = u) (hown : OwnI B w v xs) (hu : IntsAt w u ys)
    (hlen : xs.length + ys.length ≤ 17592186044416) (hB : B ≤ w.heap.size)
    (h : ∀ v' w', OwnI B w' v' (xs ++ ys) → Below B w w' → w.grownBy w' v.ownBlock → (v'.ownBlock = v.ownBlock ∨ ∃ k, v'.ownBlock = some k ∧ w.heap.size ≤ k) → K (a.put o.dst v') w') :
    if Region.wanted o (yielded ops a.tmps) = true then Oper.wp Tryz.prog o a w K Q else Ep := by
  have hw : Region.wanted o (yielded ops a.tmps) = true := by simp [Region.wanted, hgd]
  rw [if_pos hw]
  obtain ⟨v', w', hr, h2, h3, h4, h5⟩ := run_appI B o.type v u xs ys hown hu hlen hB
  unfold Oper.wp
  simp [execOp, ho, resolve, invoke, builtin, hs, hx, hr, Result.andThen]
  exact h v' w' h2 h3 h4 (h5.imp_right fun q => ⟨_, q, Nat.le_refl _⟩)

theorem meas_up {n i : Nat} (h : i < n) : n - ((i : Int) + 1).toNat < n - (i : Int).toNat := by omega
/-- What edenref13.Words leaves, of a list of nodes. -/
def RWords (B : Nat) (K R : Nat) (T : List Int) (ns : List Nat) (x y z : Value) (w' : World) : Prop :=
  (AllFit K (pw K (2 * R)) T ns ∧ z = .agg #[.int .i64 0, .slice none 0 0, .slice none 0 0] ∧ OwnI B w' x (alongW K (2 * R) (· / pw K (2 * R)) ns) ∧ OwnI B w' y (alongW K (2 * R) (· % pw K (2 * R)) ns)) ∨
  (¬ AllFit K (pw K (2 * R)) T ns ∧ x = .slice none 0 0 ∧ y = .slice none 0 0 ∧ EOwn B w' (fresh sPairs 1 3) z)

set_option maxHeartbeats 8000000 in
theorem ref13_words_way (K R : Nat) (va : Option Addr) (vn vc : Nat) (T : List Int) (u : Value) (ns : List Nat) (w : World) (h : IntsAt w (.slice va vn vc) T) (hr : RuleOk K R T) (hl : T.length ≤ 256) (hu : IntsAt w u (castI ns)) (hne : ns ≠ []) (hlow : ∀ p ∈ ns, p < pw K (2 * wkR R) * pw K (2 * wkR R)) (hnl : ns.length ≤ 17592186044000) :
    Calls Tryz.prog 26 #[.agg #[.int .i64 K, .int .i64 R, .slice va vn vc], u] w (Ret3 (RWords w.heap.size K (wkR R) (wkT K R T) ns) w) := by
  have hsm : smallP K R T = none := by rw [smallP_ok hr, if_neg (by omega)]
  have hk1 := hr.k1
  have hk4 := hr.k4
  have hokW := wk_ok hr
  have hN81 := nodes_le hokW (wk_pos R) (wk_small hr hl)
  have hR3 := hokW.r3
  obtain ⟨hdiv, hlen⟩ := hokW.half
  have hN1 := pw_pos (K := K) (2 * wkR R) hk1
  have hwork := fun (w' : World) (h' : IntsAt w' (.slice va vn vc) T) => ref_working K R va vn vc T w' h' hr
  have hcnt := fun (a : Option Addr) (n c : Nat) (w' : World) => ref_count K (wkR R) a n c w' hk1 hk4 hR3
  unfold RWords
  obtain ⟨m, hm⟩ : ∃ m, 2 * wkR R = m := ⟨_, rfl⟩
  rw [hm] at hlow hN81 hN1 hdiv hlen hcnt ⊢
  obtain ⟨N, hN⟩ : ∃ N, pw K m = N := ⟨_, rfl⟩
  rw [hN] at hlow hN81 hN1 hdiv hlen hcnt ⊢
  generalize wkT K R T = T' at *
  generalize wkR R = R' at *
  have hm7 : m ≤ 6 := by omega
  obtain ⟨ua, un, uc, rfl⟩ := hu.shape
  have bA := Below.step (belowAlloc w (.cells #[.int .i64 K, .int .i64 R, .slice va vn vc] 24)) (belowAlloc _ (.cells #[.int .i64 0, .slice none 0 0, .slice none 0 0] 33))
  have qA : Box3 ((w.alloc (.cells #[.int .i64 K, .int .i64 R, .slice va vn vc] 24)).alloc (.cells #[.int .i64 0, .slice none 0 0, .slice none 0 0] 33)) w.heap.size (.int .i64 K) (.int .i64 R) (.slice va vn vc) := by simp [Box3, go_sem]
  have q4 : Box3 ((w.alloc (.cells #[.int .i64 K, .int .i64 R, .slice va vn vc] 24)).alloc (.cells #[.int .i64 0, .slice none 0 0, .slice none 0 0] 33)) (w.heap.size + 1) (.int .i64 0) (.slice none 0 0) (.slice none 0 0) := by simp [Box3, go_sem]
  have s0 : ((w.alloc (.cells #[.int .i64 K, .int .i64 R, .slice va vn vc] 24)).alloc (.cells #[.int .i64 0, .slice none 0 0, .slice none 0 0] 33)).heap.size = w.heap.size + 2 := by simp
  obtain ⟨WA, hWA⟩ : ∃ W : World, ((w.alloc (.cells #[.int .i64 K, .int .i64 R, .slice va vn vc] 24)).alloc (.cells #[.int .i64 0, .slice none 0 0, .slice none 0 0] 33)) = W := ⟨_, rfl⟩
  replace h := h.below bA
  replace hu := hu.below bA
  rw [hWA] at h hu bA qA q4 s0
  replace h := Lib.hid h
  replace s0 := Lib.hid s0
  replace hWA := Lib.hid hWA
  have qA0 := qA
  obtain ⟨⟨z0, z1, z2⟩, -, -, -⟩ := qA0
  have lu := hu.len
  rw [castI_len] at lu
  have hnp : 0 < ns.length := List.length_pos_iff.2 hne
  have gU : ∀ i, i < ns.length → (castI ns).getD i 0 = ((ns.getD i 0 : Nat) : Int) := fun i hi => by simp [castI, List.getD, hi]
  have hlow2 : ∀ i, i < ns.length → ns.getD i 0 < N * N := fun i hi => by
    simp only [List.getD_eq_getElem?_getD, List.getElem?_eq_getElem hi, Option.getD_some]
    exact hlow _ (List.getElem_mem hi)
  have hW2 : IntKind.i64.wrap (2 * (R' : Int)) = (m : Int) := by rw [← hm]; rw [show (2 * (R' : Int)) = ((2 * R' : Nat) : Int) by simp]; exact wrapK (by omega) (by omega)
  replace hu := Lib.hid hu
  replace hsm := Lib.hid hsm
  replace hwork := Lib.hid hwork
  replace hcnt := Lib.hid hcnt
  replace hr := Lib.hid hr
  replace hokW := Lib.hid hokW
  replace hm := Lib.hid hm
  replace hN := Lib.hid hN
  replace hdiv := Lib.hid hdiv
  replace hlen := Lib.hid hlen
  replace gU := Lib.hid gU
  replace hlow := Lib.hid hlow
  replace hlow2 := Lib.hid hlow2
  have hNN : ((N : Int) * (N : Int)) = ((N * N : Nat) : Int) := by simp
  have hM6 : N * N ≤ 6561 := Nat.mul_le_mul hN81 hN81
  obtain ⟨M, hM⟩ : ∃ M, N * N = M := ⟨_, rfl⟩
  rw [hM] at hNN hM6
  have hMw : IntKind.i64.wrap (M : Int) = (M : Int) := wrapK (by omega) (by omega)
  have hl0 : ¬ ns.length = 0 := by omega
  have hl1 : ((ns.length : Int) == 0) = false := by rw [beq_eq_false_iff_ne]; omega
  replace hM := Lib.hid hM
  go_enter Tryz.func26, Tryz.ntmps26
  go_upto_region 1 with fail
  rw [hWA.out]
  go_wp2_with fail
  refine (ref08_fault _ K R va vn vc T WA h.out).mono ?_
  rintro e w1 ⟨x, rfl, b1, he⟩
  rw [hsm.out] at he
  obtain rfl : x = .agg #[.int .i64 0, .slice none 0 0, .slice none 0 0] := he
  obtain ⟨be, ⟨⟨y0, y1, y2⟩, -, -, -⟩⟩ := err_box8 w1 (.int .i64 0) (.slice none 0 0) (.slice none 0 0)
  have c1e := Below.step b1 be
  obtain ⟨W2, hW2⟩ : ∃ W2 : World, w1.alloc (.cells #[.int .i64 0, .slice none 0 0, .slice none 0 0] 33) = W2 := ⟨_, rfl⟩
  rw [hW2] at be c1e y0 y1 y2
  replace hW2 := Lib.hid hW2
  clear z0 z1 z2
  go_upto_region 2 with fail
  rw [hW2.out]
  go_wp2_with fail
  refine (err_bad _ _ _ _ _ _ _ W2).mono ?_
  rintro e w3 ⟨_, rfl, b3, rfl⟩
  rw [show ((0 : Int) != 0) = false from rfl]
  have c3 := Below.step c1e b3
  clear y0 y1 y2
  obtain ⟨⟨z0, z1, z2⟩, -, -, -⟩ := qA.below c3
  go_wp2_with fail
  refine (hwork.out w3 (h.out.below c3)).mono ?_
  rintro e w4 ⟨_, rfl, b4, a, n, c, rfl, hT⟩
  have c4 := Below.step c3 b4
  obtain ⟨bb, qb⟩ : Below w4.heap.size w4 (w4.alloc (.cells #[.int .i64 K, .int .i64 R', .slice a n c] 24)) ∧ Box3 (w4.alloc (.cells #[.int .i64 K, .int .i64 R', .slice a n c] 24)) w4.heap.size (.int .i64 K) (.int .i64 R') (.slice a n c) := ⟨belowAlloc _ _, by simp [Box3, go_sem]⟩
  have c5 := Below.step c4 bb
  obtain ⟨W5, hW5⟩ : ∃ W : World, w4.alloc (.cells #[.int .i64 K, .int .i64 R', .slice a n c] 24) = W := ⟨_, rfl⟩
  rw [hW5] at bb qb c5
  replace hW5 := Lib.hid hW5
  replace hT := Lib.hid hT
  clear z0 z1 z2
  have qb0 := qb
  obtain ⟨⟨z0, z1, z2⟩, -, -, -⟩ := qb
  go_upto_region 5 with fail
  rw [hW5.out]
  go_wp2_with fail
  refine (hcnt.out a n c W5).mono ?_
  rintro e w6 ⟨_, rfl, b6, rfl⟩
  have c6 := Below.step c5 b6
  have s6 := c6.size
  rw [s0.out] at s6
  clear z0 z1 z2
  have close : ∀ (w9 : World) (z : Value), Below w6.heap.size w6 w9 → EOwn w6.heap.size w9 (fresh sPairs 1 3) z →
      ∃ (n1 : Int) (a1 : Option Addr) (m1 d1 : Nat) (a2 : Option Addr) (m2 d2 : Nat), z = .agg #[.int .i64 n1, .slice a1 m1 d1, .slice a2 m2 d2] ∧ w9.cell? ⟨w.heap.size + 1, 0, none⟩ = some (.int .i64 0) ∧ w9.cell? ⟨w.heap.size + 1, 1, none⟩ = some (.slice none 0 0) ∧ w9.cell? ⟨w.heap.size + 1, 2, none⟩ = some (.slice none 0 0) ∧
        w9.frozen? ⟨w.heap.size + 1, 0, none⟩ = false ∧ w9.frozen? ⟨w.heap.size + 1, 1, none⟩ = false ∧ w9.frozen? ⟨w.heap.size + 1, 2, none⟩ = false ∧
        Below w.heap.size w (((w9.setCell ⟨w.heap.size + 1, 0, none⟩ (.int .i64 n1)).setCell ⟨w.heap.size + 1, 1, none⟩ (.slice a1 m1 d1)).setCell ⟨w.heap.size + 1, 2, none⟩ (.slice a2 m2 d2)) ∧
        EOwn w.heap.size (((w9.setCell ⟨w.heap.size + 1, 0, none⟩ (.int .i64 n1)).setCell ⟨w.heap.size + 1, 1, none⟩ (.slice a1 m1 d1)).setCell ⟨w.heap.size + 1, 2, none⟩ (.slice a2 m2 d2)) (fresh sPairs 1 3) z := fun w9 z b9 he => by
    have he' := he
    obtain ⟨a1, m1, d1, a2, m2, d2, rfl, _, _⟩ := he'
    have c9 := Below.step c6 b9
    obtain ⟨⟨u0, u1, u2⟩, f0, f1, f2⟩ := q4.below c9
    exact ⟨_, a1, m1, d1, a2, m2, d2, rfl, u0, u1, u2, f0, f1, f2, below_set3 (Below.step bA c9) (by omega) _ _ _, (he.set3 (by omega) _ _ _).mono (by omega)⟩
  replace close := Lib.hid close

  have hu6 := hu.out.below c6
  have hT6 := (hT.out.below bb).below b6
  have qb6 := qb0.below b6
  replace hu := Lib.hid hu
  replace hT6 := Lib.hid hT6
  have iU := fun (i : Nat) (hi : i < ns.length) w' => hu6.idx i (by rw [castI_len]; exact hi) w'
  have cU := fun (i : Nat) (hi : i < ns.length) => (hu6.cellD i (by rw [castI_len]; exact hi)).trans (by rw [gU.out i hi])
  replace iU := Lib.hid iU
  replace cU := Lib.hid cU
  replace qb6 := Lib.hid qb6
  clear hu6
  go_wp2_with fail
  go_loopw [10] (fun iv wr => ∃ i : Nat, i ≤ ns.length ∧ iv = .int .i64 i ∧ Below w6.heap.size w6 wr) (fun iv _ => ns.length - (intOf iv).toNat)
  case atStart => exact ⟨0, Nat.zero_le _, rfl, Below.refl _ _⟩
  case round =>
    obtain ⟨i, hi, rfl, bI⟩ := hrel
    obtain ⟨wo, rfl⟩ : ∃ wo : World, wo = wr := ⟨_, rfl⟩
    by_cases hil : i < ns.length
    · have dI : decide ((i : Int) < (ns.length : Int)) = true := decide_eq_true (by omega)
      have iW := fun w' => iU.out i hil w'
      have cW := (bI.cell (World.block_lt_of_cell? _ _ (cU.out i hil))).trans (cU.out i hil)
      have hx := hlow2.out i hil
      rw [hM.out] at hx
      generalize ns.getD i 0 = x at *
      have d1 : decide ((x : Int) < 0) = false := decide_eq_false (by omega)
      have d2 : decide ((M : Int) ≤ (x : Int)) = false := decide_eq_false (by omega)
      generalize valAt (.slice ua un uc) i = xa at *
      go_wp2_with fail
      go_roundw
      case measure => simp [intOf]; omega
      case rel => exact ⟨i + 1, by omega, by go_num, bI⟩
    · obtain rfl : i = ns.length := by omega
      have dI : decide ((ns.length : Int) < (ns.length : Int)) = false := decide_eq_false (by omega)
      obtain ⟨p0, hp0⟩ : ∃ p, ns.getD 0 0 = p := ⟨_, rfl⟩
      have hp0l : p0 < N * N := by rw [← hp0]; exact hlow2.out 0 hnp
      have i0 : ∀ w', (Instr.indexAt 22 (.slice ua un uc) (.int .i64 0)).run Tryz.prog w' = .ok (.pointer (some (valAt (.slice ua un uc) 0))) w' := fun w' => iU.out 0 hnp w'
      have c0 := cU.out 0 hnp
      rw [hp0] at c0
      replace c0 := (bI.cell (World.block_lt_of_cell? _ _ c0)).trans c0
      have hN0 : ((N : Int) == 0) = false := by rw [beq_eq_false_iff_ne]; omega
      have hN3 : ¬ N = 0 := by omega
      obtain ⟨d1, d2, d3, d4, d5, d6⟩ := dm9 p0 N (by omega)
      obtain ⟨u0, hu0⟩ : ∃ z, p0 / N = z := ⟨_, rfl⟩
      obtain ⟨v0, hv0⟩ : ∃ z, p0 % N = z := ⟨_, rfl⟩
      rw [hu0] at d1 d3 d5
      rw [hv0] at d2 d4 d6
      have hu0l : u0 < N := by rw [← hu0]; exact div_lt_of hp0l
      have hv0l : v0 < N := by rw [← hv0]; exact Nat.mod_lt _ (by omega)
      generalize valAt (.slice ua un uc) 0 = t0 at *
      have qbo := qb6.out.below bI
      obtain ⟨W, hW⟩ : ∃ W : World, wo.drew = W := ⟨_, rfl⟩
      have bW : Below w6.heap.size w6 W := by rw [← hW]; exact bI.drew
      have hS : W.cell? ⟨w4.heap.size, 0, none⟩ = some (.int .i64 K) ∧ W.cell? ⟨w4.heap.size, 1, none⟩ = some (.int .i64 R') ∧ W.cell? t0 = some (.int .i64 p0) := by rw [← hW]; exact ⟨qbo.1.1, qbo.1.2.1, c0⟩
      replace hp0 := Lib.hid hp0
      replace hu0 := Lib.hid hu0
      replace hv0 := Lib.hid hv0
      replace hW := Lib.hid hW
      clear c0 qbo
      go_upto_region 13 with fail
      refine wp_region_plan (fun w' => w'.cell? ⟨w4.heap.size, 0, none⟩ = some (.int .i64 K) ∧ w'.cell? ⟨w4.heap.size, 1, none⟩ = some (.int .i64 R') ∧ w'.cell? t0 = some (.int .i64 p0)) 11 [(0, true), (1, true), (2, true), (3, true), (4, true), (5, true), (6, true), (7, true), (8, true), (9, true), (10, false)] (by kernel_rfl) (by kernel_rfl) ?_
      rw [hW.out]
      refine headY (v := ?_) (some 52) rfl rfl (Or.inl ⟨by rfl, ?_⟩) hS ?_
      rotate_left
      · rintro W' ⟨s0, s1, s2⟩; go_simp; try with_reducible rfl
      simp only [Act.put, List.setIfInBounds_toArray, List.set_cons_zero, List.set_cons_succ]
      refine headY (v := ?_) (some 53) rfl rfl (Or.inl ⟨by rfl, ?_⟩) hS ?_
      rotate_left
      · rintro W' ⟨s0, s1, s2⟩; go_simp; try with_reducible rfl
      simp only [Act.put, List.setIfInBounds_toArray, List.set_cons_zero, List.set_cons_succ]
      refine headY (v := ?_) (some 54) rfl rfl (Or.inl ⟨by rfl, ?_⟩) hS ?_
      rotate_left
      · rintro W' ⟨s0, s1, s2⟩; go_simp; try with_reducible rfl
      simp only [Act.put, List.setIfInBounds_toArray, List.set_cons_zero, List.set_cons_succ]
      refine headY (v := ?_) (some 55) rfl rfl (Or.inl ⟨by rfl, ?_⟩) hS ?_
      rotate_left
      · rintro W' ⟨s0, s1, s2⟩; go_simp; try with_reducible rfl
      simp only [Act.put, List.setIfInBounds_toArray, List.set_cons_zero, List.set_cons_succ]
      refine headY (v := ?_) (some 56) rfl rfl (Or.inl ⟨by rfl, ?_⟩) hS ?_
      rotate_left
      · rintro W' ⟨s0, s1, s2⟩; go_simp; try with_reducible rfl
      simp only [Act.put, List.setIfInBounds_toArray, List.set_cons_zero, List.set_cons_succ]
      refine headY (v := ?_) (some 57) rfl rfl (Or.inl ⟨by rfl, ?_⟩) hS ?_
      rotate_left
      · rintro W' ⟨s0, s1, s2⟩; go_simp; try with_reducible rfl
      simp only [Act.put, List.setIfInBounds_toArray, List.set_cons_zero, List.set_cons_succ]
      refine headY (v := ?_) (some 58) rfl rfl (Or.inl ⟨by rfl, ?_⟩) hS ?_
      rotate_left
      · rintro W' ⟨s0, s1, s2⟩; go_simp; try with_reducible rfl
      simp only [Act.put, List.setIfInBounds_toArray, List.set_cons_zero, List.set_cons_succ]
      refine headY (v := ?_) (some 59) rfl rfl (Or.inl ⟨by rfl, ?_⟩) hS ?_
      rotate_left
      · rintro W' ⟨s0, s1, s2⟩; go_simp; try with_reducible rfl
      simp only [Act.put, List.setIfInBounds_toArray, List.set_cons_zero, List.set_cons_succ]
      refine headY (v := ?_) (some 60) rfl rfl (Or.inl ⟨by rfl, ?_⟩) hS ?_
      rotate_left
      · rintro W' ⟨s0, s1, s2⟩; go_simp; try with_reducible rfl
      simp only [Act.put, List.setIfInBounds_toArray, List.set_cons_zero, List.set_cons_succ]
      refine headY (v := ?_) (some 61) rfl rfl (Or.inl ⟨by rfl, ?_⟩) hS ?_
      rotate_left
      · rintro W' ⟨s0, s1, s2⟩; go_simp; try with_reducible rfl
      simp only [Act.put, List.setIfInBounds_toArray, List.set_cons_zero, List.set_cons_succ]
      refine headC rfl (fun KK hK => ?_)
      go_simp
      refine (ref_digits K m u0 K m u0 W rfl rfl rfl hk1 hk4 (by omega) (by omega)).mono ?_
      rintro e w7 ⟨av, rfl, b7, ho7⟩
      have hS7 : w7.cell? ⟨w4.heap.size, 0, none⟩ = some (.int .i64 K) ∧ w7.cell? ⟨w4.heap.size, 1, none⟩ = some (.int .i64 R') ∧ w7.cell? t0 = some (.int .i64 p0) := ⟨cell_keep b7 hS.1, cell_keep b7 hS.2.1, (b7.cell (World.block_lt_of_cell? _ _ hS.2.2)).trans hS.2.2⟩
      refine hK _ _ hS7 ?_
      clear hK KK
      refine head0 ?_
      simp only [List.drop_succ_cons, List.drop_zero]
      clear hS
      obtain ⟨W8, hW8⟩ : ∃ W : World, w7.drew = W := ⟨_, rfl⟩
      have hS8 : W8.cell? ⟨w4.heap.size, 0, none⟩ = some (.int .i64 K) ∧ W8.cell? ⟨w4.heap.size, 1, none⟩ = some (.int .i64 R') ∧ W8.cell? t0 = some (.int .i64 p0) := by rw [← hW8]; exact hS7
      have b78 : Below W.heap.size W W8 := by rw [← hW8]; exact b7.drew
      have ho8 : OwnI W.heap.size W8 av (digs K m u0) := by rw [← hW8]; exact ho7.drew
      replace hW8 := Lib.hid hW8
      replace ho7 := Lib.hid ho7
      replace ho8 := Lib.hid ho8
      clear hS7
      go_wp2
      refine NoPanic.normal ?_
      go_upto_region 14 with fail
      refine wp_region_plan (fun w' => w'.cell? ⟨w4.heap.size, 0, none⟩ = some (.int .i64 K) ∧ w'.cell? ⟨w4.heap.size, 1, none⟩ = some (.int .i64 R') ∧ w'.cell? t0 = some (.int .i64 p0)) 11 [(0, true), (1, true), (2, true), (3, true), (4, true), (5, true), (6, true), (7, true), (8, true), (9, true), (10, false)] (by kernel_rfl) (by kernel_rfl) ?_
      rw [hW8.out]
      refine headY (v := ?_) (some 63) rfl rfl (Or.inl ⟨by rfl, ?_⟩) hS8 ?_
      rotate_left
      · rintro W' ⟨s0, s1, s2⟩; go_simp; try with_reducible rfl
      simp only [Act.put, List.setIfInBounds_toArray, List.set_cons_zero, List.set_cons_succ]
      refine headY (v := ?_) (some 64) rfl rfl (Or.inl ⟨by rfl, ?_⟩) hS8 ?_
      rotate_left
      · rintro W' ⟨s0, s1, s2⟩; go_simp; try with_reducible rfl
      simp only [Act.put, List.setIfInBounds_toArray, List.set_cons_zero, List.set_cons_succ]
      refine headY (v := ?_) (some 65) rfl rfl (Or.inl ⟨by rfl, ?_⟩) hS8 ?_
      rotate_left
      · rintro W' ⟨s0, s1, s2⟩; go_simp; try with_reducible rfl
      simp only [Act.put, List.setIfInBounds_toArray, List.set_cons_zero, List.set_cons_succ]
      refine headY (v := ?_) (some 66) rfl rfl (Or.inl ⟨by rfl, ?_⟩) hS8 ?_
      rotate_left
      · rintro W' ⟨s0, s1, s2⟩; go_simp; try with_reducible rfl
      simp only [Act.put, List.setIfInBounds_toArray, List.set_cons_zero, List.set_cons_succ]
      refine headY (v := ?_) (some 67) rfl rfl (Or.inl ⟨by rfl, ?_⟩) hS8 ?_
      rotate_left
      · rintro W' ⟨s0, s1, s2⟩; go_simp; try with_reducible rfl
      simp only [Act.put, List.setIfInBounds_toArray, List.set_cons_zero, List.set_cons_succ]
      refine headY (v := ?_) (some 68) rfl rfl (Or.inl ⟨by rfl, ?_⟩) hS8 ?_
      rotate_left
      · rintro W' ⟨s0, s1, s2⟩; go_simp; try with_reducible rfl
      simp only [Act.put, List.setIfInBounds_toArray, List.set_cons_zero, List.set_cons_succ]
      refine headY (v := ?_) (some 69) rfl rfl (Or.inl ⟨by rfl, ?_⟩) hS8 ?_
      rotate_left
      · rintro W' ⟨s0, s1, s2⟩; go_simp; try with_reducible rfl
      simp only [Act.put, List.setIfInBounds_toArray, List.set_cons_zero, List.set_cons_succ]
      refine headY (v := ?_) (some 70) rfl rfl (Or.inl ⟨by rfl, ?_⟩) hS8 ?_
      rotate_left
      · rintro W' ⟨s0, s1, s2⟩; go_simp; try with_reducible rfl
      simp only [Act.put, List.setIfInBounds_toArray, List.set_cons_zero, List.set_cons_succ]
      refine headY (v := ?_) (some 71) rfl rfl (Or.inl ⟨by rfl, ?_⟩) hS8 ?_
      rotate_left
      · rintro W' ⟨s0, s1, s2⟩; go_simp; try with_reducible rfl
      simp only [Act.put, List.setIfInBounds_toArray, List.set_cons_zero, List.set_cons_succ]
      refine headY (v := ?_) (some 72) rfl rfl (Or.inl ⟨by rfl, ?_⟩) hS8 ?_
      rotate_left
      · rintro W' ⟨s0, s1, s2⟩; go_simp; try with_reducible rfl
      simp only [Act.put, List.setIfInBounds_toArray, List.set_cons_zero, List.set_cons_succ]
      refine headC rfl (fun KK hK => ?_)
      go_simp
      refine (ref_digits K m v0 K m v0 W8 rfl rfl rfl hk1 hk4 (by omega) (by omega)).mono ?_
      rintro e w9 ⟨bv, rfl, b9, ho9⟩
      have hS9 : w9.cell? ⟨w4.heap.size, 0, none⟩ = some (.int .i64 K) ∧ w9.cell? ⟨w4.heap.size, 1, none⟩ = some (.int .i64 R') ∧ w9.cell? t0 = some (.int .i64 p0) := ⟨cell_keep b9 hS8.1, cell_keep b9 hS8.2.1, (b9.cell (World.block_lt_of_cell? _ _ hS8.2.2)).trans hS8.2.2⟩
      refine hK _ _ hS9 ?_
      clear hK KK
      refine head0 ?_
      simp only [List.drop_succ_cons, List.drop_zero]
      clear hS8 hS9
      have r1 := (Rows.void W.heap.size W).add (i := (1, 0)) (r' := rowI av (digs K m u0)) b78 ho8.out (fun k hk => (ho8.out.lt k hk).1)
      have r2 := r1.add (i := (2, 0)) (r' := rowI bv (digs K m v0)) b9 (ho9.mono b78.size) (fun k hk => (ho9.lt k hk).1)
      have b79 := Below.step b78 b9
      obtain ⟨f, hf⟩ : ∃ f, f = upd (upd (fun _ => Option.none) (1, 0) (some (rowI av (digs K m u0)))) (2, 0) (some (rowI bv (digs K m v0))) := ⟨_, rfl⟩
      have hfa : f (1, 0) = some (rowI av (digs K m u0)) := by rw [hf, upd_ne _ _ (by simp), upd_same]
      have hfb : f (2, 0) = some (rowI bv (digs K m v0)) := by rw [hf, upd_same]
      rw [← hf] at r2
      have htk : ns.take 1 = [p0] := by
        cases hns : ns with
        | nil => exact absurd hns hne
        | cons a l => have := hp0.out; rw [hns] at this; simp at this; simp [this]
      have ha1 : alongW K m (· / N) (ns.take 1) = digs K m u0 := by rw [htk, alongW_one, hu0.out]
      have hb1 : alongW K m (· % N) (ns.take 1) = digs K m v0 := by rw [htk, alongW_one, hv0.out]
      rw [← ha1] at hfa
      rw [← hb1] at hfb
      clear ho9 r1 hf htk ha1 hb1 i0 d1 d2 d3 d4 d5 d6
      obtain ⟨aa, an, ac, rfl⟩ := (r2.ownI hfa).at.shape
      obtain ⟨ba', bn, bc, rfl⟩ := (r2.ownI hfb).at.shape
      replace r2 := Lib.hid r2
      replace hfa := Lib.hid hfa
      replace hfb := Lib.hid hfb
      replace ho8 := Lib.hid ho8
      clear ho8 ho7
      go_wp2
      refine NoPanic.normal ?_
      go_wp2_with fail
      clear dI
      go_loopw [11, 12, 13] (fun xa xb jv wr => ∃ (j : Nat) (f : Names) (va' vb' : Value), j + 1 ≤ ns.length ∧ jv = .int .i64 ((j + 1 : Nat) : Int) ∧ va' = xa ∧ vb' = xb ∧ Rows W.heap.size wr f ∧ Below W.heap.size W wr ∧ f (1, 0) = some (rowI va' (alongW K m (· / N) (ns.take (j + 1)))) ∧ f (2, 0) = some (rowI vb' (alongW K m (· % N) (ns.take (j + 1)))) ∧ (∀ i, i < j → StepFits K N T' (ns.getD i 0) (ns.getD (i + 1) 0))) (fun _ _ jv _ => ns.length - (intOf jv).toNat)
      case atStart => exact ⟨0, f, _, _, by omega, rfl, rfl, rfl, r2.out, b79, hfa.out, hfb.out, fun i hi => by omega⟩
      case round =>
        clear hfa hfb r2 b79 b78 b7 b9
        obtain ⟨j, f2, av, bv, hj, rfl, rfl, rfl, hr, bJ, hfa, hfb, hfit⟩ := hrel
        obtain ⟨wp', rfl⟩ : ∃ wo : World, wo = wr := ⟨_, rfl⟩
        by_cases hjl : j + 1 < ns.length
        case neg =>
          have hjn : j + 1 = ns.length := by omega
          have dE : decide ((ns.length : Int) < (ns.length : Int)) = false := decide_eq_false (by omega)
          have hall : AllFit K N T' ns := fun i hi => hfit i (by omega)
          have c9 := Below.step c6 (Below.step bW bJ)
          have s9 := bW.size
          obtain ⟨⟨k0, k1, k2⟩, f0, f1, f2⟩ := q4.below c9
          have hoa := hr.ownI hfa
          have hob := hr.ownI hfb
          rw [hjn, List.take_length] at hoa hob
          obtain ⟨ya, yn, yc, rfl⟩ := hoa.at.shape
          obtain ⟨za, zn, zc, rfl⟩ := hob.at.shape
          have g1 := (hoa.set3 (b := w.heap.size + 1) (by omega) (.int .i64 0) (.slice none 0 0) (.slice none 0 0)).mono (B' := w.heap.size) (by omega)
          have g2 := (hob.set3 (b := w.heap.size + 1) (by omega) (.int .i64 0) (.slice none 0 0) (.slice none 0 0)).mono (B' := w.heap.size) (by omega)
          rw [hjn]
          replace hall := Lib.hid hall
          replace hoa := Lib.hid hoa
          replace hob := Lib.hid hob
          replace hr := Lib.hid hr
          replace hfa := Lib.hid hfa
          replace hfb := Lib.hid hfb
          replace hfit := Lib.hid hfit
          replace hjn := Lib.hid hjn
          replace g1 := Lib.hid g1
          replace g2 := Lib.hid g2
          go_wp2
          (try simp only [Exit.inBlock, Exit.then])
          exact bodyPost_ret (v := .tuple #[.slice ya yn yc, .slice za zn zc, .agg #[.int .i64 0, .slice none 0 0, .slice none 0 0]]) (by simp [results, Tryz.results26, go_sem, k0, k1, k2]) rfl ⟨_, _, _, rfl, below_set3 (Below.step bA c9) (by omega) _ _ _, Or.inl ⟨hall.out, rfl, g1.out, g2.out⟩⟩
        have dJ : decide ((((j + 1 : Nat) : Int)) < (ns.length : Int)) = true := decide_eq_true (by omega)
        obtain ⟨i, hi⟩ : ∃ i, j + 1 = i := ⟨_, rfl⟩
        have hil : i < ns.length := by omega
        obtain ⟨p, hp⟩ : ∃ p, ns.getD i 0 = p := ⟨_, rfl⟩
        have hpl : p < N * N := by rw [← hp]; exact hlow2.out i (by omega)
        have iJ := fun w' => iU.out i (by omega) w'
        have cJ := cU.out i (by omega)
        rw [hp] at cJ
        replace cJ := (bW.cell (World.block_lt_of_cell? _ _ cJ)).trans cJ
        obtain ⟨d1, d2, d3, d4, d5, d6⟩ := dm9 p N (by omega)
        obtain ⟨u1, hu1⟩ : ∃ z, p / N = z := ⟨_, rfl⟩
        obtain ⟨v1, hv1⟩ : ∃ z, p % N = z := ⟨_, rfl⟩
        rw [hu1] at d1 d3 d5
        rw [hv1] at d2 d4 d6
        have hu1l : u1 < N := by rw [← hu1]; exact div_lt_of hpl
        have hv1l : v1 < N := by rw [← hv1]; exact Nat.mod_lt _ (by omega)
        have hK0 : ((K : Int) == 0) = false := by rw [beq_eq_false_iff_ne]; omega
        have hK3 : ¬ K = 0 := by omega
        obtain ⟨_, x2, _, x4, _, x6⟩ := dm9 u1 K (by omega)
        obtain ⟨_, z2, _, z4, _, z6⟩ := dm9 v1 K (by omega)
        obtain ⟨s, hs⟩ : ∃ z, u1 % K = z := ⟨_, rfl⟩
        obtain ⟨t, ht⟩ : ∃ z, v1 % K = z := ⟨_, rfl⟩
        rw [hs] at x2 x4 x6
        rw [ht] at z2 z4 z6
        have hsl : s < K := by rw [← hs]; exact Nat.mod_lt _ (by omega)
        have htl : t < K := by rw [← ht]; exact Nat.mod_lt _ (by omega)
        generalize valAt (.slice ua un uc) i = ti at *
        have qbW := qb6.out.below bW
        have boxes : ∀ W' : World, Below W.heap.size W W' → W'.cell? ⟨w4.heap.size, 0, none⟩ = some (.int .i64 K) ∧ W'.cell? ⟨w4.heap.size, 1, none⟩ = some (.int .i64 R') ∧ W'.cell? ⟨w4.heap.size, 2, none⟩ = some (.slice a n c) ∧ W'.cell? ti = some (.int .i64 p) := fun W' q => by
          obtain ⟨⟨k0, k1, k2⟩, -, -, -⟩ := qbW.below q
          exact ⟨k0, k1, k2, (q.cell (World.block_lt_of_cell? _ _ cJ)).trans cJ⟩
        have hLa : (alongW K m (· / N) (ns.take (j + 1))).length ≤ 17592186044100 := by rw [alongW_len, List.length_take]; omega
        have hLb : (alongW K m (· % N) (ns.take (j + 1))).length ≤ 17592186044100 := by rw [alongW_len, List.length_take]; omega
        rw [hi] at dJ ⊢
        replace hi := Lib.hid hi
        replace boxes := Lib.hid boxes
        replace hp := Lib.hid hp
        replace hu1 := Lib.hid hu1
        replace hv1 := Lib.hid hv1
        replace hs := Lib.hid hs
        replace ht := Lib.hid ht
        replace hfit := Lib.hid hfit
        replace qbW := Lib.hid qbW
        obtain ⟨V, hV⟩ : ∃ V : World, wp'.drew = V := ⟨_, rfl⟩
        have bVa : Below W.heap.size W V := by rw [← hV]; exact bJ.drew
        have hrV : Rows W.heap.size V f2 := by rw [← hV]; exact hr.drew
        have sVa := bVa.size
        replace hV := Lib.hid hV
        replace hr := Lib.hid hr
        clear cJ
        have bla := belowAlloc V (.cells #[.int .i64 (s : Int)] 3)
        have hlita := OwnI.lit V.heap.size V (Nat.le_refl _) [(s : Int)] (by simp [maxLen]) #[.int .i64 (s : Int)] rfl 1 rfl
        have hrla := hrV.below bla
        have hOla := hrla.ownI hfa
        have hBla : W.heap.size ≤ (V.alloc (.cells #[.int .i64 (s : Int)] 3)).heap.size := by simp; omega
        have hSla := boxes.out _ (bVa.trans (bla.mono bVa.size))
        have hS := boxes.out V bVa
        replace hlita := Lib.hid hlita
        replace hrla := Lib.hid hrla
        replace hOla := Lib.hid hOla
        replace hfa := Lib.hid hfa
        replace hrV := Lib.hid hrV
        go_upto_region 18 with fail
        refine wp_region_plan (fun w' => w'.cell? ⟨w4.heap.size, 0, none⟩ = some (.int .i64 K) ∧ w'.cell? ⟨w4.heap.size, 1, none⟩ = some (.int .i64 R') ∧ w'.cell? ⟨w4.heap.size, 2, none⟩ = some (.slice a n c) ∧ w'.cell? ti = some (.int .i64 p)) 12 [(0, true), (1, true), (2, true), (3, true), (4, true), (5, true), (6, true), (7, true), (8, true), (9, true), (10, false), (11, false)] (by kernel_rfl) (by kernel_rfl) ?_
        rw [hV.out]
        refine headY (v := ?_) (some 80) rfl rfl (Or.inl ⟨by rfl, ?_⟩) hS ?_
        rotate_left
        · rintro W' ⟨s0, s1, s2, s3⟩; go_simp; try with_reducible rfl
        simp only [Act.put, List.setIfInBounds_toArray, List.set_cons_zero, List.set_cons_succ]
        refine headY (v := ?_) (some 81) rfl rfl (Or.inl ⟨by rfl, ?_⟩) hS ?_
        rotate_left
        · rintro W' ⟨s0, s1, s2, s3⟩; go_simp; try with_reducible rfl
        simp only [Act.put, List.setIfInBounds_toArray, List.set_cons_zero, List.set_cons_succ]
        refine headY (v := ?_) (some 82) rfl rfl (Or.inl ⟨by rfl, ?_⟩) hS ?_
        rotate_left
        · rintro W' ⟨s0, s1, s2, s3⟩; go_simp; try with_reducible rfl
        simp only [Act.put, List.setIfInBounds_toArray, List.set_cons_zero, List.set_cons_succ]
        refine headY (v := ?_) (some 83) rfl rfl (Or.inl ⟨by rfl, ?_⟩) hS ?_
        rotate_left
        · rintro W' ⟨s0, s1, s2, s3⟩; go_simp; try with_reducible rfl
        simp only [Act.put, List.setIfInBounds_toArray, List.set_cons_zero, List.set_cons_succ]
        refine headY (v := ?_) (some 84) rfl rfl (Or.inl ⟨by rfl, ?_⟩) hS ?_
        rotate_left
        · rintro W' ⟨s0, s1, s2, s3⟩; go_simp; try with_reducible rfl
        simp only [Act.put, List.setIfInBounds_toArray, List.set_cons_zero, List.set_cons_succ]
        refine headY (v := ?_) (some 85) rfl rfl (Or.inl ⟨by rfl, ?_⟩) hS ?_
        rotate_left
        · rintro W' ⟨s0, s1, s2, s3⟩; go_simp; try with_reducible rfl
        simp only [Act.put, List.setIfInBounds_toArray, List.set_cons_zero, List.set_cons_succ]
        refine headY (v := ?_) (some 86) rfl rfl (Or.inl ⟨by rfl, ?_⟩) hS ?_
        rotate_left
        · rintro W' ⟨s0, s1, s2, s3⟩; go_simp; try with_reducible rfl
        simp only [Act.put, List.setIfInBounds_toArray, List.set_cons_zero, List.set_cons_succ]
        refine headY (v := ?_) (some 87) rfl rfl (Or.inl ⟨by rfl, ?_⟩) hS ?_
        rotate_left
        · rintro W' ⟨s0, s1, s2, s3⟩; go_simp; try with_reducible rfl
        simp only [Act.put, List.setIfInBounds_toArray, List.set_cons_zero, List.set_cons_succ]
        refine headY (v := ?_) (some 88) rfl rfl (Or.inl ⟨by rfl, ?_⟩) hS ?_
        rotate_left
        · rintro W' ⟨s0, s1, s2, s3⟩; go_simp; try with_reducible rfl
        simp only [Act.put, List.setIfInBounds_toArray, List.set_cons_zero, List.set_cons_succ]
        refine headY (v := ?_) (some 89) rfl rfl (Or.inl ⟨by rfl, ?_⟩) hS ?_
        rotate_left
        · rintro W' ⟨s0, s1, s2, s3⟩; go_simp; try with_reducible rfl
        simp only [Act.put, List.setIfInBounds_toArray, List.set_cons_zero, List.set_cons_succ]
        refine headC rfl (fun KK hK => ?_)
        go_simp
        refine hK _ _ hSla ?_
        clear hK KK
        refine headC rfl (fun KK hK => ?_)
        refine step_appIG rfl _ _ rfl W.heap.size av (.slice (some ⟨V.heap.size, 0, none⟩) 1 1) _ [(s : Int)] rfl rfl hOla.out hlita.out.at (by simp only [List.length_cons, List.length_nil]; omega) hBla ?_
        intro va wA hoAa bAa gAa kAa
        have hra := hrla.out.push hfa.out (s : Int) hoAa gAa kAa
        have ba : Below W.heap.size W wA := (bVa.trans (bla.mono bVa.size)).trans bAa
        have hSx := boxes.out wA ba
        obtain ⟨vaa, van, vac, rfl⟩ := hoAa.at.shape
        replace hoAa := Lib.hid hoAa
        replace hra := Lib.hid hra
        refine hK _ _ hSx ?_
        clear hK KK
        refine head0 ?_
        simp only [List.drop_succ_cons, List.drop_zero]
        clear hS hSx hSla
        go_wp2
        refine NoPanic.normal ?_
        obtain ⟨Y, hY⟩ : ∃ V : World, wA.drew = V := ⟨_, rfl⟩
        have bVb : Below W.heap.size W Y := by rw [← hY]; exact ba.drew
        have hrY : Rows W.heap.size Y (upd f2 (1, 0) (some (rowI (.slice vaa van vac) (alongW K m (· / N) (ns.take (j + 1)) ++ [(s : Int)])))) := by rw [← hY]; exact hra.out.drew
        have sVb := bVb.size
        have hfbY := (upd_ne f2 (i := (1, 0)) (j := (2, 0)) (some (rowI (.slice vaa van vac) (alongW K m (· / N) (ns.take (j + 1)) ++ [(s : Int)]))) (by simp)).trans hfb
        replace hY := Lib.hid hY
        replace hfb := Lib.hid hfb
        have blb := belowAlloc Y (.cells #[.int .i64 (t : Int)] 3)
        have hlitb := OwnI.lit Y.heap.size Y (Nat.le_refl _) [(t : Int)] (by simp [maxLen]) #[.int .i64 (t : Int)] rfl 1 rfl
        have hrlb := hrY.below blb
        have hOlb := hrlb.ownI hfbY
        have hBlb : W.heap.size ≤ (Y.alloc (.cells #[.int .i64 (t : Int)] 3)).heap.size := by simp; omega
        have hSlb := boxes.out _ (bVb.trans (blb.mono bVb.size))
        have hS := boxes.out Y bVb
        replace hlitb := Lib.hid hlitb
        replace hrlb := Lib.hid hrlb
        replace hOlb := Lib.hid hOlb
        replace hfbY := Lib.hid hfbY
        replace hrY := Lib.hid hrY
        go_upto_region 19 with fail
        refine wp_region_plan (fun w' => w'.cell? ⟨w4.heap.size, 0, none⟩ = some (.int .i64 K) ∧ w'.cell? ⟨w4.heap.size, 1, none⟩ = some (.int .i64 R') ∧ w'.cell? ⟨w4.heap.size, 2, none⟩ = some (.slice a n c) ∧ w'.cell? ti = some (.int .i64 p)) 12 [(0, true), (1, true), (2, true), (3, true), (4, true), (5, true), (6, true), (7, true), (8, true), (9, true), (10, false), (11, false)] (by kernel_rfl) (by kernel_rfl) ?_
        rw [hY.out]
        refine headY (v := ?_) (some 92) rfl rfl (Or.inl ⟨by rfl, ?_⟩) hS ?_
        rotate_left
        · rintro W' ⟨s0, s1, s2, s3⟩; go_simp; try with_reducible rfl
        simp only [Act.put, List.setIfInBounds_toArray, List.set_cons_zero, List.set_cons_succ]
        refine headY (v := ?_) (some 93) rfl rfl (Or.inl ⟨by rfl, ?_⟩) hS ?_
        rotate_left
        · rintro W' ⟨s0, s1, s2, s3⟩; go_simp; try with_reducible rfl
        simp only [Act.put, List.setIfInBounds_toArray, List.set_cons_zero, List.set_cons_succ]
        refine headY (v := ?_) (some 94) rfl rfl (Or.inl ⟨by rfl, ?_⟩) hS ?_
        rotate_left
        · rintro W' ⟨s0, s1, s2, s3⟩; go_simp; try with_reducible rfl
        simp only [Act.put, List.setIfInBounds_toArray, List.set_cons_zero, List.set_cons_succ]
        refine headY (v := ?_) (some 95) rfl rfl (Or.inl ⟨by rfl, ?_⟩) hS ?_
        rotate_left
        · rintro W' ⟨s0, s1, s2, s3⟩; go_simp; try with_reducible rfl
        simp only [Act.put, List.setIfInBounds_toArray, List.set_cons_zero, List.set_cons_succ]
        refine headY (v := ?_) (some 96) rfl rfl (Or.inl ⟨by rfl, ?_⟩) hS ?_
        rotate_left
        · rintro W' ⟨s0, s1, s2, s3⟩; go_simp; try with_reducible rfl
        simp only [Act.put, List.setIfInBounds_toArray, List.set_cons_zero, List.set_cons_succ]
        refine headY (v := ?_) (some 97) rfl rfl (Or.inl ⟨by rfl, ?_⟩) hS ?_
        rotate_left
        · rintro W' ⟨s0, s1, s2, s3⟩; go_simp; try with_reducible rfl
        simp only [Act.put, List.setIfInBounds_toArray, List.set_cons_zero, List.set_cons_succ]
        refine headY (v := ?_) (some 98) rfl rfl (Or.inl ⟨by rfl, ?_⟩) hS ?_
        rotate_left
        · rintro W' ⟨s0, s1, s2, s3⟩; go_simp; try with_reducible rfl
        simp only [Act.put, List.setIfInBounds_toArray, List.set_cons_zero, List.set_cons_succ]
        refine headY (v := ?_) (some 99) rfl rfl (Or.inl ⟨by rfl, ?_⟩) hS ?_
        rotate_left
        · rintro W' ⟨s0, s1, s2, s3⟩; go_simp; try with_reducible rfl
        simp only [Act.put, List.setIfInBounds_toArray, List.set_cons_zero, List.set_cons_succ]
        refine headY (v := ?_) (some 100) rfl rfl (Or.inl ⟨by rfl, ?_⟩) hS ?_
        rotate_left
        · rintro W' ⟨s0, s1, s2, s3⟩; go_simp; try with_reducible rfl
        simp only [Act.put, List.setIfInBounds_toArray, List.set_cons_zero, List.set_cons_succ]
        refine headY (v := ?_) (some 101) rfl rfl (Or.inl ⟨by rfl, ?_⟩) hS ?_
        rotate_left
        · rintro W' ⟨s0, s1, s2, s3⟩; go_simp; try with_reducible rfl
        simp only [Act.put, List.setIfInBounds_toArray, List.set_cons_zero, List.set_cons_succ]
        refine headC rfl (fun KK hK => ?_)
        go_simp
        refine hK _ _ hSlb ?_
        clear hK KK
        refine headC rfl (fun KK hK => ?_)
        refine step_appIG rfl _ _ rfl W.heap.size bv (.slice (some ⟨Y.heap.size, 0, none⟩) 1 1) _ [(t : Int)] rfl rfl hOlb.out hlitb.out.at (by simp only [List.length_cons, List.length_nil]; omega) hBlb ?_
        intro vb wB hoAb bAb gAb kAb
        have hrb := hrlb.out.push hfbY.out (t : Int) hoAb gAb kAb
        have bwB : Below W.heap.size W wB := (bVb.trans (blb.mono bVb.size)).trans bAb
        have hSx := boxes.out wB bwB
        obtain ⟨vba, vbn, vbc, rfl⟩ := hoAb.at.shape
        replace hoAb := Lib.hid hoAb
        replace hrb := Lib.hid hrb
        refine hK _ _ hSx ?_
        clear hK KK
        refine head0 ?_
        simp only [List.drop_succ_cons, List.drop_zero]
        clear hS hSx hSlb
        go_wp2
        refine NoPanic.normal ?_
        have rA := hrb.out.ownI (i := (1, 0)) (by rw [upd_ne _ _ (by simp), upd_same])
        have rB := hrb.out.ownI (i := (2, 0)) (by rw [upd_same])
        have lenA : (alongW K m (· / N) (ns.take (j + 1)) ++ [(s : Int)]).length = m + i := by rw [List.length_append, alongW_len, List.length_take, ← hi.out]; simp; omega
        have lenB : (alongW K m (· % N) (ns.take (j + 1)) ++ [(t : Int)]).length = m + i := by rw [List.length_append, alongW_len, List.length_take, ← hi.out]; simp; omega
        have LA := rA.at.len
        have LB := rB.at.len
        rw [lenA] at LA
        rw [lenB] at LB
        obtain ⟨xv, hxr, hxI⟩ := rA.at.post j (by rw [lenA, ← hi.out]; omega)
        obtain ⟨yv, hyr, hyI⟩ := rB.at.post j (by rw [lenB, ← hi.out]; omega)
        obtain ⟨xva, xvn, xvc, rfl⟩ := hxI.shape
        obtain ⟨yva, yvn, yvc, rfl⟩ := hyI.shape
        have qs1 : wrap64 (((m + i : Nat) : Int) - (m : Int)) = (i : Int) := by rw [show (((m + i : Nat) : Int) - (m : Int)) = (i : Int) by omega]; exact wrap64_id (by omega) (by omega)
        have ej : (i : Int) - 1 = (j : Int) := by have := hi.out; omega
        rw [← ej] at hxr hyr
        have hi1 : 1 ≤ i := by have := hi.out; omega
        replace ej := Lib.hid ej
        have qs3 : wrap64 (2 * (R' : Int)) = (m : Int) := by rw [show (2 * (R' : Int)) = (m : Int) by have := hm.out; omega]; exact wrap64_id (by omega) (by omega)
        obtain ⟨⟨k0, k1, k2, k3⟩, -⟩ : (wB.cell? ⟨w4.heap.size, 0, none⟩ = some (.int .i64 K) ∧ wB.cell? ⟨w4.heap.size, 1, none⟩ = some (.int .i64 R') ∧ wB.cell? ⟨w4.heap.size, 2, none⟩ = some (.slice a n c) ∧ wB.cell? ti = some (.int .i64 p)) ∧ True := ⟨boxes.out wB bwB, trivial⟩
        generalize ((m + i : Nat) : Int) = LL at *
        replace rA := Lib.hid rA
        replace rB := Lib.hid rB
        replace hxI := Lib.hid hxI
        replace hyI := Lib.hid hyI
        replace lenA := Lib.hid lenA
        replace lenB := Lib.hid lenB
        have hij := hi.out
        obtain ⟨pj, hpj⟩ : ∃ q, ns.getD j 0 = q := ⟨_, rfl⟩
        have hpjl : pj < N * N := by rw [← hpj]; exact hlow2.out j (by omega)
        obtain ⟨uj, huj⟩ : ∃ z, pj / N = z := ⟨_, rfl⟩
        obtain ⟨vj, hvj⟩ : ∃ z, pj % N = z := ⟨_, rfl⟩
        obtain ⟨hA1, hA2, hujl⟩ := along_winN (m := m) hk1 hN.out (· / N) ns j (by omega) (fun k hk => div_lt_of (hlow2.out k (by omega))) (fun k hk => (hfit.out k hk).1) (u := uj) (s := s) (by show ns.getD j 0 / N = uj; rw [hpj, huj]) (by show ns.getD (j + 1) 0 / N % K = s; rw [hij, hp.out, hu1.out, hs.out])
        obtain ⟨hB1, hB2, hvjl⟩ := along_winN (m := m) hk1 hN.out (· % N) ns j (by omega) (fun k hk => Nat.mod_lt _ (by omega)) (fun k hk => (hfit.out k hk).2.1) (u := vj) (s := t) (by show ns.getD j 0 % N = vj; rw [hpj, hvj]) (by show ns.getD (j + 1) 0 % N % K = t; rw [hij, hp.out, hv1.out, ht.out])
        obtain ⟨xs1, xs2, xs3, xs4, xs5⟩ := win_facts (m := m) hk1 hN.out hujl hsl
        obtain ⟨ys1, ys2, ys3, ys4, ys5⟩ := win_facts (m := m) hk1 hN.out hvjl htl
        have hstep : StepFits K N T' pj p ↔ toN K N uj s = u1 ∧ toN K N vj t = v1 ∧ labN K T' uj s = labN K T' vj t := by
          unfold StepFits; rw [hu1.out, hv1.out, huj, hvj, hs.out, ht.out]
        have hAlen : uj * K + s < T'.length := by rw [hlen.out]; exact lab_lt hujl hsl
        have hBlen : vj * K + t < T'.length := by rw [hlen.out]; exact lab_lt hvjl htl
        have hNK : N * K ≤ 324 := Nat.mul_le_mul hN81 hk4
        have hlenT := hlen.out
        unfold labN at hstep
        obtain ⟨X1, hX1⟩ : ∃ z, toN K N uj s = z := ⟨_, rfl⟩
        obtain ⟨X2, hX2⟩ : ∃ z, toN K N vj t = z := ⟨_, rfl⟩
        rw [hX1, hX2] at hstep
        rw [hX1] at xs3 xs4
        rw [hX2] at ys3 ys4
        have hX1l : X1 < N := by rw [← hX1]; exact toN_lt (by omega)
        have hX2l : X2 < N := by rw [← hX2]; exact toN_lt (by omega)
        obtain ⟨A, hA⟩ : ∃ z, uj * K + s = z := ⟨_, rfl⟩
        obtain ⟨B, hB⟩ : ∃ z, vj * K + t = z := ⟨_, rfl⟩
        rw [hA] at hstep hAlen xs2
        rw [hB] at hstep hBlen ys2
        obtain ⟨oa, hoa⟩ : ∃ z, T'.getD A 0 = z := ⟨_, rfl⟩
        obtain ⟨ob, hob⟩ : ∃ z, T'.getD B 0 = z := ⟨_, rfl⟩
        rw [hoa, hob] at hstep
        obtain ⟨X, hX⟩ : ∃ V : World, wB.drew = V := ⟨_, rfl⟩
        have bX : Below W.heap.size W X := by rw [← hX]; exact bwB.drew
        have rX : Rows W.heap.size X (upd (upd f2 (1, 0) (some (rowI (.slice vaa van vac) (alongW K m (· / N) (ns.take (j + 1)) ++ [(s : Int)])))) (2, 0) (some (rowI (.slice vba vbn vbc) (alongW K m (· % N) (ns.take (j + 1)) ++ [(t : Int)])))) := by rw [← hX]; exact hrb.out.drew
        have xX := hxI.out.drew
        have yX := hyI.out.drew
        rw [hX, hA2] at xX
        rw [hX, hB2] at yX
        obtain ⟨x1v, hx1r, hx1I⟩ := xX.post 1 (by rw [xs5]; exact Nat.le_add_left 1 m)
        obtain ⟨y1v, hy1r, hy1I⟩ := yX.post 1 (by rw [ys5]; exact Nat.le_add_left 1 m)
        rw [xs3] at hx1I
        rw [ys3] at hy1I
        obtain ⟨x1a, x1n, x1c, rfl⟩ := hx1I.shape
        obtain ⟨y1a, y1n, y1c, rfl⟩ := hy1I.shape
        have hx1s : ∀ w', (Instr.slice 22 (.slice xva xvn xvc) (some (.int .i64 1)) none none).run Tryz.prog w' = .ok (.slice x1a x1n x1c) w' := hx1r
        have hy1s : ∀ w', (Instr.slice 22 (.slice yva yvn yvc) (some (.int .i64 1)) none none).run Tryz.prog w' = .ok (.slice y1a y1n y1c) w' := hy1r
        have call1 := ref_value K _ (digs K m X1) X hk1 hk4 hx1I (digs_syms hk1 _ _) (by rw [digs_length]; exact Nat.le_succ_of_le hm7)
        have call2 := ref_value K _ (digs K m X2) X hk1 hk4 hy1I (digs_syms hk1 _ _) (by rw [digs_length]; exact Nat.le_succ_of_le hm7)
        rw [xs4] at call1
        rw [ys4] at call2
        have hS := boxes.out X bX
        obtain ⟨Z, hZ⟩ : ∃ V : World, X.drew = V := ⟨_, rfl⟩
        have bZ : Below W.heap.size W Z := by rw [← hZ]; exact bX.drew
        have rZ : Rows W.heap.size Z (upd (upd f2 (1, 0) (some (rowI (.slice vaa van vac) (alongW K m (· / N) (ns.take (j + 1)) ++ [(s : Int)])))) (2, 0) (some (rowI (.slice vba vbn vbc) (alongW K m (· % N) (ns.take (j + 1)) ++ [(t : Int)])))) := by rw [← hZ]; exact rX.drew
        have call3 := ref_value K _ (digs K m uj ++ [(s : Int)]) Z hk1 hk4 (by rw [← hZ]; exact xX.drew) xs1 (by rw [xs5]; exact Nat.succ_le_succ hm7)
        have call4 := ref_value K _ (digs K m vj ++ [(t : Int)]) Z hk1 hk4 (by rw [← hZ]; exact yX.drew) ys1 (by rw [ys5]; exact Nat.succ_le_succ hm7)
        rw [xs2] at call3
        rw [ys2] at call4
        have hTZ := hT6.out.below (Below.step bW bZ)
        have iA := fun w' => hTZ.idx A hAlen w'
        have iB := fun w' => hTZ.idx B hBlen w'
        have cA := hTZ.cellD A hAlen
        have cB := hTZ.cellD B hBlen
        rw [hoa] at cA
        rw [hob] at cB
        have bEnd : Below w6.heap.size w6 Z := Below.step bW bZ
        have nofit : ¬ StepFits K N T' pj p → ¬ AllFit K N T' ns := fun hn hAll => by
          have := hAll j (by rw [hij]; exact hil)
          rw [hpj, hij, hp.out] at this
          exact hn this
        have yesfit : StepFits K N T' pj p → ∀ k, k < j + 1 → StepFits K N T' (ns.getD k 0) (ns.getD (k + 1) 0) := fun hy k hk => by
          by_cases e : k = j
          · subst e; rw [hpj, hij, hp.out]; exact hy
          · exact hfit.out k (Nat.lt_of_le_of_ne (Nat.le_of_lt_succ hk) e)
        obtain ⟨ta, hta⟩ : ∃ ta, valAt (.slice a n c) A = ta := ⟨_, rfl⟩
        obtain ⟨tb, htb⟩ : ∃ tb, valAt (.slice a n c) B = tb := ⟨_, rfl⟩
        rw [hta] at iA cA
        rw [htb] at iB cB
        replace hta := Lib.hid hta
        replace htb := Lib.hid htb
        have hSZ0 := boxes.out Z bZ
        have hSZ : Z.cell? ⟨w4.heap.size, 0, none⟩ = some (.int .i64 K) ∧ Z.cell? ⟨w4.heap.size, 2, none⟩ = some (.slice a n c) ∧ Z.cell? ta = some (.int .i64 oa) ∧ Z.cell? tb = some (.int .i64 ob) := ⟨hSZ0.1, hSZ0.2.2.1, cA, cB⟩
        replace hoa := Lib.hid hoa
        replace hob := Lib.hid hob
        replace hA := Lib.hid hA
        replace hB := Lib.hid hB
        replace hX1 := Lib.hid hX1
        replace hX2 := Lib.hid hX2
        replace hlenT := Lib.hid hlenT
        replace hpj := Lib.hid hpj
        replace huj := Lib.hid huj
        replace hvj := Lib.hid hvj
        replace hA1 := Lib.hid hA1
        replace hB1 := Lib.hid hB1
        replace hstep := Lib.hid hstep
        replace nofit := Lib.hid nofit
        replace yesfit := Lib.hid yesfit
        replace hX := Lib.hid hX
        replace hZ := Lib.hid hZ
        replace rX := Lib.hid rX
        replace rZ := Lib.hid rZ
        replace xX := Lib.hid xX
        replace yX := Lib.hid yX
        replace hx1I := Lib.hid hx1I
        replace hy1I := Lib.hid hy1I
        replace call1 := Lib.hid call1
        replace call2 := Lib.hid call2
        replace call3 := Lib.hid call3
        replace call4 := Lib.hid call4
        replace hTZ := Lib.hid hTZ
        clear hij hA2 hB2 xs1 xs2 xs3 xs4 xs5 ys1 ys2 ys3 ys4 ys5 hx1r hy1r cA cB hSZ0
        go_upto_region 22 with fail
        refine wp_region_plan (fun w' => w'.cell? ⟨w4.heap.size, 0, none⟩ = some (.int .i64 K) ∧ w'.cell? ⟨w4.heap.size, 1, none⟩ = some (.int .i64 R') ∧ w'.cell? ⟨w4.heap.size, 2, none⟩ = some (.slice a n c) ∧ w'.cell? ti = some (.int .i64 p)) 26 [(0, true), (1, true), (2, true), (3, true), (5, true), (6, true), (7, true), (8, true), (9, true), (10, true), (4, false), (11, true), (12, true), (13, true), (14, true), (15, true), (16, true), (18, true), (19, true), (20, true), (21, true), (22, true), (23, true), (17, false), (24, true), (25, true)] (by kernel_rfl) (by kernel_rfl) ?_
        rw [hX.out]
        refine headY (v := ?_) (some 122) rfl rfl (Or.inl ⟨by rfl, ?_⟩) hS ?_
        rotate_left
        · rintro W' ⟨s0, s1, s2, s3⟩; go_simp; try with_reducible rfl
        simp only [Act.put, List.setIfInBounds_toArray, List.set_cons_zero, List.set_cons_succ]
        refine headY (v := ?_) (some 123) rfl rfl (Or.inl ⟨by rfl, ?_⟩) hS ?_
        rotate_left
        · rintro W' ⟨s0, s1, s2, s3⟩; go_simp; try with_reducible rfl
        simp only [Act.put, List.setIfInBounds_toArray, List.set_cons_zero, List.set_cons_succ]
        refine headY (v := ?_) (some 124) rfl rfl (Or.inl ⟨by rfl, ?_⟩) hS ?_
        rotate_left
        · rintro W' ⟨s0, s1, s2, s3⟩; go_simp; try with_reducible rfl
        simp only [Act.put, List.setIfInBounds_toArray, List.set_cons_zero, List.set_cons_succ]
        refine headY (v := ?_) (some 125) rfl rfl (Or.inl ⟨by rfl, ?_⟩) hS ?_
        rotate_left
        · rintro W' ⟨s0, s1, s2, s3⟩; go_simp; try with_reducible rfl
        simp only [Act.put, List.setIfInBounds_toArray, List.set_cons_zero, List.set_cons_succ]
        refine headY (v := ?_) (some 127) rfl rfl (Or.inl ⟨by rfl, ?_⟩) hS ?_
        rotate_left
        · rintro W' ⟨s0, s1, s2, s3⟩; go_simp; try with_reducible rfl
        simp only [Act.put, List.setIfInBounds_toArray, List.set_cons_zero, List.set_cons_succ]
        refine headY (v := ?_) (some 128) rfl rfl (Or.inl ⟨by rfl, ?_⟩) hS ?_
        rotate_left
        · rintro W' ⟨s0, s1, s2, s3⟩; go_simp; try with_reducible rfl
        simp only [Act.put, List.setIfInBounds_toArray, List.set_cons_zero, List.set_cons_succ]
        refine headY (v := ?_) (some 129) rfl rfl (Or.inl ⟨by rfl, ?_⟩) hS ?_
        rotate_left
        · rintro W' ⟨s0, s1, s2, s3⟩; go_simp; try with_reducible rfl
        simp only [Act.put, List.setIfInBounds_toArray, List.set_cons_zero, List.set_cons_succ]
        refine headY (v := ?_) (some 130) rfl rfl (Or.inl ⟨by rfl, ?_⟩) hS ?_
        rotate_left
        · rintro W' ⟨s0, s1, s2, s3⟩; go_simp; try with_reducible rfl
        simp only [Act.put, List.setIfInBounds_toArray, List.set_cons_zero, List.set_cons_succ]
        refine headY (v := ?_) (some 131) rfl rfl (Or.inl ⟨by rfl, ?_⟩) hS ?_
        rotate_left
        · rintro W' ⟨s0, s1, s2, s3⟩; go_simp; try with_reducible rfl
        simp only [Act.put, List.setIfInBounds_toArray, List.set_cons_zero, List.set_cons_succ]
        refine headY (v := ?_) (some 132) rfl rfl (Or.inl ⟨by rfl, ?_⟩) hS ?_
        rotate_left
        · rintro W' ⟨s0, s1, s2, s3⟩; go_simp; try with_reducible rfl
        simp only [Act.put, List.setIfInBounds_toArray, List.set_cons_zero, List.set_cons_succ]
        refine headC rfl (fun KK hK => ?_)
        go_simp
        refine call1.out.mono ?_
        rintro e w' ⟨rfl, rfl⟩
        refine hK _ _ hS ?_
        clear hK KK
        by_cases e1 : X1 = u1
        case neg =>
          have q1 : ((X1 : Int) == (u1 : Int)) = false := by rw [beq_eq_false_iff_ne]; exact fun h => e1 (Int.ofNat_inj.1 h)
          have hno := nofit.out (fun h => e1 (hstep.out.1 h).1)
          replace hno := Lib.hid hno
          refine headY (v := ?_) (some 133) rfl rfl (Or.inl ⟨by rfl, ?_⟩) hS ?_
          rotate_left
          · rintro W' ⟨s0, s1, s2, s3⟩; go_simp; try with_reducible rfl
          simp only [Act.put, List.setIfInBounds_toArray, List.set_cons_zero, List.set_cons_succ]
          refine headY (v := ?_) (some 134) rfl rfl (Or.inl ⟨by rfl, ?_⟩) hS ?_
          rotate_left
          · rintro W' ⟨s0, s1, s2, s3⟩; go_simp; try with_reducible rfl
          simp only [Act.put, List.setIfInBounds_toArray, List.set_cons_zero, List.set_cons_succ]
          refine headY (v := undef) (some 135) rfl rfl (Or.inr ⟨by rfl, rfl⟩) hS ?_
          simp only [Act.put, List.setIfInBounds_toArray, List.set_cons_zero, List.set_cons_succ]
          refine headY (v := undef) (some 136) rfl rfl (Or.inr ⟨by rfl, rfl⟩) hS ?_
          simp only [Act.put, List.setIfInBounds_toArray, List.set_cons_zero, List.set_cons_succ]
          refine headY (v := undef) (some 137) rfl rfl (Or.inr ⟨by rfl, rfl⟩) hS ?_
          simp only [Act.put, List.setIfInBounds_toArray, List.set_cons_zero, List.set_cons_succ]
          refine headY (v := undef) (some 138) rfl rfl (Or.inr ⟨by rfl, rfl⟩) hS ?_
          simp only [Act.put, List.setIfInBounds_toArray, List.set_cons_zero, List.set_cons_succ]
          refine headY (v := undef) (some 140) rfl rfl (Or.inr ⟨by rfl, rfl⟩) hS ?_
          simp only [Act.put, List.setIfInBounds_toArray, List.set_cons_zero, List.set_cons_succ]
          refine headY (v := undef) (some 141) rfl rfl (Or.inr ⟨by rfl, rfl⟩) hS ?_
          simp only [Act.put, List.setIfInBounds_toArray, List.set_cons_zero, List.set_cons_succ]
          refine headY (v := undef) (some 142) rfl rfl (Or.inr ⟨by rfl, rfl⟩) hS ?_
          simp only [Act.put, List.setIfInBounds_toArray, List.set_cons_zero, List.set_cons_succ]
          refine headY (v := undef) (some 143) rfl rfl (Or.inr ⟨by rfl, rfl⟩) hS ?_
          simp only [Act.put, List.setIfInBounds_toArray, List.set_cons_zero, List.set_cons_succ]
          refine headY (v := undef) (some 144) rfl rfl (Or.inr ⟨by rfl, rfl⟩) hS ?_
          simp only [Act.put, List.setIfInBounds_toArray, List.set_cons_zero, List.set_cons_succ]
          refine headY (v := undef) (some 145) rfl rfl (Or.inr ⟨by rfl, rfl⟩) hS ?_
          simp only [Act.put, List.setIfInBounds_toArray, List.set_cons_zero, List.set_cons_succ]
          refine headC rfl (fun KK hK => ?_)
          go_simp
          refine hK _ _ hS ?_
          clear hK KK
          refine headY (v := undef) (some 146) rfl rfl (Or.inr ⟨by rfl, rfl⟩) hS ?_
          simp only [Act.put, List.setIfInBounds_toArray, List.set_cons_zero, List.set_cons_succ]
          refine headY (v := ?_) (some 147) rfl rfl (Or.inl ⟨by rfl, ?_⟩) hS ?_
          rotate_left
          · rintro W' ⟨s0, s1, s2, s3⟩; go_simp; try with_reducible rfl
          simp only [Act.put, List.setIfInBounds_toArray, List.set_cons_zero, List.set_cons_succ]
          refine head0 ?_
          simp only [List.drop_succ_cons, List.drop_zero]
          clear hS
          go_wp2
          refine NoPanic.normal ?_
          go_upto_region 23 with fail
          refine wp_region_plan (fun w' => w'.cell? ⟨w4.heap.size, 0, none⟩ = some (.int .i64 K) ∧ w'.cell? ⟨w4.heap.size, 2, none⟩ = some (.slice a n c) ∧ w'.cell? ta = some (.int .i64 oa) ∧ w'.cell? tb = some (.int .i64 ob)) 20 [(0, true), (1, true), (2, true), (3, true), (4, true), (5, true), (6, true), (7, true), (11, true), (12, true), (13, true), (14, true), (15, true), (8, false), (9, true), (10, true), (16, false), (17, true), (18, true), (19, true)] (by kernel_rfl) (by kernel_rfl) ?_
          rw [hZ.out]
          refine headY (v := ?_) (some 148) rfl rfl (Or.inl ⟨by rfl, ?_⟩) hSZ ?_
          rotate_left
          · rintro W' ⟨s0, s1, s2, s3⟩; go_simp; try with_reducible rfl
          simp only [Act.put, List.setIfInBounds_toArray, List.set_cons_zero, List.set_cons_succ]
          refine headY (v := ?_) (some 149) rfl rfl (Or.inl ⟨by rfl, ?_⟩) hSZ ?_
          rotate_left
          · rintro W' ⟨s0, s1, s2, s3⟩; go_simp; try with_reducible rfl
          simp only [Act.put, List.setIfInBounds_toArray, List.set_cons_zero, List.set_cons_succ]
          refine headY (v := ?_) (some 150) rfl rfl (Or.inl ⟨by rfl, ?_⟩) hSZ ?_
          rotate_left
          · rintro W' ⟨s0, s1, s2, s3⟩; go_simp; try with_reducible rfl
          simp only [Act.put, List.setIfInBounds_toArray, List.set_cons_zero, List.set_cons_succ]
          refine headY (v := undef) (some 151) rfl rfl (Or.inr ⟨by rfl, rfl⟩) hSZ ?_
          simp only [Act.put, List.setIfInBounds_toArray, List.set_cons_zero, List.set_cons_succ]
          refine headY (v := undef) (some 152) rfl rfl (Or.inr ⟨by rfl, rfl⟩) hSZ ?_
          simp only [Act.put, List.setIfInBounds_toArray, List.set_cons_zero, List.set_cons_succ]
          refine headY (v := undef) (some 153) rfl rfl (Or.inr ⟨by rfl, rfl⟩) hSZ ?_
          simp only [Act.put, List.setIfInBounds_toArray, List.set_cons_zero, List.set_cons_succ]
          refine headY (v := undef) (some 154) rfl rfl (Or.inr ⟨by rfl, rfl⟩) hSZ ?_
          simp only [Act.put, List.setIfInBounds_toArray, List.set_cons_zero, List.set_cons_succ]
          refine headY (v := undef) (some 155) rfl rfl (Or.inr ⟨by rfl, rfl⟩) hSZ ?_
          simp only [Act.put, List.setIfInBounds_toArray, List.set_cons_zero, List.set_cons_succ]
          refine headY (v := undef) (some 159) rfl rfl (Or.inr ⟨by rfl, rfl⟩) hSZ ?_
          simp only [Act.put, List.setIfInBounds_toArray, List.set_cons_zero, List.set_cons_succ]
          refine headY (v := undef) (some 160) rfl rfl (Or.inr ⟨by rfl, rfl⟩) hSZ ?_
          simp only [Act.put, List.setIfInBounds_toArray, List.set_cons_zero, List.set_cons_succ]
          refine headY (v := undef) (some 161) rfl rfl (Or.inr ⟨by rfl, rfl⟩) hSZ ?_
          simp only [Act.put, List.setIfInBounds_toArray, List.set_cons_zero, List.set_cons_succ]
          refine headY (v := undef) (some 162) rfl rfl (Or.inr ⟨by rfl, rfl⟩) hSZ ?_
          simp only [Act.put, List.setIfInBounds_toArray, List.set_cons_zero, List.set_cons_succ]
          refine headY (v := undef) (some 163) rfl rfl (Or.inr ⟨by rfl, rfl⟩) hSZ ?_
          simp only [Act.put, List.setIfInBounds_toArray, List.set_cons_zero, List.set_cons_succ]
          refine headC rfl (fun KK hK => ?_)
          go_simp
          refine hK _ _ hSZ ?_
          clear hK KK
          refine headY (v := undef) (some 157) rfl rfl (Or.inr ⟨by rfl, rfl⟩) hSZ ?_
          simp only [Act.put, List.setIfInBounds_toArray, List.set_cons_zero, List.set_cons_succ]
          refine headY (v := undef) (some 158) rfl rfl (Or.inr ⟨by rfl, rfl⟩) hSZ ?_
          simp only [Act.put, List.setIfInBounds_toArray, List.set_cons_zero, List.set_cons_succ]
          refine headC rfl (fun KK hK => ?_)
          go_simp
          refine hK _ _ hSZ ?_
          clear hK KK
          refine headY (v := undef) (some 165) rfl rfl (Or.inr ⟨by rfl, rfl⟩) hSZ ?_
          simp only [Act.put, List.setIfInBounds_toArray, List.set_cons_zero, List.set_cons_succ]
          refine headY (v := undef) (some 166) rfl rfl (Or.inr ⟨by rfl, rfl⟩) hSZ ?_
          simp only [Act.put, List.setIfInBounds_toArray, List.set_cons_zero, List.set_cons_succ]
          refine headY (v := undef) (some 167) rfl rfl (Or.inr ⟨by rfl, rfl⟩) hSZ ?_
          simp only [Act.put, List.setIfInBounds_toArray, List.set_cons_zero, List.set_cons_succ]
          refine head0 ?_
          simp only [List.drop_succ_cons, List.drop_zero]
          clear hSZ
          go_wp2
          refine NoPanic.normal ?_
          go_wp2_with fail
          refine (raw_new _ _ _ _).mono ?_
          rintro e w9 ⟨z, rfl, b9, he⟩
          obtain ⟨n1, a1, m1, c1, a2, m2, c2, rfl, g0, g1, g2, f0, f1, f3, g3, g4⟩ := close.out w9 z (Below.step bEnd b9) (he.mono bEnd.size)
          replace g3 := Lib.hid g3
          replace g4 := Lib.hid g4
          replace he := Lib.hid he
          go_wp2
          (try simp only [Exit.inBlock, Exit.then])
          exact bodyPost_ret (v := .tuple #[.slice none 0 0, .slice none 0 0, .agg #[.int .i64 n1, .slice a1 m1 c1, .slice a2 m2 c2]]) (by simp [results, Tryz.results26, go_sem, g0, g1, g2]) rfl ⟨_, _, _, rfl, g3.out, Or.inr ⟨hno.out, rfl, rfl, g4.out⟩⟩
        have q1 : ((X1 : Int) == (u1 : Int)) = true := by rw [beq_iff_eq]; exact Int.ofNat_inj.2 e1
        refine headY (v := ?_) (some 133) rfl rfl (Or.inl ⟨by rfl, ?_⟩) hS ?_
        rotate_left
        · rintro W' ⟨s0, s1, s2, s3⟩; go_simp; try with_reducible rfl
        simp only [Act.put, List.setIfInBounds_toArray, List.set_cons_zero, List.set_cons_succ]
        refine headY (v := ?_) (some 134) rfl rfl (Or.inl ⟨by rfl, ?_⟩) hS ?_
        rotate_left
        · rintro W' ⟨s0, s1, s2, s3⟩; go_simp; try with_reducible rfl
        simp only [Act.put, List.setIfInBounds_toArray, List.set_cons_zero, List.set_cons_succ]
        refine headY (v := ?_) (some 135) rfl rfl (Or.inl ⟨by rfl, ?_⟩) hS ?_
        rotate_left
        · rintro W' ⟨s0, s1, s2, s3⟩; go_simp; try with_reducible rfl
        simp only [Act.put, List.setIfInBounds_toArray, List.set_cons_zero, List.set_cons_succ]
        refine headY (v := ?_) (some 136) rfl rfl (Or.inl ⟨by rfl, ?_⟩) hS ?_
        rotate_left
        · rintro W' ⟨s0, s1, s2, s3⟩; go_simp; try with_reducible rfl
        simp only [Act.put, List.setIfInBounds_toArray, List.set_cons_zero, List.set_cons_succ]
        refine headY (v := ?_) (some 137) rfl rfl (Or.inl ⟨by rfl, ?_⟩) hS ?_
        rotate_left
        · rintro W' ⟨s0, s1, s2, s3⟩; go_simp; try with_reducible rfl
        simp only [Act.put, List.setIfInBounds_toArray, List.set_cons_zero, List.set_cons_succ]
        refine headY (v := ?_) (some 138) rfl rfl (Or.inl ⟨by rfl, ?_⟩) hS ?_
        rotate_left
        · rintro W' ⟨s0, s1, s2, s3⟩; go_simp; try with_reducible rfl
        simp only [Act.put, List.setIfInBounds_toArray, List.set_cons_zero, List.set_cons_succ]
        refine headY (v := ?_) (some 140) rfl rfl (Or.inl ⟨by rfl, ?_⟩) hS ?_
        rotate_left
        · rintro W' ⟨s0, s1, s2, s3⟩; go_simp; try with_reducible rfl
        simp only [Act.put, List.setIfInBounds_toArray, List.set_cons_zero, List.set_cons_succ]
        refine headY (v := ?_) (some 141) rfl rfl (Or.inl ⟨by rfl, ?_⟩) hS ?_
        rotate_left
        · rintro W' ⟨s0, s1, s2, s3⟩; go_simp; try with_reducible rfl
        simp only [Act.put, List.setIfInBounds_toArray, List.set_cons_zero, List.set_cons_succ]
        refine headY (v := ?_) (some 142) rfl rfl (Or.inl ⟨by rfl, ?_⟩) hS ?_
        rotate_left
        · rintro W' ⟨s0, s1, s2, s3⟩; go_simp; try with_reducible rfl
        simp only [Act.put, List.setIfInBounds_toArray, List.set_cons_zero, List.set_cons_succ]
        refine headY (v := ?_) (some 143) rfl rfl (Or.inl ⟨by rfl, ?_⟩) hS ?_
        rotate_left
        · rintro W' ⟨s0, s1, s2, s3⟩; go_simp; try with_reducible rfl
        simp only [Act.put, List.setIfInBounds_toArray, List.set_cons_zero, List.set_cons_succ]
        refine headY (v := ?_) (some 144) rfl rfl (Or.inl ⟨by rfl, ?_⟩) hS ?_
        rotate_left
        · rintro W' ⟨s0, s1, s2, s3⟩; go_simp; try with_reducible rfl
        simp only [Act.put, List.setIfInBounds_toArray, List.set_cons_zero, List.set_cons_succ]
        refine headY (v := ?_) (some 145) rfl rfl (Or.inl ⟨by rfl, ?_⟩) hS ?_
        rotate_left
        · rintro W' ⟨s0, s1, s2, s3⟩; go_simp; try with_reducible rfl
        simp only [Act.put, List.setIfInBounds_toArray, List.set_cons_zero, List.set_cons_succ]
        refine headC rfl (fun KK hK => ?_)
        go_simp
        refine call2.out.mono ?_
        rintro e w' ⟨rfl, rfl⟩
        refine hK _ _ hS ?_
        clear hK KK
        by_cases e2 : X2 = v1
        case neg =>
          have q2 : ((X2 : Int) == (v1 : Int)) = false := by rw [beq_eq_false_iff_ne]; exact fun h => e2 (Int.ofNat_inj.1 h)
          have hno := nofit.out (fun h => e2 (hstep.out.1 h).2.1)
          replace hno := Lib.hid hno
          refine headY (v := ?_) (some 146) rfl rfl (Or.inl ⟨by rfl, ?_⟩) hS ?_
          rotate_left
          · rintro W' ⟨s0, s1, s2, s3⟩; go_simp; try with_reducible rfl
          simp only [Act.put, List.setIfInBounds_toArray, List.set_cons_zero, List.set_cons_succ]
          refine headY (v := ?_) (some 147) rfl rfl (Or.inl ⟨by rfl, ?_⟩) hS ?_
          rotate_left
          · rintro W' ⟨s0, s1, s2, s3⟩; go_simp; try with_reducible rfl
          simp only [Act.put, List.setIfInBounds_toArray, List.set_cons_zero, List.set_cons_succ]
          refine head0 ?_
          simp only [List.drop_succ_cons, List.drop_zero]
          clear hS
          go_wp2
          refine NoPanic.normal ?_
          go_upto_region 23 with fail
          refine wp_region_plan (fun w' => w'.cell? ⟨w4.heap.size, 0, none⟩ = some (.int .i64 K) ∧ w'.cell? ⟨w4.heap.size, 2, none⟩ = some (.slice a n c) ∧ w'.cell? ta = some (.int .i64 oa) ∧ w'.cell? tb = some (.int .i64 ob)) 20 [(0, true), (1, true), (2, true), (3, true), (4, true), (5, true), (6, true), (7, true), (11, true), (12, true), (13, true), (14, true), (15, true), (8, false), (9, true), (10, true), (16, false), (17, true), (18, true), (19, true)] (by kernel_rfl) (by kernel_rfl) ?_
          rw [hZ.out]
          refine headY (v := ?_) (some 148) rfl rfl (Or.inl ⟨by rfl, ?_⟩) hSZ ?_
          rotate_left
          · rintro W' ⟨s0, s1, s2, s3⟩; go_simp; try with_reducible rfl
          simp only [Act.put, List.setIfInBounds_toArray, List.set_cons_zero, List.set_cons_succ]
          refine headY (v := ?_) (some 149) rfl rfl (Or.inl ⟨by rfl, ?_⟩) hSZ ?_
          rotate_left
          · rintro W' ⟨s0, s1, s2, s3⟩; go_simp; try with_reducible rfl
          simp only [Act.put, List.setIfInBounds_toArray, List.set_cons_zero, List.set_cons_succ]
          refine headY (v := ?_) (some 150) rfl rfl (Or.inl ⟨by rfl, ?_⟩) hSZ ?_
          rotate_left
          · rintro W' ⟨s0, s1, s2, s3⟩; go_simp; try with_reducible rfl
          simp only [Act.put, List.setIfInBounds_toArray, List.set_cons_zero, List.set_cons_succ]
          refine headY (v := undef) (some 151) rfl rfl (Or.inr ⟨by rfl, rfl⟩) hSZ ?_
          simp only [Act.put, List.setIfInBounds_toArray, List.set_cons_zero, List.set_cons_succ]
          refine headY (v := undef) (some 152) rfl rfl (Or.inr ⟨by rfl, rfl⟩) hSZ ?_
          simp only [Act.put, List.setIfInBounds_toArray, List.set_cons_zero, List.set_cons_succ]
          refine headY (v := undef) (some 153) rfl rfl (Or.inr ⟨by rfl, rfl⟩) hSZ ?_
          simp only [Act.put, List.setIfInBounds_toArray, List.set_cons_zero, List.set_cons_succ]
          refine headY (v := undef) (some 154) rfl rfl (Or.inr ⟨by rfl, rfl⟩) hSZ ?_
          simp only [Act.put, List.setIfInBounds_toArray, List.set_cons_zero, List.set_cons_succ]
          refine headY (v := undef) (some 155) rfl rfl (Or.inr ⟨by rfl, rfl⟩) hSZ ?_
          simp only [Act.put, List.setIfInBounds_toArray, List.set_cons_zero, List.set_cons_succ]
          refine headY (v := undef) (some 159) rfl rfl (Or.inr ⟨by rfl, rfl⟩) hSZ ?_
          simp only [Act.put, List.setIfInBounds_toArray, List.set_cons_zero, List.set_cons_succ]
          refine headY (v := undef) (some 160) rfl rfl (Or.inr ⟨by rfl, rfl⟩) hSZ ?_
          simp only [Act.put, List.setIfInBounds_toArray, List.set_cons_zero, List.set_cons_succ]
          refine headY (v := undef) (some 161) rfl rfl (Or.inr ⟨by rfl, rfl⟩) hSZ ?_
          simp only [Act.put, List.setIfInBounds_toArray, List.set_cons_zero, List.set_cons_succ]
          refine headY (v := undef) (some 162) rfl rfl (Or.inr ⟨by rfl, rfl⟩) hSZ ?_
          simp only [Act.put, List.setIfInBounds_toArray, List.set_cons_zero, List.set_cons_succ]
          refine headY (v := undef) (some 163) rfl rfl (Or.inr ⟨by rfl, rfl⟩) hSZ ?_
          simp only [Act.put, List.setIfInBounds_toArray, List.set_cons_zero, List.set_cons_succ]
          refine headC rfl (fun KK hK => ?_)
          go_simp
          refine hK _ _ hSZ ?_
          clear hK KK
          refine headY (v := undef) (some 157) rfl rfl (Or.inr ⟨by rfl, rfl⟩) hSZ ?_
          simp only [Act.put, List.setIfInBounds_toArray, List.set_cons_zero, List.set_cons_succ]
          refine headY (v := undef) (some 158) rfl rfl (Or.inr ⟨by rfl, rfl⟩) hSZ ?_
          simp only [Act.put, List.setIfInBounds_toArray, List.set_cons_zero, List.set_cons_succ]
          refine headC rfl (fun KK hK => ?_)
          go_simp
          refine hK _ _ hSZ ?_
          clear hK KK
          refine headY (v := undef) (some 165) rfl rfl (Or.inr ⟨by rfl, rfl⟩) hSZ ?_
          simp only [Act.put, List.setIfInBounds_toArray, List.set_cons_zero, List.set_cons_succ]
          refine headY (v := undef) (some 166) rfl rfl (Or.inr ⟨by rfl, rfl⟩) hSZ ?_
          simp only [Act.put, List.setIfInBounds_toArray, List.set_cons_zero, List.set_cons_succ]
          refine headY (v := undef) (some 167) rfl rfl (Or.inr ⟨by rfl, rfl⟩) hSZ ?_
          simp only [Act.put, List.setIfInBounds_toArray, List.set_cons_zero, List.set_cons_succ]
          refine head0 ?_
          simp only [List.drop_succ_cons, List.drop_zero]
          clear hSZ
          go_wp2
          refine NoPanic.normal ?_
          go_wp2_with fail
          refine (raw_new _ _ _ _).mono ?_
          rintro e w9 ⟨z, rfl, b9, he⟩
          obtain ⟨n1, a1, m1, c1, a2, m2, c2, rfl, g0, g1, g2, f0, f1, f3, g3, g4⟩ := close.out w9 z (Below.step bEnd b9) (he.mono bEnd.size)
          replace g3 := Lib.hid g3
          replace g4 := Lib.hid g4
          replace he := Lib.hid he
          go_wp2
          (try simp only [Exit.inBlock, Exit.then])
          exact bodyPost_ret (v := .tuple #[.slice none 0 0, .slice none 0 0, .agg #[.int .i64 n1, .slice a1 m1 c1, .slice a2 m2 c2]]) (by simp [results, Tryz.results26, go_sem, g0, g1, g2]) rfl ⟨_, _, _, rfl, g3.out, Or.inr ⟨hno.out, rfl, rfl, g4.out⟩⟩
        have q2 : ((X2 : Int) == (v1 : Int)) = true := by rw [beq_iff_eq]; exact Int.ofNat_inj.2 e2
        refine headY (v := ?_) (some 146) rfl rfl (Or.inl ⟨by rfl, ?_⟩) hS ?_
        rotate_left
        · rintro W' ⟨s0, s1, s2, s3⟩; go_simp; try with_reducible rfl
        simp only [Act.put, List.setIfInBounds_toArray, List.set_cons_zero, List.set_cons_succ]
        refine headY (v := ?_) (some 147) rfl rfl (Or.inl ⟨by rfl, ?_⟩) hS ?_
        rotate_left
        · rintro W' ⟨s0, s1, s2, s3⟩; go_simp; try with_reducible rfl
        simp only [Act.put, List.setIfInBounds_toArray, List.set_cons_zero, List.set_cons_succ]
        refine head0 ?_
        simp only [List.drop_succ_cons, List.drop_zero]
        clear hS
        go_wp2
        refine NoPanic.normal ?_
        go_upto_region 23 with fail
        refine wp_region_plan (fun w' => w'.cell? ⟨w4.heap.size, 0, none⟩ = some (.int .i64 K) ∧ w'.cell? ⟨w4.heap.size, 2, none⟩ = some (.slice a n c) ∧ w'.cell? ta = some (.int .i64 oa) ∧ w'.cell? tb = some (.int .i64 ob)) 20 [(0, true), (1, true), (2, true), (3, true), (4, true), (5, true), (6, true), (7, true), (11, true), (12, true), (13, true), (14, true), (15, true), (8, false), (9, true), (10, true), (16, false), (17, true), (18, true), (19, true)] (by kernel_rfl) (by kernel_rfl) ?_
        rw [hZ.out]
        refine headY (v := ?_) (some 148) rfl rfl (Or.inl ⟨by rfl, ?_⟩) hSZ ?_
        rotate_left
        · rintro W' ⟨s0, s1, s2, s3⟩; go_simp; try with_reducible rfl
        simp only [Act.put, List.setIfInBounds_toArray, List.set_cons_zero, List.set_cons_succ]
        refine headY (v := ?_) (some 149) rfl rfl (Or.inl ⟨by rfl, ?_⟩) hSZ ?_
        rotate_left
        · rintro W' ⟨s0, s1, s2, s3⟩; go_simp; try with_reducible rfl
        simp only [Act.put, List.setIfInBounds_toArray, List.set_cons_zero, List.set_cons_succ]
        refine headY (v := ?_) (some 150) rfl rfl (Or.inl ⟨by rfl, ?_⟩) hSZ ?_
        rotate_left
        · rintro W' ⟨s0, s1, s2, s3⟩; go_simp; try with_reducible rfl
        simp only [Act.put, List.setIfInBounds_toArray, List.set_cons_zero, List.set_cons_succ]
        refine headY (v := ?_) (some 151) rfl rfl (Or.inl ⟨by rfl, ?_⟩) hSZ ?_
        rotate_left
        · rintro W' ⟨s0, s1, s2, s3⟩; go_simp; try with_reducible rfl
        simp only [Act.put, List.setIfInBounds_toArray, List.set_cons_zero, List.set_cons_succ]
        refine headY (v := ?_) (some 152) rfl rfl (Or.inl ⟨by rfl, ?_⟩) hSZ ?_
        rotate_left
        · rintro W' ⟨s0, s1, s2, s3⟩; go_simp; try with_reducible rfl
        simp only [Act.put, List.setIfInBounds_toArray, List.set_cons_zero, List.set_cons_succ]
        refine headY (v := ?_) (some 153) rfl rfl (Or.inl ⟨by rfl, ?_⟩) hSZ ?_
        rotate_left
        · rintro W' ⟨s0, s1, s2, s3⟩; go_simp; try with_reducible rfl
        simp only [Act.put, List.setIfInBounds_toArray, List.set_cons_zero, List.set_cons_succ]
        refine headY (v := ?_) (some 154) rfl rfl (Or.inl ⟨by rfl, ?_⟩) hSZ ?_
        rotate_left
        · rintro W' ⟨s0, s1, s2, s3⟩; go_simp; try with_reducible rfl
        simp only [Act.put, List.setIfInBounds_toArray, List.set_cons_zero, List.set_cons_succ]
        refine headY (v := ?_) (some 155) rfl rfl (Or.inl ⟨by rfl, ?_⟩) hSZ ?_
        rotate_left
        · rintro W' ⟨s0, s1, s2, s3⟩; go_simp; try with_reducible rfl
        simp only [Act.put, List.setIfInBounds_toArray, List.set_cons_zero, List.set_cons_succ]
        refine headY (v := ?_) (some 159) rfl rfl (Or.inl ⟨by rfl, ?_⟩) hSZ ?_
        rotate_left
        · rintro W' ⟨s0, s1, s2, s3⟩; go_simp; try with_reducible rfl
        simp only [Act.put, List.setIfInBounds_toArray, List.set_cons_zero, List.set_cons_succ]
        refine headY (v := ?_) (some 160) rfl rfl (Or.inl ⟨by rfl, ?_⟩) hSZ ?_
        rotate_left
        · rintro W' ⟨s0, s1, s2, s3⟩; go_simp; try with_reducible rfl
        simp only [Act.put, List.setIfInBounds_toArray, List.set_cons_zero, List.set_cons_succ]
        refine headY (v := ?_) (some 161) rfl rfl (Or.inl ⟨by rfl, ?_⟩) hSZ ?_
        rotate_left
        · rintro W' ⟨s0, s1, s2, s3⟩; go_simp; try with_reducible rfl
        simp only [Act.put, List.setIfInBounds_toArray, List.set_cons_zero, List.set_cons_succ]
        refine headY (v := ?_) (some 162) rfl rfl (Or.inl ⟨by rfl, ?_⟩) hSZ ?_
        rotate_left
        · rintro W' ⟨s0, s1, s2, s3⟩; go_simp; try with_reducible rfl
        simp only [Act.put, List.setIfInBounds_toArray, List.set_cons_zero, List.set_cons_succ]
        refine headY (v := ?_) (some 163) rfl rfl (Or.inl ⟨by rfl, ?_⟩) hSZ ?_
        rotate_left
        · rintro W' ⟨s0, s1, s2, s3⟩; go_simp; try with_reducible rfl
        simp only [Act.put, List.setIfInBounds_toArray, List.set_cons_zero, List.set_cons_succ]
        refine headC rfl (fun KK hK => ?_)
        go_simp
        refine call3.out.mono ?_
        rintro e w' ⟨rfl, rfl⟩
        refine hK _ _ hSZ ?_
        clear hK KK
        refine headY (v := ?_) (some 157) rfl rfl (Or.inl ⟨by rfl, ?_⟩) hSZ ?_
        rotate_left
        · rintro W' ⟨s0, s1, s2, s3⟩; go_simp; try with_reducible rfl
        simp only [Act.put, List.setIfInBounds_toArray, List.set_cons_zero, List.set_cons_succ]
        refine headY (v := ?_) (some 158) rfl rfl (Or.inl ⟨by rfl, ?_⟩) hSZ ?_
        rotate_left
        · rintro W' ⟨s0, s1, s2, s3⟩; go_simp; try with_reducible rfl
        simp only [Act.put, List.setIfInBounds_toArray, List.set_cons_zero, List.set_cons_succ]
        refine headC rfl (fun KK hK => ?_)
        go_simp
        refine call4.out.mono ?_
        rintro e w' ⟨rfl, rfl⟩
        refine hK _ _ hSZ ?_
        clear hK KK
        refine headY (v := ?_) (some 165) rfl rfl (Or.inl ⟨by rfl, ?_⟩) hSZ ?_
        rotate_left
        · rintro W' ⟨s0, s1, s2, s3⟩; go_simp; try with_reducible rfl
        simp only [Act.put, List.setIfInBounds_toArray, List.set_cons_zero, List.set_cons_succ]
        refine headY (v := ?_) (some 166) rfl rfl (Or.inl ⟨by rfl, ?_⟩) hSZ ?_
        rotate_left
        · rintro W' ⟨s0, s1, s2, s3⟩; go_simp; try with_reducible rfl
        simp only [Act.put, List.setIfInBounds_toArray, List.set_cons_zero, List.set_cons_succ]
        refine headY (v := ?_) (some 167) rfl rfl (Or.inl ⟨by rfl, ?_⟩) hSZ ?_
        rotate_left
        · rintro W' ⟨s0, s1, s2, s3⟩; go_simp; try with_reducible rfl
        simp only [Act.put, List.setIfInBounds_toArray, List.set_cons_zero, List.set_cons_succ]
        refine head0 ?_
        simp only [List.drop_succ_cons, List.drop_zero]
        clear hSZ
        by_cases e3 : oa = ob
        case neg =>
          have q3 : (oa != ob) = true := by rw [bne_iff_ne]; exact e3
          have hno := nofit.out (fun h => e3 (hstep.out.1 h).2.2)
          replace hno := Lib.hid hno
          go_wp2
          refine NoPanic.normal ?_
          go_wp2_with fail
          refine (raw_new _ _ _ _).mono ?_
          rintro e w9 ⟨z, rfl, b9, he⟩
          obtain ⟨n1, a1, m1, c1, a2, m2, c2, rfl, g0, g1, g2, f0, f1, f3, g3, g4⟩ := close.out w9 z (Below.step bEnd b9) (he.mono bEnd.size)
          replace g3 := Lib.hid g3
          replace g4 := Lib.hid g4
          replace he := Lib.hid he
          go_wp2
          (try simp only [Exit.inBlock, Exit.then])
          exact bodyPost_ret (v := .tuple #[.slice none 0 0, .slice none 0 0, .agg #[.int .i64 n1, .slice a1 m1 c1, .slice a2 m2 c2]]) (by simp [results, Tryz.results26, go_sem, g0, g1, g2]) rfl ⟨_, _, _, rfl, g3.out, Or.inr ⟨hno.out, rfl, rfl, g4.out⟩⟩
        have q3 : (oa != ob) = false := by rw [bne_eq_false_iff_eq]; exact e3
        have hyes := yesfit.out (hstep.out.2 ⟨e1, e2, e3⟩)
        replace hyes := Lib.hid hyes
        replace e1 := Lib.hid e1
        replace e2 := Lib.hid e2
        replace e3 := Lib.hid e3
        go_wp2
        refine NoPanic.normal ?_
        go_wp2
        go_roundw
        case measure => exact meas_up hil
        case rel =>
          have hij := hi.out
          refine ⟨i, _, _, _, hil, by go_num, rfl, rfl, rZ.out, bZ, ?_, ?_, fun k hk => hyes.out k (by rw [hij]; exact hk)⟩
          · rw [upd_ne _ _ (by simp), upd_same, hA1.out, hij]
          · rw [upd_same, hB1.out, hij]
end Go.Proofs.YtilpckngghffoaaGreatDoor

namespace Go.Proofs.YtilpckngghffoaaGreatDoor
open Go.RowKit
set_option maxRecDepth 100000

/-- The words and the error that both answer. -/
def WdIs (k R : Int) (T way xs ys : List Int) (t : PErr) : Prop :=
  match smallP k R T with
  | some t' => xs = [] ∧ ys = [] ∧ t = under sPairs 0 (some t')
  | none =>
    (∃ ns : List Nat, way = castI ns ∧ WayOk (pw k.toNat (2 * wkR R.toNat)) way ∧ AllFit k.toNat (pw k.toNat (2 * wkR R.toNat)) (wkT k.toNat R.toNat T) ns ∧
      xs = alongW k.toNat (2 * wkR R.toNat) (· / pw k.toNat (2 * wkR R.toNat)) ns ∧ ys = alongW k.toNat (2 * wkR R.toNat) (· % pw k.toNat (2 * wkR R.toNat)) ns ∧ t = none) ∨
    ((¬ ∃ ns : List Nat, way = castI ns ∧ WayOk (pw k.toNat (2 * wkR R.toNat)) way ∧ AllFit k.toNat (pw k.toNat (2 * wkR R.toNat)) (wkT k.toNat R.toNat T) ns) ∧ xs = [] ∧ ys = [] ∧ t = fresh sPairs 1 3)
theorem castI_inj {a b : List Nat} (h : castI a = castI b) : a = b := by
  have e : (castI a).map Int.toNat = (castI b).map Int.toNat := by rw [h]
  simpa [castI, Function.comp_def] using e
theorem WdIs.unique {k R : Int} {T way xs ys us vs : List Int} {t s : PErr} (h : WdIs k R T way xs ys t) (g : WdIs k R T way us vs s) : us = xs ∧ vs = ys ∧ s = t := by
  unfold WdIs at h g
  cases hc : smallP k R T with
  | some t' =>
    rw [hc] at h g
    obtain ⟨rfl, rfl, rfl⟩ := h
    exact g
  | none =>
    rw [hc] at h g
    rcases h with ⟨ns, e1, w1, f1, rfl, rfl, rfl⟩ | ⟨n1, rfl, rfl, rfl⟩ <;> rcases g with ⟨ms, e2, w2, f2, rfl, rfl, rfl⟩ | ⟨n2, rfl, rfl, rfl⟩
    · obtain rfl := castI_inj (e1.symm.trans e2)
      exact ⟨rfl, rfl, rfl⟩
    · exact absurd ⟨ns, e1, w1, f1⟩ n2
    · exact absurd ⟨ms, e2, w2, f2⟩ n1
    · exact ⟨rfl, rfl, rfl⟩
theorem WdIs.fine {k R : Int} {T way xs ys : List Int} {t : PErr} (h : WdIs k R T way xs ys t) : t.Fine := by
  unfold WdIs at h
  cases hc : smallP k R T with
  | some t' =>
    rw [hc] at h
    obtain ⟨-, -, rfl⟩ := h
    obtain ⟨n, l⟩ := t'
    have := smallP_num hc
    refine ⟨by omega, by omega, ?_⟩
    simp only [List.length_cons]
    omega
  | none =>
    rw [hc] at h
    rcases h with ⟨_, _, _, _, _, _, rfl⟩ | ⟨_, _, _, rfl⟩
    · trivial
    · exact ⟨by decide, by decide, by decide⟩

theorem pwords_any (r : Nat → Addr) (k R : Int) (va : Option Addr) (vn vc : Nat) (T : List Int) (u : Value) (way : List Int) (w : World) (hg : Glob r w) (h : IntsAt w (.slice va vn vc) T) (hu : IntsAt w u way) (hwl : way.length ≤ 17592186044000) :
    Calls Tryz.prog 25 #[.agg #[.int .i64 k, .int .i64 R, .slice va vn vc], u] w (Ret3 (fun x y z w' => ∃ xs ys t, WdIs k R T way xs ys t ∧ IntsAt w' x xs ∧ IntsAt w' y ys ∧ ErrIs r w' t z) w) := by
  cases hc : smallP k R T with
  | some t =>
    refine (pwords_bad r k R va vn vc T u t w hg h hc).mono ?_
    rintro e w1 ⟨x, y, z, rfl, b1, rfl, rfl, hy⟩
    exact ⟨_, _, _, rfl, b1, [], [], _, by unfold WdIs; rw [hc]; exact ⟨rfl, rfl, rfl⟩, (OwnI.nil 0 _).at, (OwnI.nil 0 _).at, hy⟩
  | none =>
    obtain ⟨hck, hl⟩ := smallP_none hc
    obtain ⟨K, Q, rfl, rfl, hr⟩ := checkP_none hck
    by_cases hw : WayOk (pw K (2 * wkR Q)) way
    · obtain ⟨ns, rfl, hne, hlow⟩ := hw.nat
      rw [castI_len] at hwl
      refine (pwords_way r K Q va vn vc T u ns w hg h hr hl hu hne hlow hwl).mono ?_
      rintro e w1 ⟨x, y, z, rfl, b1, hp⟩
      rcases hp with ⟨hf, rfl, hx, hy, -⟩ | ⟨hf, rfl, rfl, hz⟩
      · exact ⟨_, _, _, rfl, b1, _, _, none, by unfold WdIs; rw [hc]; exact .inl ⟨ns, rfl, hw, hf, rfl, rfl, rfl⟩, hx.at, hy.at, rfl⟩
      · exact ⟨_, _, _, rfl, b1, [], [], _, by unfold WdIs; rw [hc]; exact .inr ⟨fun ⟨ms, e, _, f⟩ => hf (by rw [castI_inj e]; exact f), rfl, rfl, rfl⟩, (OwnI.nil 0 _).at, (OwnI.nil 0 _).at, hz⟩
    · refine (pwords_odd r K Q va vn vc T u way w hg h hr hl hu hw).mono ?_
      rintro e w1 ⟨x, y, z, rfl, b1, rfl, rfl, hz⟩
      exact ⟨_, _, _, rfl, b1, [], [], _, by unfold WdIs; rw [hc]; exact .inr ⟨fun ⟨_, _, q, _⟩ => hw q, rfl, rfl, rfl⟩, (OwnI.nil 0 _).at, (OwnI.nil 0 _).at, hz⟩

theorem rwords_any (k R : Int) (va : Option Addr) (vn vc : Nat) (T : List Int) (u : Value) (way : List Int) (w : World) (h : IntsAt w (.slice va vn vc) T) (hu : IntsAt w u way) (hwl : way.length ≤ 17592186044000) :
    Calls Tryz.prog 26 #[.agg #[.int .i64 k, .int .i64 R, .slice va vn vc], u] w (Ret3 (fun x y z w' => ∃ xs ys t, WdIs k R T way xs ys t ∧ IntsAt w' x xs ∧ IntsAt w' y ys ∧ EOwn w.heap.size w' t z) w) := by
  cases hc : smallP k R T with
  | some t =>
    refine (ref13_words_bad k R va vn vc T u t w h hc).mono ?_
    rintro e w1 ⟨x, y, z, rfl, b1, rfl, rfl, hy⟩
    exact ⟨_, _, _, rfl, b1, [], [], _, by unfold WdIs; rw [hc]; exact ⟨rfl, rfl, rfl⟩, (OwnI.nil 0 _).at, (OwnI.nil 0 _).at, hy⟩
  | none =>
    obtain ⟨hck, hl⟩ := smallP_none hc
    obtain ⟨K, Q, rfl, rfl, hr⟩ := checkP_none hck
    by_cases hw : WayOk (pw K (2 * wkR Q)) way
    · obtain ⟨ns, rfl, hne, hlow⟩ := hw.nat
      rw [castI_len] at hwl
      refine (ref13_words_way K Q va vn vc T u ns w h hr hl hu hne hlow hwl).mono ?_
      rintro e w1 ⟨x, y, z, rfl, b1, hp⟩
      rcases hp with ⟨hf, rfl, hx, hy⟩ | ⟨hf, rfl, rfl, hz⟩
      · exact ⟨_, _, _, rfl, b1, _, _, none, by unfold WdIs; rw [hc]; exact .inl ⟨ns, rfl, hw, hf, rfl, rfl, rfl⟩, hx.at, hy.at, rfl⟩
      · exact ⟨_, _, _, rfl, b1, [], [], _, by unfold WdIs; rw [hc]; exact .inr ⟨fun ⟨ms, e, _, f⟩ => hf (by rw [castI_inj e]; exact f), rfl, rfl, rfl⟩, (OwnI.nil 0 _).at, (OwnI.nil 0 _).at, hz⟩
    · refine (ref13_words_odd K Q va vn vc T u way w h hr hl hu hw).mono ?_
      rintro e w1 ⟨x, y, z, rfl, b1, rfl, rfl, hz⟩
      exact ⟨_, _, _, rfl, b1, [], [], _, by unfold WdIs; rw [hc]; exact .inr ⟨fun ⟨_, _, q, _⟩ => hw q, rfl, rfl, rfl⟩, (OwnI.nil 0 _).at, (OwnI.nil 0 _).at, hz⟩
end Go.Proofs.YtilpckngghffoaaGreatDoor

namespace Go.Proofs.YtilpckngghffoaaGreatDoor

/-- The nodes told behind i symbols. -/
def pathN (K m : Nat) (x : List Int) (i : Nat) : List Nat := (List.range (i + 1 - m)).map (nodeAt K m x)
theorem pathN_zero {K m : Nat} {x : List Int} (hm : 1 ≤ m) : pathN K m x 0 = [] := by unfold pathN; rw [show 0 + 1 - m = 0 by omega]; rfl
theorem pathN_len (K m : Nat) (x : List Int) (i : Nat) : (pathN K m x i).length = i + 1 - m := by simp [pathN]
theorem take_next {x : List Int} {j : Nat} (h : j < x.length) : x.take (j + 1) = x.take j ++ [x.getD j 0] := by
  rw [List.take_add_one]; simp [List.getD, h]
theorem pathN_next {K m : Nat} {x : List Int} {j : Nat} (hx : Syms K x) (h : j < x.length) (hm : m ≤ j + 1) : pathN K m x (j + 1) = pathN K m x j ++ [numW K (x.take (j + 1)) % pw K m] := by
  unfold pathN
  rw [show j + 1 + 1 - m = (j + 1 - m) + 1 by omega, List.range_succ, List.map_append, List.map_cons, List.map_nil]
  congr 2
  have e : x.take (j + 1) = x.take (j + 1 - m) ++ (x.drop (j + 1 - m)).take m := by
    conv => lhs; rw [show j + 1 = (j + 1 - m) + m by omega]
    rw [List.take_add]
  have hl : ((x.drop (j + 1 - m)).take m).length = m := by simp; omega
  have hs : Syms K ((x.drop (j + 1 - m)).take m) := syms_take (syms_drop hx _) _
  have := numW_mod (K := K) (u := x.take (j + 1 - m)) hs
  rw [hl, ← e] at this
  exact this.symm
theorem pathN_skip {K m : Nat} {x : List Int} {j : Nat} (hm : ¬ m ≤ j + 1) : pathN K m x (j + 1) = pathN K m x j := by
  unfold pathN
  rw [show j + 1 + 1 - m = 0 by omega, show j + 1 - m = 0 by omega]
theorem node_step {K : Nat} {x : List Int} {j : Nat} (N : Nat) (h : j < x.length) : numW K (x.take (j + 1)) % N = (numW K (x.take j) % N * K + (x.getD j 0).toNat) % N := by
  rw [take_next h, numW_step]
theorem at_step {K N a s : Nat} (hN : 0 < N) (hs : s < K) : (a * K + s) % (N * K) = a % N * K + s := by
  have e : a * K + s = (a % N * K + s) + N * K * (a / N) := by
    have h1 := Nat.mod_add_div a N
    have h2 : a * K = (a % N + N * (a / N)) * K := by rw [h1]
    rw [Nat.add_mul] at h2
    have h3 : N * K * (a / N) = N * (a / N) * K := by rw [Nat.mul_assoc, Nat.mul_comm K, ← Nat.mul_assoc]
    omega
  rw [e, Nat.add_mul_mod_self_left]
  apply Nat.mod_eq_of_lt
  have h1 : a % N + 1 ≤ N := Nat.mod_lt _ hN
  have h2 : (a % N + 1) * K ≤ N * K := Nat.mul_le_mul_right _ h1
  rw [Nat.add_mul, Nat.one_mul] at h2
  omega
theorem img_next {K R : Nat} {T x : List Int} {j : Nat} (hK : 1 ≤ K) (hT : T.length = pw K (2 * R + 1)) (hx : Syms K x) (h : j < x.length) (hR : 2 * R ≤ j) :
    imgP K R T (x.take (j + 1)) = imgP K R T (x.take j) ++ [T.getD (numW K (x.take j) % pw K (2 * R) * K + (x.getD j 0).toNat) 0] := by
  have hs : Syms K (x.take j ++ [x.getD j 0]) := by rw [← take_next h]; exact syms_take hx _
  rw [take_next h, imgP_snoc hT hs, if_pos (by rw [List.length_take]; omega), numW_snoc, hT, pw_succ, at_step (pw_pos (K := K) (2 * R) hK) (syms_at hx h).2.2]
theorem img_skip {K R : Nat} {T x : List Int} {j : Nat} (hT : T.length = pw K (2 * R + 1)) (hx : Syms K x) (h : j < x.length) (hR : ¬ 2 * R ≤ j) :
    imgP K R T (x.take (j + 1)) = imgP K R T (x.take j) := by
  have hs : Syms K (x.take j ++ [x.getD j 0]) := by rw [← take_next h]; exact syms_take hx _
  rw [take_next h, imgP_snoc hT hs, if_neg (by rw [List.length_take]; omega)]
end Go.Proofs.YtilpckngghffoaaGreatDoor

namespace Go.Proofs.YtilpckngghffoaaGreatDoor
open Go.RowKit
set_option maxRecDepth 100000

theorem overP_none {K R : Nat} {T x : List Int} (hr : RuleOk K R T) (hl : T.length ≤ 256) (hx : Syms K x) (hxl : x.length ≤ 4096) : overP K R T x 4096 = none := by
  unfold overP
  rw [smallP_small hr hl]
  simp only
  rw [if_neg (by omega), if_pos hx.odd]

set_option maxHeartbeats 2000000 in
theorem over_path (r : Nat → Addr) (K R : Nat) (va : Option Addr) (vn vc : Nat) (T : List Int) (u : Value) (x : List Int) (w : World) (hg : Glob r w) (h : IntsAt w (.slice va vn vc) T) (hu : IntsAt w u x) (hr : RuleOk K R T) (hl : T.length ≤ 256) (hR : 1 ≤ R) (hx : Syms K x) (hxl : x.length ≤ 4096) :
    Calls Tryz.prog 70 #[.agg #[.int .i64 K, .int .i64 R, .slice va vn vc], u] w (Ret3 (fun a b e w' => e = .nilIface ∧ OwnI w.heap.size w' a (castI (pathN K (2 * R) x x.length)) ∧ OwnI w.heap.size w' b (imgP K R T x) ∧ (a.ownBlock = none ∨ a.ownBlock ≠ b.ownBlock)) w) := by
  have b0 := belowAlloc w (.cells #[.int .i64 K, .int .i64 R, .slice va vn vc] 24)
  have q : Box3 (w.alloc (.cells #[.int .i64 K, .int .i64 R, .slice va vn vc] 24)) w.heap.size (.int .i64 K) (.int .i64 R) (.slice va vn vc) := by simp [Box3, go_sem]
  have hk1 := hr.k1
  have hk4 := hr.k4
  have hR3 := hr.r3
  have hN81 := nodes_le hr hR hl
  have hN1 := pw_pos (K := K) (2 * R) hk1
  obtain ⟨hdiv, hlenT⟩ := hr.half
  have hTl := hr.len
  have hc := overP_none hr hl hx hxl
  have lx := hu.len
  obtain ⟨ua, un, uc, rfl⟩ := hu.shape
  have hp0 := pathN_zero (K := K) (x := x) (m := 2 * R) (by omega)
  have hpn := fun (j : Nat) (hj : j < x.length) (hm : 2 * R ≤ j + 1) => pathN_next (K := K) (m := 2 * R) (j := j) hx hj hm
  have hps := fun (j : Nat) (hm : ¬ 2 * R ≤ j + 1) => pathN_skip (K := K) (m := 2 * R) (x := x) (j := j) hm
  have hin := fun (j : Nat) (hj : j < x.length) (hm : 2 * R ≤ j) => img_next (K := K) (R := R) (T := T) (j := j) hk1 hTl hx hj hm
  have his := fun (j : Nat) (hj : j < x.length) (hm : ¬ 2 * R ≤ j) => img_skip (K := K) (R := R) (T := T) (j := j) hTl hx hj hm
  have hns := fun (j : Nat) (hj : j < x.length) => node_step (K := K) (x := x) (j := j) (pw K (2 * R)) hj
  have hsy := fun (j : Nat) (hj : j < x.length) => syms_at hx hj
  have hpl := fun (j : Nat) => pathN_len K (2 * R) x j
  obtain ⟨m, hm⟩ : ∃ m, 2 * R = m := ⟨_, rfl⟩
  have hm2 : 2 * (R : Int) = (m : Int) := by omega
  rw [hm] at hN81 hN1 hdiv hlenT hp0 hpn hps hin his hns hpl ⊢
  obtain ⟨N, hN⟩ : ∃ N, pw K m = N := ⟨_, rfl⟩
  rw [hN] at hN81 hN1 hdiv hlenT hpn hin hns
  replace hg := Lib.hid (hg.below b0)
  replace h := Lib.hid (h.below b0)
  replace hu := Lib.hid (hu.below b0)
  replace hr := Lib.hid hr
  replace hc := Lib.hid hc
  replace hdiv := Lib.hid hdiv
  replace hlenT := Lib.hid hlenT
  replace hp0 := Lib.hid hp0
  replace hpn := Lib.hid hpn
  replace hps := Lib.hid hps
  replace hin := Lib.hid hin
  replace his := Lib.hid his
  replace hns := Lib.hid hns
  replace hsy := Lib.hid hsy
  replace hpl := Lib.hid hpl
  replace hN := Lib.hid hN
  replace hTl := Lib.hid hTl
  replace hx := Lib.hid hx
  have hmm := Lib.hid hm
  clear hm
  go_enter Tryz.func70, Tryz.ntmps70
  go_wp2_with fail
  refine (over_check r K R va vn vc T (.slice ua un uc) x 4096 _ hg.out h.out hu.out).mono ?_
  rintro e w1 ⟨y, rfl, b1, he⟩
  rw [hc.out] at he
  obtain rfl := he.none_eq
  clear he
  obtain ⟨⟨z0, z1, z2⟩, -, -, -⟩ := q.below b1
  have b01 := Below.step b0 b1
  have hs1 := b01.size
  have r1 := (Rows.void w1.heap.size w1).add (i := (1, 0)) (r' := rowI (.slice none 0 0) []) (Below.refl _ _) (OwnI.nil _ _) (fun k hk => by cases hk)
  have r2 := r1.add (i := (2, 0)) (r' := rowI (.slice none 0 0) []) (Below.refl _ _) (OwnI.nil _ _) (fun k hk => by cases hk)
  obtain ⟨f, hf⟩ : ∃ f, f = upd (upd (fun _ => none) (1, 0) (some (rowI (.slice none 0 0) []))) (2, 0) (some (rowI (.slice none 0 0) [])) := ⟨_, rfl⟩
  have hfa : f (1, 0) = some (rowI (.slice none 0 0) (castI (pathN K m x 0))) := by rw [hf, upd_ne _ _ (by simp), upd_same, hp0.out]; rfl
  have hfb : f (2, 0) = some (rowI (.slice none 0 0) (imgP K R T (x.take 0))) := by
    rw [hf, upd_same]
    simp [imgP]
  rw [← hf] at r2
  clear hf r1
  have hR1 : ¬ (R : Int) = 0 := by omega
  have hR2 : ((m : Int) == 0) = false := by rw [beq_eq_false_iff_ne]; omega
  have hR4 : ¬ (m : Int) = 0 := by omega
  have hwm : IntKind.i64.wrap (m : Int) = m := wrapK (by omega) (by omega)
  replace r2 := Lib.hid r2
  replace hfa := Lib.hid hfa
  replace hfb := Lib.hid hfb
  go_wp2_with fail
  go_loopw [8, 9, 10, 29] (fun ta la nv jv wr => ∃ (j nd : Nat) (f : Names) (ta' la' : Value), j ≤ x.length ∧ jv = .int .i64 j ∧ ta' = ta ∧ la' = la ∧ numW K (x.take j) % N = nd ∧ nv = .int .i64 nd ∧ Rows w1.heap.size wr f ∧ Below w1.heap.size w1 wr ∧ f (1, 0) = some (rowI ta' (castI (pathN K m x j))) ∧ f (2, 0) = some (rowI la' (imgP K R T (x.take j)))) (fun _ _ _ jv _ => x.length - (intOf jv).toNat)
  case atStart => exact ⟨0, 0, f, _, _, by omega, rfl, rfl, rfl, by simp [numW], rfl, r2.out, Below.refl _ _, hfa.out, hfb.out⟩
  case round =>
    clear r2 hfa hfb
    obtain ⟨j, nd, f2, tv, lv, hj, rfl, rfl, rfl, hnd, rfl, hr2, bI, hfa, hfb⟩ := hrel
    obtain ⟨wo, rfl⟩ : ∃ wo : World, wo = wr := ⟨_, rfl⟩
    by_cases hjl : j < x.length
    · obtain ⟨h0, h1, h2⟩ := hsy.out j hjl
      obtain ⟨s, hs⟩ : ∃ s : Nat, x.getD j 0 = (s : Int) := ⟨(x.getD j 0).toNat, by omega⟩
      have hst : (x.getD j 0).toNat = s := by omega
      rw [hst] at h2
      have iX := fun w' => hu.out.idx j hjl w'
      have cX := hu.out.cellD j hjl
      rw [hs] at cX
      have b1I := Below.step b1 bI
      have cXo := (b1I.cell (World.block_lt_of_cell? _ _ cX)).trans cX
      have hndN : nd < N := by rw [← hnd]; exact Nat.mod_lt _ (by omega)
      obtain ⟨nk, hnk⟩ : ∃ z, nd * K = z := ⟨_, rfl⟩
      have hnk2 : (nd : Int) * (K : Int) = (nk : Int) := by rw [← hnk]; simp
      have hnkl : nk ≤ 324 := by rw [← hnk]; exact Nat.le_trans (Nat.mul_le_mul (show nd ≤ 81 by omega) hk4) (by decide)
      obtain ⟨at_, hat⟩ : ∃ z, nk + s = z := ⟨_, rfl⟩
      have hat2 : (nk : Int) + (s : Int) = (at_ : Int) := by omega
      have hatT : at_ < T.length := by
        rw [hlenT.out]
        have h3 : (nd + 1) * K ≤ N * K := Nat.mul_le_mul_right _ hndN
        rw [Nat.add_mul, Nat.one_mul] at h3
        omega
      have hwk : IntKind.i64.wrap (nk : Int) = nk := wrapK (by omega) (by omega)
      have hwa : IntKind.i64.wrap (at_ : Int) = at_ := wrapK (by omega) (by omega)
      have hnd2 := hns.out j hjl
      rw [hnd, hst, hnk, hat] at hnd2
      obtain ⟨d1, d2, d3, d4, d5, d6⟩ := dm at_ N (by omega)
      obtain ⟨nn, hnn⟩ : ∃ z, at_ % N = z := ⟨_, rfl⟩
      rw [hnn] at d2 d4 d6 hnd2
      have hTo := (h.out.below b1I)
      have hnodes := over_nodes K R va vn vc T wo hTo hk1 (by omega)
      rw [hdiv.out] at hnodes
      obtain ⟨⟨y0, y1, y2⟩, -, -, -⟩ := q.below b1I
      have hoa := hr2.ownI hfa
      have hob := hr2.ownI hfb
      have hjl2 := Lib.hid hjl
      have bn := belowAlloc wo (.cells #[.int .i64 K, .int .i64 R, .slice va vn vc] 24)
      have iT := fun w' => hTo.idx at_ hatT w'
      have cT := h.out.cellD at_ hatT
      generalize valAt (.slice ua un uc) j = xa at *
      generalize valAt (.slice va vn vc) at_ = taa at *
      obtain ⟨tz, htz⟩ : ∃ z, T.getD at_ 0 = z := ⟨_, rfl⟩
      rw [htz] at cT
      replace hnodes := Lib.hid hnodes
      replace hs := Lib.hid hs
      replace hst := Lib.hid hst
      replace hnk := Lib.hid hnk
      replace hat := Lib.hid hat
      replace hnn := Lib.hid hnn
      replace hnd := Lib.hid hnd
      replace hnd2 := Lib.hid hnd2
      replace htz := Lib.hid htz
      replace hoa := Lib.hid hoa
      replace hob := Lib.hid hob
      replace hr2 := Lib.hid hr2
      replace hfa := Lib.hid hfa
      replace hfb := Lib.hid hfb
      replace hTo := Lib.hid hTo
      replace cX := Lib.hid cX
      replace h2 := Lib.hid h2
      clear h0 h1
      go_wp2_with fail
      refine hnodes.out.mono ?_
      rintro e w4 ⟨rfl, hw4⟩
      have bo4 : Below wo.heap.size wo w4 := by rw [hw4]; exact bn
      have b14 := Below.step b1I bo4
      have bI4 := bI.trans (bo4.mono bI.size)
      clear hw4 hnodes y0 y1 y2 cXo
      obtain ⟨⟨y0, y1, y2⟩, -, -, -⟩ := q.below b14
      have hr4 := hr2.out.below bo4
      have hB4 := bI4.size
      have hpl2 := hpl.out j
      by_cases hmj : m ≤ j + 1
      · have hd1 : decide ((m : Int) ≤ (j : Int) + 1) = true := decide_eq_true (by omega)
        have hoa4 := hr4.ownI hfa.out
        have hpe := hpn.out j hjl2.out hmj
        rw [hnd2.out] at hpe
        have hmj2 := Lib.hid hmj
        replace hr4 := Lib.hid hr4
        replace hpe := Lib.hid hpe
        go_wp2_with (at_builtin; go_loud (refine wpl_append1 rfl _ _ rfl w1.heap.size tv _ (nn : Int) hoa4 rfl rfl (by rw [castI_len]; omega) hB4 ?_))
        intro tv' w5 ho5 b5 hg5 hal5
        have hr5 := hr4.out.push hfa.out (nn : Int) ho5 hg5 hal5
        have hca : castI (pathN K m x j) ++ [(nn : Int)] = castI (pathN K m x (j + 1)) := by rw [hpe.out]; simp [castI]
        rw [hca] at hr5 ho5
        obtain ⟨f5, hf5⟩ : ∃ f5, f5 = upd f2 (1, 0) (some (rowI tv' (castI (pathN K m x (j + 1))))) := ⟨_, rfl⟩
        rw [← hf5] at hr5
        have hfa5 : f5 (1, 0) = some (rowI tv' (castI (pathN K m x (j + 1)))) := by rw [hf5, upd_same]
        have hfb5 : f5 (2, 0) = some (rowI lv (imgP K R T (x.take j))) := by rw [hf5, upd_ne _ _ (by simp)]; exact hfb.out
        have b15 : Below w1.heap.size w1 w5 := bI4.trans b5
        have b16 := Below.step b1 b15
        clear y0 y1 y2 hf5 hca hg5 hal5 hoa4
        obtain ⟨⟨y0, y1, y2⟩, -, -, -⟩ := q.below b16
        have cT5 := (b16.cell (World.block_lt_of_cell? _ _ cT)).trans cT
        have hB5 := b15.size
        obtain ⟨t1, t2, t3, rfl⟩ := ho5.at.shape
        replace hfa5 := Lib.hid hfa5
        replace hfb5 := Lib.hid hfb5
        replace ho5 := Lib.hid ho5
        by_cases hmj3 : m ≤ j
        · have hd2 : decide ((m : Int) ≤ (j : Int)) = true := decide_eq_true (by omega)
          have hob5 := hr5.ownI hfb5.out
          have hie := hin.out j hjl2.out hmj3
          rw [hnd.out, hst.out, hnk.out, hat.out, htz.out] at hie
          replace hie := Lib.hid hie
          replace hr5 := Lib.hid hr5
          have hil : (imgP K R T (x.take j)).length ≤ 4096 := by rw [imgP_length, List.length_take]; omega
          go_wp2_with (at_builtin; go_loud (refine wpl_append1 rfl _ _ rfl w1.heap.size lv _ tz hob5 rfl rfl (by omega) hB5 ?_))
          intro lv' w7 ho7 b7 hg7 hal7
          have hr7 := hr5.out.push hfb5.out tz ho7 hg7 hal7
          rw [← hie.out] at hr7 ho7
          obtain ⟨f7, hf7⟩ : ∃ f7, f7 = upd f5 (2, 0) (some (rowI lv' (imgP K R T (x.take (j + 1))))) := ⟨_, rfl⟩
          rw [← hf7] at hr7
          have hfb7 : f7 (2, 0) = some (rowI lv' (imgP K R T (x.take (j + 1)))) := by rw [hf7, upd_same]
          have hfa7 : f7 (1, 0) = some (rowI (.slice t1 t2 t3) (castI (pathN K m x (j + 1)))) := by rw [hf7, upd_ne _ _ (by simp)]; exact hfa5.out
          have b17 : Below w1.heap.size w1 w7 := b15.trans b7
          obtain ⟨l1, l2, l3, rfl⟩ := ho7.at.shape
          replace hfa7 := Lib.hid hfa7
          replace hfb7 := Lib.hid hfb7
          replace hr7 := Lib.hid hr7
          replace ho7 := Lib.hid ho7
          clear hf7 hg7 hal7 hob5
          go_wp2
          go_roundw
          case measure => have := hjl2.out; simp [intOf]; omega
          case rel => exact ⟨j + 1, nn, f7, _, _, by have := hjl2.out; omega, by go_num, rfl, rfl, hnd2.out, rfl, hr7.out, b17, hfa7.out, hfb7.out⟩
        · have hd2 : decide ((m : Int) ≤ (j : Int)) = false := decide_eq_false (by omega)
          have hie := his.out j hjl2.out hmj3
          rw [← hie] at hfb5
          replace hr5 := Lib.hid hr5
          go_wp2
          go_roundw
          case measure => have := hjl2.out; simp [intOf]; omega
          case rel => exact ⟨j + 1, nn, f5, _, _, by have := hjl2.out; omega, by go_num, rfl, rfl, hnd2.out, rfl, hr5.out, b15, hfa5.out, hfb5.out⟩
      · have hd1 : decide ((m : Int) ≤ (j : Int) + 1) = false := decide_eq_false (by omega)
        have hd2 : decide ((m : Int) ≤ (j : Int)) = false := decide_eq_false (by omega)
        have hpe := hps.out j hmj
        have hie := his.out j hjl2.out (by omega)
        have hfa5 := hfa.out
        have hfb5 := hfb.out
        rw [← hpe] at hfa5
        rw [← hie] at hfb5
        replace hfa5 := Lib.hid hfa5
        replace hfb5 := Lib.hid hfb5
        replace hr4 := Lib.hid hr4
        go_wp2
        go_roundw
        case measure => have := hjl2.out; simp [intOf]; omega
        case rel => exact ⟨j + 1, nn, f2, _, _, by have := hjl2.out; omega, by go_num, rfl, rfl, hnd2.out, rfl, hr4.out, bI4, hfa5.out, hfb5.out⟩
    · obtain rfl : j = x.length := by omega
      rw [List.take_length] at hfb
      have hoa := hr2.ownI hfa
      have hob := hr2.ownI hfb
      have hd := hr2.2 (1, 0) (2, 0) _ _ hfa hfb (by simp)
      replace hoa := Lib.hid hoa
      replace hob := Lib.hid hob
      replace hd := Lib.hid hd
      obtain ⟨t1, t2, t3, rfl⟩ := hoa.out.at.shape
      obtain ⟨l1, l2, l3, rfl⟩ := hob.out.at.shape
      have bE := Lib.hid (b01.trans (bI.mono hs1))
      go_wp2
      go_ret3
      exact ⟨_, _, _, rfl, bE.out, rfl, hoa.out.mono hs1, hob.out.mono hs1, hd.out⟩
end Go.Proofs.YtilpckngghffoaaGreatDoor
