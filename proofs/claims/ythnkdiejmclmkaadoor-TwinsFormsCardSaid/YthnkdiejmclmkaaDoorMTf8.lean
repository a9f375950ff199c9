/-
  Walk: pairs.Words along a list of vertices.
  Walk: twins.Finite.
  Walk: edenlaw13.awake.
  Walk: edenlaw15.awake; twins.Check at a rule that is none.
  Walks: forms.Rename.
  Plain mathematics: a renamed rule permutes on the same sides.
  Plain mathematics: the image and the twins of a mirrored rule.
  Plain mathematics: the image and the twins of a renamed rule.
  Plain mathematics: the least radius of a rule.
  Walk: edenref18.Make.
  Walks: edenraw.LentRule, KeptRule.
  A store of a whole edenraw.Err into its box: what stays as it was.
  Plain mathematics: how far it is; the first of the shortest ways by going down; the first of the shortest loops.
  Plain mathematics: what stays where again and again vertices are taken away to which, or from which, no arrow leads.
  Walk: edenref12.turned: the arrows the other way round, each as often.
  Walk: edenref12.far: how far it is from a vertex.
  Walk: edenref12.way: the first of the shortest ways, by going down.
  What the document's answers of layer 12 share: the error's box.
-/
import Derived.Test.YthnkdiejmclmkaaDoorMTf7
import Derived.Deep.RegionHeld3
import Derived.BigQuiet
namespace Go.Proofs.YthnkdiejmclmkaaDoor
open Go.RowKit
set_option maxRecDepth 100000

/-- What Words leaves, of a list of vertices. -/
def WordsPost (r : Nat → Addr) (w : World) (K R : Nat) (T : List Int) (ns : List Nat) (x y z : Value) (w' : World) : Prop :=
  (AllFit K (pw K (2 * R)) T ns ∧ z = .nilIface ∧ OwnI w.heap.size w' x (alongW K (2 * R) (· / pw K (2 * R)) ns) ∧ OwnI w.heap.size w' y (alongW K (2 * R) (· % pw K (2 * R)) ns) ∧ (x.ownBlock = none ∨ x.ownBlock ≠ y.ownBlock)) ∨
  (¬ AllFit K (pw K (2 * R)) T ns ∧ x = .slice none 0 0 ∧ y = .slice none 0 0 ∧ ErrIs r w' (fresh sPairs 1 3) z)

set_option maxHeartbeats 4000000 in
theorem pwords_way (r : Nat → Addr) (K R : Nat) (va : Option Addr) (vn vc : Nat) (T : List Int) (u : Value) (ns : List Nat) (w : World) (hg : Glob r w) (h : IntsAt w (.slice va vn vc) T) (hr : RuleOk K R T) (hl : T.length ≤ 256) (hu : IntsAt w u (castI ns)) (hne : ns ≠ []) (hlow : ∀ p ∈ ns, p < pw K (2 * wkR R) * pw K (2 * wkR R)) (hnl : ns.length ≤ 17592186044000) :
    Calls Tryd.prog 23 #[.agg #[.int .i64 K, .int .i64 R, .slice va vn vc], u] w (Ret3 (WordsPost r w K (wkR R) (wkT K R T) ns) w) := by
  have b0 := belowAlloc w (.cells #[.int .i64 K, .int .i64 R, .slice va vn vc] 24)
  have hk1 := hr.k1
  have hk4 := hr.k4
  have hokW := wk_ok hr
  have hlW := wk_small hr hl
  have hRW := wk_pos R
  have hN81 := nodes_le hokW hRW hlW
  obtain ⟨hdiv, hlen⟩ := hokW.half
  have hR3 := hokW.r3
  have hN1 := pw_pos (K := K) (2 * wkR R) hk1
  have hwork := fun (w' : World) (hgl : Glob r w') (hT : IntsAt w' (.slice va vn vc) T) => working_ok r K R va vn vc T w' hgl hT hr hl
  have hNodes := fun (a : Option Addr) (n c : Nat) (w' : World) (hgl : Glob r w') (hT : IntsAt w' (.slice a n c) (wkT K R T)) => over_Nodes r K (wkR R) a n c (wkT K R T) w' hgl hT hokW hlW
  have hEdge := fun (a : Option Addr) (n c u s : Nat) (w' : World) (hgl : Glob r w') (hT : IntsAt w' (.slice a n c) (wkT K R T)) (hu : u < pw K (2 * wkR R)) (hs : s < K) => over_Edge r K (wkR R) a n c (wkT K R T) u s w' hgl hT hokW hlW (by rw [hdiv]; exact hu) hs
  rw [hdiv] at hNodes hEdge
  have hpost := fun (x y z : Value) (w' : World) => @WordsPost r w K (wkR R) (wkT K R T) ns x y z w'
  obtain ⟨m, hm⟩ : ∃ m, 2 * wkR R = m := ⟨_, rfl⟩
  unfold WordsPost
  rw [hm] at hNodes hEdge hlow hN81 hN1 hdiv hlen ⊢
  obtain ⟨N, hN⟩ : ∃ N, pw K m = N := ⟨_, rfl⟩
  rw [hN] at hNodes hEdge hlow hN81 hN1 hdiv hlen ⊢
  generalize wkT K R T = T' at *
  generalize wkR R = R' at *
  clear hpost
  have lu := hu.len
  obtain ⟨up, hup, hupI⟩ := hu.post 1 (by rw [castI_len]; exact List.length_pos_iff.2 hne)
  have lup := hupI.len
  have hcl : (castI ns).length = ns.length := castI_len ns
  have hdl : ((castI ns).drop 1).length = ns.length - 1 := by rw [List.length_drop, castI_len]
  rw [hdl] at lup
  rw [hcl] at lu
  have hnp : 0 < ns.length := List.length_pos_iff.2 hne
  have iU := fun (i : Nat) (hi : i < ns.length) w' => hu.idx i (by rw [castI_len]; exact hi) w'
  have cU := fun (i : Nat) (hi : i < ns.length) => hu.cellD i (by rw [castI_len]; exact hi)
  have iP := fun (i : Nat) (hi : i + 1 < ns.length) w' => hupI.idx i (by rw [hdl]; omega) w'
  have cP := fun (i : Nat) (hi : i + 1 < ns.length) => hupI.cellD i (by rw [hdl]; omega)
  have gU : ∀ i, i < ns.length → (castI ns).getD i 0 = ((ns.getD i 0 : Nat) : Int) := fun i hi => by simp [castI, List.getD, hi]
  have gP : ∀ i, i + 1 < ns.length → ((castI ns).drop 1).getD i 0 = ((ns.getD (i + 1) 0 : Nat) : Int) := fun i hi => by
    rw [List.getD_eq_getElem?_getD, List.getElem?_drop, Nat.add_comm 1 i, ← List.getD_eq_getElem?_getD]; exact gU _ hi
  have cU2 := fun (i : Nat) (hi : i < ns.length) => (cU i hi).trans (by rw [gU i hi])
  have cP2 := fun (i : Nat) (hi : i + 1 < ns.length) => (cP i hi).trans (by rw [gP i hi])
  have hlow2 : ∀ i, i < ns.length → ns.getD i 0 < N * N := fun i hi => by
    simp only [List.getD_eq_getElem?_getD, List.getElem?_eq_getElem hi, Option.getD_some]
    exact hlow _ (List.getElem_mem hi)
  have hM6 : N * N ≤ 6561 := Nat.mul_le_mul hN81 hN81
  have hokway : decide (0 ≤ idxOf (odd1 ((N * N : Nat) : Int)) (castI ns)) = false := by
    rw [decide_eq_false_iff_not, idxOf_neg]
    · omega
    · intro x hx
      obtain ⟨p, hp, rfl⟩ := List.mem_map.1 hx
      have := hlow p hp
      rw [odd1_false]; omega
  have hl0 : ¬ ns.length = 0 := by omega
  have hl1 : ((ns.length : Int) == 0) = false := by rw [beq_eq_false_iff_ne]; omega
  obtain ⟨ua, un, uc, rfl⟩ := hu.shape
  obtain ⟨pa, pn, pc, rfl⟩ := hupI.shape
  replace hwork := Lib.hid hwork
  replace hNodes := Lib.hid hNodes
  replace hEdge := Lib.hid hEdge
  replace hg := Lib.hid (hg.below b0)
  replace h := Lib.hid (h.below b0)
  replace hu := Lib.hid (hu.below b0)
  replace hokW := Lib.hid hokW
  replace hr := Lib.hid hr
  replace hdiv := Lib.hid hdiv
  replace hlen := Lib.hid hlen
  replace hm := Lib.hid hm
  replace hN := Lib.hid hN
  replace iU := Lib.hid iU
  replace iP := Lib.hid iP
  replace cU2 := Lib.hid cU2
  replace cP2 := Lib.hid cP2
  replace hlow2 := Lib.hid hlow2
  replace hlow := Lib.hid hlow
  replace hokway := Lib.hid hokway
  replace hne := Lib.hid hne
  replace hupI := Lib.hid hupI
  clear cU cP gU gP hdl hcl
  go_enter Tryd.func23, Tryd.ntmps23
  go_wp2_with fail
  refine (hwork.out _ hg.out h.out).mono ?_
  rintro e w1 ⟨x, y, rfl, b1, rfl, a, n, c, rfl, hT1⟩
  have ba := belowAlloc w1 (.cells #[.int .i64 K, .int .i64 R', .slice a n c] 24)
  have qw : Box3 (w1.alloc (.cells #[.int .i64 K, .int .i64 R', .slice a n c] 24)) w1.heap.size (.int .i64 K) (.int .i64 R') (.slice a n c) := by simp [Box3, go_sem]
  have b12 := Below.step b1 ba
  have hT2 := hT1.below ba
  replace hT1 := Lib.hid hT1
  replace hT2 := Lib.hid hT2
  replace qw := Lib.hid qw
  go_wp2_with fail
  refine (hNodes.out a n c _ (hg.out.below b12) hT2.out).mono ?_
  rintro e w3 ⟨x, y, rfl, b3, rfl, rfl⟩
  have bb := belowAlloc w3 (.cells #[.int .i64 N] 3)
  have b34 := Below.step b3 bb
  have b14 := Below.step b12 b34
  have cN : (w3.alloc (.cells #[.int .i64 N] 3)).cell? ⟨w3.heap.size, 0, none⟩ = some (.int .i64 N) := by simp [go_sem]
  have hcf := containsFunc_any (.slice ua un uc) (.pointer (some ⟨w3.heap.size, 0, none⟩)) 68 (castI ns) (odd1 ((N * N : Nat) : Int)) _ (hu.out.below b14) eg_words1 (fun x _ => words1_any x w3.heap.size N _ (by omega) cN)
  replace hcf := Lib.hid hcf
  replace cN := Lib.hid cN
  go_wp2_with fail
  refine hcf.out.mono ?_
  rintro e w5 ⟨rfl, hw5⟩
  rw [hokway.out]
  have cN5 := cN.out
  have qw5 := qw.out.below b34
  have hT5 := hT2.out.below b34
  rw [hw5] at b14 cN5 qw5 hT5
  clear hcf cN hw5 bb b34 b3 b12
  have b05 := Below.step b0 b14
  have hg5 := hg.out.below b14
  clear b14
  -- region 8
  obtain ⟨L1, hL1⟩ : ∃ L1, ns.length = L1 + 1 := ⟨ns.length - 1, by omega⟩
  rw [hL1, Nat.add_sub_cancel] at lup
  have hLbig : L1 ≤ 17592186044000 := by omega
  have hup1 : ∀ w', (Instr.slice 22 (.slice ua un uc) (some (.int .i64 1)) none none).run Tryd.prog w' = .ok (.slice pa pn pc) w' := hup
  obtain ⟨p0, hp0⟩ : ∃ p, ns.getD 0 0 = p := ⟨_, rfl⟩
  have hp0l : p0 < N * N := by rw [← hp0]; exact hlow2.out 0 hnp
  have i0 : ∀ w', (Instr.indexAt 22 (.slice ua un uc) (.int .i64 0)).run Tryd.prog w' = .ok (.pointer (some (valAt (.slice ua un uc) 0))) w' := fun w' => iU.out 0 hnp w'
  have c0 := cU2.out 0 hnp
  rw [hp0] at c0
  have c05 := (b05.cell (World.block_lt_of_cell? _ _ c0)).trans c0
  have hN0 : ((N : Int) == 0) = false := by rw [beq_eq_false_iff_ne]; omega
  have hN2 : ¬ (N : Int) = 0 := by omega
  have hN3 : ¬ N = 0 := by omega
  have hK0 : ((K : Int) == 0) = false := by rw [beq_eq_false_iff_ne]; omega
  have hK1 : ¬ (K : Int) = 0 := by omega
  have hK3 : ¬ K = 0 := by omega
  obtain ⟨d1, d2, d3, d4, d5, d6⟩ := dm p0 N (by omega)
  obtain ⟨u0, hu0⟩ : ∃ z, p0 / N = z := ⟨_, rfl⟩
  obtain ⟨v0, hv0⟩ : ∃ z, p0 % N = z := ⟨_, rfl⟩
  rw [hu0] at d1 d3 d5
  rw [hv0] at d2 d4 d6
  have hu0l : u0 < N := by rw [← hu0]; exact div_lt_of hp0l
  have hv0l : v0 < N := by rw [← hv0]; exact Nat.mod_lt _ (by omega)
  clear c0
  generalize valAt (.slice ua un uc) 0 = t0 at *
  replace hL1 := Lib.hid hL1
  replace hp0 := Lib.hid hp0
  replace hu0 := Lib.hid hu0
  replace hv0 := Lib.hid hv0
  replace hT5 := Lib.hid hT5
  replace hg5 := Lib.hid hg5
  go_upto_region 8 with fail
  refine wp_region_plan (fun w' => w'.cell? t0 = some (.int .i64 p0) ∧ w'.cell? ⟨w3.heap.size, 0, none⟩ = some (.int .i64 N)) 15 [(0, true), (1, true), (2, true), (3, true), (4, true), (5, true), (7, true), (8, true), (9, true), (10, true), (11, true), (12, true), (6, false), (13, false), (14, true)] (by kernel_rfl) (by kernel_rfl) ?_
  have hS : w5.drew.cell? t0 = some (.int .i64 p0) ∧ w5.drew.cell? ⟨w3.heap.size, 0, none⟩ = some (.int .i64 N) := ⟨c05, cN5⟩
  refine headY (v := ?_) (some 47) rfl rfl (Or.inl ⟨by rfl, ?_⟩) hS ?_
  rotate_left
  · rintro W' ⟨s0, s1⟩; go_simp; try with_reducible rfl
  simp only [Act.put, List.setIfInBounds_toArray, List.set_cons_zero, List.set_cons_succ]
  refine headY (v := ?_) (some 48) rfl rfl (Or.inl ⟨by rfl, ?_⟩) hS ?_
  rotate_left
  · rintro W' ⟨s0, s1⟩; go_simp; try with_reducible rfl
  simp only [Act.put, List.setIfInBounds_toArray, List.set_cons_zero, List.set_cons_succ]
  refine headY (v := ?_) (some 49) rfl rfl (Or.inl ⟨by rfl, ?_⟩) hS ?_
  rotate_left
  · rintro W' ⟨s0, s1⟩; go_simp; try with_reducible rfl
  simp only [Act.put, List.setIfInBounds_toArray, List.set_cons_zero, List.set_cons_succ]
  refine headY (v := ?_) (some 50) rfl rfl (Or.inl ⟨by rfl, ?_⟩) hS ?_
  rotate_left
  · rintro W' ⟨s0, s1⟩; go_simp; try with_reducible rfl
  simp only [Act.put, List.setIfInBounds_toArray, List.set_cons_zero, List.set_cons_succ]
  refine headY (v := ?_) (some 51) rfl rfl (Or.inl ⟨by rfl, ?_⟩) hS ?_
  rotate_left
  · rintro W' ⟨s0, s1⟩; go_simp; try with_reducible rfl
  simp only [Act.put, List.setIfInBounds_toArray, List.set_cons_zero, List.set_cons_succ]
  refine headY (v := ?_) (some 52) rfl rfl (Or.inl ⟨by rfl, ?_⟩) hS ?_
  rotate_left
  · rintro W' ⟨s0, s1⟩; go_simp; try with_reducible rfl
  simp only [Act.put, List.setIfInBounds_toArray, List.set_cons_zero, List.set_cons_succ]
  refine headY (v := ?_) (some 54) rfl rfl (Or.inl ⟨by rfl, ?_⟩) hS ?_
  rotate_left
  · rintro W' ⟨s0, s1⟩; go_simp; try with_reducible rfl
  simp only [Act.put, List.setIfInBounds_toArray, List.set_cons_zero, List.set_cons_succ]
  refine headY (v := ?_) (some 55) rfl rfl (Or.inl ⟨by rfl, ?_⟩) hS ?_
  rotate_left
  · rintro W' ⟨s0, s1⟩; go_simp; try with_reducible rfl
  simp only [Act.put, List.setIfInBounds_toArray, List.set_cons_zero, List.set_cons_succ]
  refine headY (v := ?_) (some 56) rfl rfl (Or.inl ⟨by rfl, ?_⟩) hS ?_
  rotate_left
  · rintro W' ⟨s0, s1⟩; go_simp; try with_reducible rfl
  simp only [Act.put, List.setIfInBounds_toArray, List.set_cons_zero, List.set_cons_succ]
  refine headY (v := ?_) (some 57) rfl rfl (Or.inl ⟨by rfl, ?_⟩) hS ?_
  rotate_left
  · rintro W' ⟨s0, s1⟩; go_simp; try with_reducible rfl
  simp only [Act.put, List.setIfInBounds_toArray, List.set_cons_zero, List.set_cons_succ]
  refine headY (v := ?_) (some 58) rfl rfl (Or.inl ⟨by rfl, ?_⟩) hS ?_
  rotate_left
  · rintro W' ⟨s0, s1⟩; go_simp; try with_reducible rfl
  simp only [Act.put, List.setIfInBounds_toArray, List.set_cons_zero, List.set_cons_succ]
  refine headY (v := ?_) (some 59) rfl rfl (Or.inl ⟨by rfl, ?_⟩) hS ?_
  rotate_left
  · rintro W' ⟨s0, s1⟩; go_simp; try with_reducible rfl
  simp only [Act.put, List.setIfInBounds_toArray, List.set_cons_zero, List.set_cons_succ]
  refine headC rfl (fun KK hK => ?_)
  go_simp
  refine (words2_any K R' u0 w1.heap.size w5.drew hk1 hk4 hR3 (by omega) qw5.1.1 qw5.1.2.1).mono ?_
  rintro e w6 ⟨av, rfl, b6, ho6⟩
  have hS6 : w6.cell? t0 = some (.int .i64 p0) ∧ w6.cell? ⟨w3.heap.size, 0, none⟩ = some (.int .i64 N) := ⟨(b6.cell (World.block_lt_of_cell? _ _ hS.1)).trans hS.1, cell_keep b6 hS.2⟩
  have qw6 := qw5.below (w' := w6) (Below.trans ((Below.refl _ _).drew) b6)
  refine hK _ _ hS6 ?_
  clear hK KK
  refine headC rfl (fun KK hK => ?_)
  go_simp
  refine (words2_any K R' v0 w1.heap.size w6 hk1 hk4 hR3 (by omega) qw6.1.1 qw6.1.2.1).mono ?_
  rintro e w7 ⟨bv, rfl, b7, ho7⟩
  have hS7 : w7.cell? t0 = some (.int .i64 p0) ∧ w7.cell? ⟨w3.heap.size, 0, none⟩ = some (.int .i64 N) := ⟨(b7.cell (World.block_lt_of_cell? _ _ hS6.1)).trans hS6.1, cell_keep b7 hS6.2⟩
  refine hK _ _ hS7 ?_
  clear hK KK
  refine headY (v := ?_) (some 12) rfl rfl (Or.inl ⟨by rfl, ?_⟩) hS7 ?_
  rotate_left
  · rintro W' ⟨s0, s1⟩; go_simp; try with_reducible rfl
  simp only [Act.put, List.setIfInBounds_toArray, List.set_cons_zero, List.set_cons_succ]
  refine head0 ?_
  simp only [List.drop_succ_cons, List.drop_zero]
  have b56 : Below w5.heap.size w5 w6 := Below.trans ((Below.refl _ _).drew) b6
  have b57 := Below.step b56 b7
  rw [hm.out] at ho6 ho7
  have r1 := (Rows.void w5.heap.size w5).add (i := (1, 0)) (r' := rowI av (digs K m u0)) b56 ho6 (fun k hk => (ho6.lt k hk).1)
  have r2 := r1.add (i := (2, 0)) (r' := rowI bv (digs K m v0)) b7 (ho7.mono b56.size) (fun k hk => (ho7.lt k hk).1)
  obtain ⟨f, hf⟩ : ∃ f, f = upd (upd (fun _ => none) (1, 0) (some (rowI av (digs K m u0)))) (2, 0) (some (rowI bv (digs K m v0))) := ⟨_, rfl⟩
  have hfa : f (1, 0) = some (rowI av (digs K m u0)) := by rw [hf, upd_ne _ _ (by simp), upd_same]
  have hfb : f (2, 0) = some (rowI bv (digs K m v0)) := by rw [hf, upd_same]
  rw [← hf] at r2
  have htk : ns.take 1 = [p0] := by
    cases hns : ns with
    | nil => exact absurd hns hne.out
    | cons a l => have := hp0.out; rw [hns] at this; simp at this; simp [this]
  have ha1 : alongW K m (· / N) (ns.take 1) = digs K m u0 := by rw [htk, alongW_one, hu0.out]
  have hb1 : alongW K m (· % N) (ns.take 1) = digs K m v0 := by rw [htk, alongW_one, hv0.out]
  rw [← ha1] at hfa
  rw [← hb1] at hfb
  clear hS hS6 hS7 ho6 ho7 r1 hf htk ha1 hb1 qw6 i0 c05 d1 d2 d3 d4 d5 d6
  obtain ⟨aa, an, ac, rfl⟩ := (r2.ownI hfa).at.shape
  obtain ⟨ba', bn, bc, rfl⟩ := (r2.ownI hfb).at.shape
  replace r2 := Lib.hid r2
  replace hfa := Lib.hid hfa
  replace hfb := Lib.hid hfb
  replace qw5 := Lib.hid qw5
  replace cN5 := Lib.hid cN5
  go_wp2
  refine NoPanic.normal ?_
  go_wp2_with fail
  clear hup hup1
  go_loopw [12, 13, 64] (fun xa xb jv wr => ∃ (j : Nat) (f : Names) (va' vb' : Value), j ≤ L1 ∧ jv = .int .i64 j ∧ va' = xa ∧ vb' = xb ∧ Rows w5.heap.size wr f ∧ Below w5.heap.size w5 wr ∧ f (1, 0) = some (rowI va' (alongW K m (· / N) (ns.take (j + 1)))) ∧ f (2, 0) = some (rowI vb' (alongW K m (· % N) (ns.take (j + 1)))) ∧ (∀ i, i < j → StepFits K N T' (ns.getD i 0) (ns.getD (i + 1) 0))) (fun _ _ jv _ => L1 - (intOf jv).toNat)
  case atStart => exact ⟨0, f, _, _, by omega, rfl, rfl, rfl, r2.out, b57, hfa.out, hfb.out, fun i hi => by omega⟩
  case round =>
    clear hfa hfb r2 b57 b56 b6 b7
    obtain ⟨j, f2, av, bv, hj, rfl, rfl, rfl, hr, bI, hfa, hfb, hfit⟩ := hrel
    obtain ⟨wo, rfl⟩ : ∃ wo : World, wo = wr := ⟨_, rfl⟩
    have b0o := b05.trans (bI.mono b05.size)
    by_cases hjl : j < L1
    · obtain ⟨p, hp⟩ : ∃ p, ns.getD (j + 1) 0 = p := ⟨_, rfl⟩
      obtain ⟨pj, hpj⟩ : ∃ p, ns.getD j 0 = p := ⟨_, rfl⟩
      have hll := hL1.out
      have hjl2 := Lib.hid hjl
      have hpl : p < N * N := by rw [← hp]; exact hlow2.out (j + 1) (by omega)
      have hpjl : pj < N * N := by rw [← hpj]; exact hlow2.out j (by omega)
      have iJ := fun w' => iP.out j (by omega) w'
      have cJ := cP2.out j (by omega)
      have iI := fun w' => iU.out j (by omega) w'
      have cI := cU2.out j (by omega)
      rw [hp] at cJ
      rw [hpj] at cI
      have cJo := (b0o.cell (World.block_lt_of_cell? _ _ cJ)).trans cJ
      have cIo := (b0o.cell (World.block_lt_of_cell? _ _ cI)).trans cI
      have htk : ns.take (j + 1 + 1) = ns.take (j + 1) ++ [p] := by
        rw [List.take_add_one, List.getElem?_eq_getElem (show j + 1 < ns.length by omega)]
        have : ns[j + 1]'(by omega) = p := by rw [← hp]; simp [List.getD, show j + 1 < ns.length by omega]
        rw [this]; rfl
      have htn : ns.take (j + 1) ≠ [] := by
        intro e
        have := congrArg List.length e
        rw [List.length_take, List.length_nil] at this; omega
      have haS := alongW_snoc K m (· / N) (ns.take (j + 1)) p htn
      have hbS := alongW_snoc K m (· % N) (ns.take (j + 1)) p htn
      rw [← htk] at haS hbS
      obtain ⟨d1, d2, d3, d4, d5, d6⟩ := dm p N (by omega)
      obtain ⟨u1, hu1⟩ : ∃ z, p / N = z := ⟨_, rfl⟩
      obtain ⟨v1, hv1⟩ : ∃ z, p % N = z := ⟨_, rfl⟩
      rw [hu1] at d1 d3 d5 haS
      rw [hv1] at d2 d4 d6 hbS
      have hu1l : u1 < N := by rw [← hu1]; exact div_lt_of hpl
      have hv1l : v1 < N := by rw [← hv1]; exact Nat.mod_lt _ (by omega)
      obtain ⟨g1, g2, g3, g4, g5, g6⟩ := dm pj N (by omega)
      obtain ⟨uj, huj⟩ : ∃ z, pj / N = z := ⟨_, rfl⟩
      obtain ⟨vj, hvj⟩ : ∃ z, pj % N = z := ⟨_, rfl⟩
      rw [huj] at g1 g3 g5
      rw [hvj] at g2 g4 g6
      have hujl : uj < N := by rw [← huj]; exact div_lt_of hpjl
      have hvjl : vj < N := by rw [← hvj]; exact Nat.mod_lt _ (by omega)
      obtain ⟨_, x2, _, x4, _, x6⟩ := dm u1 K (by omega)
      obtain ⟨_, z2, _, z4, _, z6⟩ := dm v1 K (by omega)
      obtain ⟨s, hs⟩ : ∃ z, u1 % K = z := ⟨_, rfl⟩
      obtain ⟨t, ht⟩ : ∃ z, v1 % K = z := ⟨_, rfl⟩
      rw [hs] at x2 x4 x6 haS
      rw [ht] at z2 z4 z6 hbS
      have hsl : s < K := by rw [← hs]; exact Nat.mod_lt _ (by omega)
      have htl : t < K := by rw [← ht]; exact Nat.mod_lt _ (by omega)
      have hstep : StepFits K N T' pj p ↔ toN K N uj s = u1 ∧ toN K N vj t = v1 ∧ labN K T' uj s = labN K T' vj t := by
        unfold StepFits; rw [hu1, hv1, huj, hvj, hs, ht]
      have qwo := qw5.out.below bI
      have cNo := cell_keep bI cN5.out
      clear cJ cI
      generalize valAt (.slice pa pn pc) j = tj at *
      generalize valAt (.slice ua un uc) j = ti at *
      have hoa := hr.ownI hfa
      have hob := hr.ownI hfb
      have hm6 : m ≤ 6 := by have := hm.out; omega
      have hLa : (alongW K m (· / N) (ns.take (j + 1))).length ≤ 17592186044100 := by rw [alongW_len, List.length_take]; omega
      have hLb : (alongW K m (· % N) (ns.take (j + 1))).length ≤ 17592186044100 := by rw [alongW_len, List.length_take]; omega
      replace hp := Lib.hid hp
      replace hpj := Lib.hid hpj
      replace hll := Lib.hid hll
      replace htk := Lib.hid htk
      replace htn := Lib.hid htn
      replace haS := Lib.hid haS
      replace hbS := Lib.hid hbS
      replace hu1 := Lib.hid hu1
      replace hv1 := Lib.hid hv1
      replace huj := Lib.hid huj
      replace hvj := Lib.hid hvj
      replace hs := Lib.hid hs
      replace ht := Lib.hid ht
      replace hstep := Lib.hid hstep
      replace hfit := Lib.hid hfit
      replace hr := Lib.hid hr
      replace hfa := Lib.hid hfa
      replace hfb := Lib.hid hfb
      replace hoa := Lib.hid hoa
      replace hob := Lib.hid hob
      go_upto_region 12 with fail
      refine wp_region_plan (fun w' => w'.cell? ⟨w1.heap.size, 0, none⟩ = some (.int .i64 K) ∧ w'.cell? ⟨w3.heap.size, 0, none⟩ = some (.int .i64 N)) 13 [(0, true), (1, true), (2, true), (3, true), (4, true), (5, true), (6, true), (7, true), (8, true), (9, true), (10, true), (11, true), (12, true)] (by kernel_rfl) (by kernel_rfl) ?_
      have hS : wo.drew.cell? ⟨w1.heap.size, 0, none⟩ = some (.int .i64 K) ∧ wo.drew.cell? ⟨w3.heap.size, 0, none⟩ = some (.int .i64 N) := ⟨qwo.1.1, cNo⟩
      refine headY (v := ?_) (some 69) rfl rfl (Or.inl ⟨by rfl, ?_⟩) hS ?_
      rotate_left
      · rintro W' ⟨s0, s1⟩; go_simp; try with_reducible rfl
      simp only [Act.put, List.setIfInBounds_toArray, List.set_cons_zero, List.set_cons_succ]
      refine headY (v := ?_) (some 70) rfl rfl (Or.inl ⟨by rfl, ?_⟩) hS ?_
      rotate_left
      · rintro W' ⟨s0, s1⟩; go_simp; try with_reducible rfl
      simp only [Act.put, List.setIfInBounds_toArray, List.set_cons_zero, List.set_cons_succ]
      refine headY (v := ?_) (some 71) rfl rfl (Or.inl ⟨by rfl, ?_⟩) hS ?_
      rotate_left
      · rintro W' ⟨s0, s1⟩; go_simp; try with_reducible rfl
      simp only [Act.put, List.setIfInBounds_toArray, List.set_cons_zero, List.set_cons_succ]
      refine headY (v := ?_) (some 72) rfl rfl (Or.inl ⟨by rfl, ?_⟩) hS ?_
      rotate_left
      · rintro W' ⟨s0, s1⟩; go_simp; try with_reducible rfl
      simp only [Act.put, List.setIfInBounds_toArray, List.set_cons_zero, List.set_cons_succ]
      refine headY (v := ?_) (some 73) rfl rfl (Or.inl ⟨by rfl, ?_⟩) hS ?_
      rotate_left
      · rintro W' ⟨s0, s1⟩; go_simp; try with_reducible rfl
      simp only [Act.put, List.setIfInBounds_toArray, List.set_cons_zero, List.set_cons_succ]
      refine headY (v := ?_) (some 74) rfl rfl (Or.inl ⟨by rfl, ?_⟩) hS ?_
      rotate_left
      · rintro W' ⟨s0, s1⟩; go_simp; try with_reducible rfl
      simp only [Act.put, List.setIfInBounds_toArray, List.set_cons_zero, List.set_cons_succ]
      refine headY (v := ?_) (some 75) rfl rfl (Or.inl ⟨by rfl, ?_⟩) hS ?_
      rotate_left
      · rintro W' ⟨s0, s1⟩; go_simp; try with_reducible rfl
      simp only [Act.put, List.setIfInBounds_toArray, List.set_cons_zero, List.set_cons_succ]
      refine headY (v := ?_) (some 76) rfl rfl (Or.inl ⟨by rfl, ?_⟩) hS ?_
      rotate_left
      · rintro W' ⟨s0, s1⟩; go_simp; try with_reducible rfl
      simp only [Act.put, List.setIfInBounds_toArray, List.set_cons_zero, List.set_cons_succ]
      refine headY (v := ?_) (some 77) rfl rfl (Or.inl ⟨by rfl, ?_⟩) hS ?_
      rotate_left
      · rintro W' ⟨s0, s1⟩; go_simp; try with_reducible rfl
      simp only [Act.put, List.setIfInBounds_toArray, List.set_cons_zero, List.set_cons_succ]
      refine headY (v := ?_) (some 78) rfl rfl (Or.inl ⟨by rfl, ?_⟩) hS ?_
      rotate_left
      · rintro W' ⟨s0, s1⟩; go_simp; try with_reducible rfl
      simp only [Act.put, List.setIfInBounds_toArray, List.set_cons_zero, List.set_cons_succ]
      refine headY (v := ?_) (some 79) rfl rfl (Or.inl ⟨by rfl, ?_⟩) hS ?_
      rotate_left
      · rintro W' ⟨s0, s1⟩; go_simp; try with_reducible rfl
      simp only [Act.put, List.setIfInBounds_toArray, List.set_cons_zero, List.set_cons_succ]
      refine headY (v := ?_) (some 80) rfl rfl (Or.inl ⟨by rfl, ?_⟩) hS ?_
      rotate_left
      · rintro W' ⟨s0, s1⟩; go_simp; try with_reducible rfl
      simp only [Act.put, List.setIfInBounds_toArray, List.set_cons_zero, List.set_cons_succ]
      refine headY (v := ?_) (some 16) rfl rfl (Or.inl ⟨by rfl, ?_⟩) hS ?_
      rotate_left
      · rintro W' ⟨s0, s1⟩; go_simp; try with_reducible rfl
      simp only [Act.put, List.setIfInBounds_toArray, List.set_cons_zero, List.set_cons_succ]
      refine head0 ?_
      simp only [List.drop_succ_cons, List.drop_zero]
      clear hS
      go_wp2
      refine NoPanic.normal ?_
      go_upto_region 13 with fail
      refine wp_region_plan (fun w' => w'.cell? ⟨w1.heap.size, 0, none⟩ = some (.int .i64 K) ∧ w'.cell? ⟨w1.heap.size, 1, none⟩ = some (.int .i64 R') ∧ w'.cell? ⟨w1.heap.size, 2, none⟩ = some (.slice a n c) ∧ w'.cell? ⟨w3.heap.size, 0, none⟩ = some (.int .i64 N) ∧ w'.cell? ti = some (.int .i64 pj)) 15 [(0, true), (1, true), (2, true), (3, true), (4, true), (5, true), (6, true), (7, true), (8, false), (9, true), (10, true), (11, true), (12, true), (13, true), (14, true)] (by kernel_rfl) (by kernel_rfl) ?_
      have hS : wo.drew.drew.cell? ⟨w1.heap.size, 0, none⟩ = some (.int .i64 K) ∧ wo.drew.drew.cell? ⟨w1.heap.size, 1, none⟩ = some (.int .i64 R') ∧ wo.drew.drew.cell? ⟨w1.heap.size, 2, none⟩ = some (.slice a n c) ∧ wo.drew.drew.cell? ⟨w3.heap.size, 0, none⟩ = some (.int .i64 N) ∧ wo.drew.drew.cell? ti = some (.int .i64 pj) := ⟨qwo.1.1, qwo.1.2.1, qwo.1.2.2, cNo, cIo⟩
      refine headY (v := ?_) (some 82) rfl rfl (Or.inl ⟨by rfl, ?_⟩) hS ?_
      rotate_left
      · rintro W' ⟨s0, s1, s2, s3, s4⟩; go_simp; try with_reducible rfl
      simp only [Act.put, List.setIfInBounds_toArray, List.set_cons_zero, List.set_cons_succ]
      refine headY (v := ?_) (some 83) rfl rfl (Or.inl ⟨by rfl, ?_⟩) hS ?_
      rotate_left
      · rintro W' ⟨s0, s1, s2, s3, s4⟩; go_simp; try with_reducible rfl
      simp only [Act.put, List.setIfInBounds_toArray, List.set_cons_zero, List.set_cons_succ]
      refine headY (v := ?_) (some 84) rfl rfl (Or.inl ⟨by rfl, ?_⟩) hS ?_
      rotate_left
      · rintro W' ⟨s0, s1, s2, s3, s4⟩; go_simp; try with_reducible rfl
      simp only [Act.put, List.setIfInBounds_toArray, List.set_cons_zero, List.set_cons_succ]
      refine headY (v := ?_) (some 85) rfl rfl (Or.inl ⟨by rfl, ?_⟩) hS ?_
      rotate_left
      · rintro W' ⟨s0, s1, s2, s3, s4⟩; go_simp; try with_reducible rfl
      simp only [Act.put, List.setIfInBounds_toArray, List.set_cons_zero, List.set_cons_succ]
      refine headY (v := ?_) (some 86) rfl rfl (Or.inl ⟨by rfl, ?_⟩) hS ?_
      rotate_left
      · rintro W' ⟨s0, s1, s2, s3, s4⟩; go_simp; try with_reducible rfl
      simp only [Act.put, List.setIfInBounds_toArray, List.set_cons_zero, List.set_cons_succ]
      refine headY (v := ?_) (some 87) rfl rfl (Or.inl ⟨by rfl, ?_⟩) hS ?_
      rotate_left
      · rintro W' ⟨s0, s1, s2, s3, s4⟩; go_simp; try with_reducible rfl
      simp only [Act.put, List.setIfInBounds_toArray, List.set_cons_zero, List.set_cons_succ]
      refine headY (v := ?_) (some 88) rfl rfl (Or.inl ⟨by rfl, ?_⟩) hS ?_
      rotate_left
      · rintro W' ⟨s0, s1, s2, s3, s4⟩; go_simp; try with_reducible rfl
      simp only [Act.put, List.setIfInBounds_toArray, List.set_cons_zero, List.set_cons_succ]
      refine headY (v := ?_) (some 89) rfl rfl (Or.inl ⟨by rfl, ?_⟩) hS ?_
      rotate_left
      · rintro W' ⟨s0, s1, s2, s3, s4⟩; go_simp; try with_reducible rfl
      simp only [Act.put, List.setIfInBounds_toArray, List.set_cons_zero, List.set_cons_succ]
      refine headC rfl (fun KK hK => ?_)
      go_simp
      refine (hEdge.out a n c uj s wo.drew.drew (hg5.out.below bI.drew.drew) (hT5.out.below bI.drew.drew) hujl hsl).mono ?_
      rintro e w6 ⟨x, y, z, rfl, b6, rfl, rfl, rfl⟩
      obtain ⟨X1, hX1⟩ : ∃ X, toN K N uj s = X := ⟨_, rfl⟩
      obtain ⟨O1, hO1⟩ : ∃ X, labN K T' uj s = X := ⟨_, rfl⟩
      rw [hX1, hO1]
      have bo6 : Below wo.heap.size wo w6 := Below.trans ((Below.refl _ _).drew.drew) b6
      have hS6 : w6.cell? ⟨w1.heap.size, 0, none⟩ = some (.int .i64 K) ∧ w6.cell? ⟨w1.heap.size, 1, none⟩ = some (.int .i64 R') ∧ w6.cell? ⟨w1.heap.size, 2, none⟩ = some (.slice a n c) ∧ w6.cell? ⟨w3.heap.size, 0, none⟩ = some (.int .i64 N) ∧ w6.cell? ti = some (.int .i64 pj) := ⟨cell_keep b6 hS.1, cell_keep b6 hS.2.1, cell_keep b6 hS.2.2.1, cell_keep b6 hS.2.2.2.1, (b6.cell (World.block_lt_of_cell? _ _ hS.2.2.2.2)).trans hS.2.2.2.2⟩
      refine hK _ _ hS6 ?_
      clear hK KK
      refine headY (v := ?_) (some 81) rfl rfl (Or.inl ⟨by rfl, ?_⟩) hS6 ?_
      rotate_left
      · rintro W' ⟨s0, s1, s2, s3, s4⟩; go_simp; try with_reducible rfl
      simp only [Act.put, List.setIfInBounds_toArray, List.set_cons_zero, List.set_cons_succ]
      refine headY (v := ?_) (some 91) rfl rfl (Or.inl ⟨by rfl, ?_⟩) hS6 ?_
      rotate_left
      · rintro W' ⟨s0, s1, s2, s3, s4⟩; go_simp; try with_reducible rfl
      simp only [Act.put, List.setIfInBounds_toArray, List.set_cons_zero, List.set_cons_succ]
      refine headY (v := ?_) (some 92) rfl rfl (Or.inl ⟨by rfl, ?_⟩) hS6 ?_
      rotate_left
      · rintro W' ⟨s0, s1, s2, s3, s4⟩; go_simp; try with_reducible rfl
      simp only [Act.put, List.setIfInBounds_toArray, List.set_cons_zero, List.set_cons_succ]
      refine headY (v := ?_) (some 93) rfl rfl (Or.inl ⟨by rfl, ?_⟩) hS6 ?_
      rotate_left
      · rintro W' ⟨s0, s1, s2, s3, s4⟩; go_simp; try with_reducible rfl
      simp only [Act.put, List.setIfInBounds_toArray, List.set_cons_zero, List.set_cons_succ]
      refine headY (v := ?_) (some 18) rfl rfl (Or.inl ⟨by rfl, ?_⟩) hS6 ?_
      rotate_left
      · rintro W' ⟨s0, s1, s2, s3, s4⟩; go_simp; try with_reducible rfl
      simp only [Act.put, List.setIfInBounds_toArray, List.set_cons_zero, List.set_cons_succ]
      refine headY (v := ?_) (some 19) rfl rfl (Or.inl ⟨by rfl, ?_⟩) hS6 ?_
      rotate_left
      · rintro W' ⟨s0, s1, s2, s3, s4⟩; go_simp; try with_reducible rfl
      simp only [Act.put, List.setIfInBounds_toArray, List.set_cons_zero, List.set_cons_succ]
      refine head0 ?_
      simp only [List.drop_succ_cons, List.drop_zero]
      have bI6 := bI.trans (bo6.mono bI.size)
      have hS6' := Lib.hid hS6
      clear hS hS6
      go_wp2
      refine NoPanic.normal ?_
      go_upto_region 14 with fail
      refine wp_region_plan (fun w' => w'.cell? ⟨w1.heap.size, 0, none⟩ = some (.int .i64 K) ∧ w'.cell? ⟨w1.heap.size, 1, none⟩ = some (.int .i64 R') ∧ w'.cell? ⟨w1.heap.size, 2, none⟩ = some (.slice a n c) ∧ w'.cell? ⟨w3.heap.size, 0, none⟩ = some (.int .i64 N) ∧ w'.cell? ti = some (.int .i64 pj)) 15 [(0, true), (1, true), (2, true), (3, true), (4, true), (5, true), (6, true), (7, true), (8, false), (9, true), (10, true), (11, true), (12, true), (13, true), (14, true)] (by kernel_rfl) (by kernel_rfl) ?_
      have hS : w6.drew.cell? ⟨w1.heap.size, 0, none⟩ = some (.int .i64 K) ∧ w6.drew.cell? ⟨w1.heap.size, 1, none⟩ = some (.int .i64 R') ∧ w6.drew.cell? ⟨w1.heap.size, 2, none⟩ = some (.slice a n c) ∧ w6.drew.cell? ⟨w3.heap.size, 0, none⟩ = some (.int .i64 N) ∧ w6.drew.cell? ti = some (.int .i64 pj) := hS6'.out
      refine headY (v := ?_) (some 95) rfl rfl (Or.inl ⟨by rfl, ?_⟩) hS ?_
      rotate_left
      · rintro W' ⟨s0, s1, s2, s3, s4⟩; go_simp; try with_reducible rfl
      simp only [Act.put, List.setIfInBounds_toArray, List.set_cons_zero, List.set_cons_succ]
      refine headY (v := ?_) (some 96) rfl rfl (Or.inl ⟨by rfl, ?_⟩) hS ?_
      rotate_left
      · rintro W' ⟨s0, s1, s2, s3, s4⟩; go_simp; try with_reducible rfl
      simp only [Act.put, List.setIfInBounds_toArray, List.set_cons_zero, List.set_cons_succ]
      refine headY (v := ?_) (some 97) rfl rfl (Or.inl ⟨by rfl, ?_⟩) hS ?_
      rotate_left
      · rintro W' ⟨s0, s1, s2, s3, s4⟩; go_simp; try with_reducible rfl
      simp only [Act.put, List.setIfInBounds_toArray, List.set_cons_zero, List.set_cons_succ]
      refine headY (v := ?_) (some 98) rfl rfl (Or.inl ⟨by rfl, ?_⟩) hS ?_
      rotate_left
      · rintro W' ⟨s0, s1, s2, s3, s4⟩; go_simp; try with_reducible rfl
      simp only [Act.put, List.setIfInBounds_toArray, List.set_cons_zero, List.set_cons_succ]
      refine headY (v := ?_) (some 99) rfl rfl (Or.inl ⟨by rfl, ?_⟩) hS ?_
      rotate_left
      · rintro W' ⟨s0, s1, s2, s3, s4⟩; go_simp; try with_reducible rfl
      simp only [Act.put, List.setIfInBounds_toArray, List.set_cons_zero, List.set_cons_succ]
      refine headY (v := ?_) (some 100) rfl rfl (Or.inl ⟨by rfl, ?_⟩) hS ?_
      rotate_left
      · rintro W' ⟨s0, s1, s2, s3, s4⟩; go_simp; try with_reducible rfl
      simp only [Act.put, List.setIfInBounds_toArray, List.set_cons_zero, List.set_cons_succ]
      refine headY (v := ?_) (some 101) rfl rfl (Or.inl ⟨by rfl, ?_⟩) hS ?_
      rotate_left
      · rintro W' ⟨s0, s1, s2, s3, s4⟩; go_simp; try with_reducible rfl
      simp only [Act.put, List.setIfInBounds_toArray, List.set_cons_zero, List.set_cons_succ]
      refine headY (v := ?_) (some 102) rfl rfl (Or.inl ⟨by rfl, ?_⟩) hS ?_
      rotate_left
      · rintro W' ⟨s0, s1, s2, s3, s4⟩; go_simp; try with_reducible rfl
      simp only [Act.put, List.setIfInBounds_toArray, List.set_cons_zero, List.set_cons_succ]
      refine headC rfl (fun KK hK => ?_)
      go_simp
      refine (hEdge.out a n c vj t w6.drew (hg5.out.below bI6.drew) (hT5.out.below bI6.drew) hvjl htl).mono ?_
      rintro e w7 ⟨x, y, z, rfl, b7, rfl, rfl, rfl⟩
      obtain ⟨X2, hX2⟩ : ∃ X, toN K N vj t = X := ⟨_, rfl⟩
      obtain ⟨O2, hO2⟩ : ∃ X, labN K T' vj t = X := ⟨_, rfl⟩
      rw [hX2, hO2]
      have b67 : Below w6.heap.size w6 w7 := Below.trans ((Below.refl _ _).drew) b7
      have bo7 := Below.step bo6 b67
      have bI7 := bI.trans (bo7.mono bI.size)
      have hS7 : w7.cell? ⟨w1.heap.size, 0, none⟩ = some (.int .i64 K) ∧ w7.cell? ⟨w1.heap.size, 1, none⟩ = some (.int .i64 R') ∧ w7.cell? ⟨w1.heap.size, 2, none⟩ = some (.slice a n c) ∧ w7.cell? ⟨w3.heap.size, 0, none⟩ = some (.int .i64 N) ∧ w7.cell? ti = some (.int .i64 pj) := ⟨cell_keep b7 hS.1, cell_keep b7 hS.2.1, cell_keep b7 hS.2.2.1, cell_keep b7 hS.2.2.2.1, (b7.cell (World.block_lt_of_cell? _ _ hS.2.2.2.2)).trans hS.2.2.2.2⟩
      refine hK _ _ hS7 ?_
      clear hK KK
      refine headY (v := ?_) (some 94) rfl rfl (Or.inl ⟨by rfl, ?_⟩) hS7 ?_
      rotate_left
      · rintro W' ⟨s0, s1, s2, s3, s4⟩; go_simp; try with_reducible rfl
      simp only [Act.put, List.setIfInBounds_toArray, List.set_cons_zero, List.set_cons_succ]
      refine headY (v := ?_) (some 104) rfl rfl (Or.inl ⟨by rfl, ?_⟩) hS7 ?_
      rotate_left
      · rintro W' ⟨s0, s1, s2, s3, s4⟩; go_simp; try with_reducible rfl
      simp only [Act.put, List.setIfInBounds_toArray, List.set_cons_zero, List.set_cons_succ]
      refine headY (v := ?_) (some 105) rfl rfl (Or.inl ⟨by rfl, ?_⟩) hS7 ?_
      rotate_left
      · rintro W' ⟨s0, s1, s2, s3, s4⟩; go_simp; try with_reducible rfl
      simp only [Act.put, List.setIfInBounds_toArray, List.set_cons_zero, List.set_cons_succ]
      refine headY (v := ?_) (some 106) rfl rfl (Or.inl ⟨by rfl, ?_⟩) hS7 ?_
      rotate_left
      · rintro W' ⟨s0, s1, s2, s3, s4⟩; go_simp; try with_reducible rfl
      simp only [Act.put, List.setIfInBounds_toArray, List.set_cons_zero, List.set_cons_succ]
      refine headY (v := ?_) (some 21) rfl rfl (Or.inl ⟨by rfl, ?_⟩) hS7 ?_
      rotate_left
      · rintro W' ⟨s0, s1, s2, s3, s4⟩; go_simp; try with_reducible rfl
      simp only [Act.put, List.setIfInBounds_toArray, List.set_cons_zero, List.set_cons_succ]
      refine headY (v := ?_) (some 22) rfl rfl (Or.inl ⟨by rfl, ?_⟩) hS7 ?_
      rotate_left
      · rintro W' ⟨s0, s1, s2, s3, s4⟩; go_simp; try with_reducible rfl
      simp only [Act.put, List.setIfInBounds_toArray, List.set_cons_zero, List.set_cons_succ]
      refine head0 ?_
      simp only [List.drop_succ_cons, List.drop_zero]
      obtain ⟨k0, k1, k2, k3, k4⟩ := hS7
      clear hS hS6' cIo cJo k0 k1 k2 k4 cNo
      rw [hX1, hO1, hX2, hO2] at hstep
      replace hX1 := Lib.hid hX1
      replace hX2 := Lib.hid hX2
      replace hO1 := Lib.hid hO1
      replace hO2 := Lib.hid hO2
      go_wp2
      refine NoPanic.normal ?_
      by_cases e1 : X1 = u1
      · have q1 : ((X1 : Int) != (u1 : Int)) = false := by rw [bne_eq_false_iff_eq]; omega
        by_cases e2 : X2 = v1
        · have q2 : ((X2 : Int) != (v1 : Int)) = false := by rw [bne_eq_false_iff_eq]; omega
          by_cases e3 : O1 = O2
          · have q3 : (O1 != O2) = false := by rw [bne_eq_false_iff_eq]; exact e3
            have hnow := hstep.out.2 ⟨e1, e2, e3⟩
            have hr7 := hr.out.below bo7
            have hoa7 := hoa.out.below bo7
            have hB7 := bI7.size
            replace e1 := Lib.hid e1
            replace e2 := Lib.hid e2
            replace e3 := Lib.hid e3
            replace hr7 := Lib.hid hr7
            go_wp2_with (at_builtin; go_loud (refine wpl_append1 rfl _ _ rfl w5.heap.size av _ s hoa7 rfl rfl (by omega) hB7 ?_))
            intro av2 w8 ho8 b8 hgr8 hal8
            have hr8 := hr7.out.push hfa.out (s : Int) ho8 hgr8 hal8
            have hfb8 : upd f2 (1, 0) (some (rowI av2 (alongW K m (· / N) (ns.take (j + 1)) ++ [(s : Int)]))) (2, 0) = some (rowI bv (alongW K m (· % N) (ns.take (j + 1)))) := by rw [upd_ne _ _ (by simp)]; exact hfb.out
            have hob8 := hr8.ownI hfb8
            have hB8 : w5.heap.size ≤ w8.heap.size := Nat.le_trans hB7 b8.size
            obtain ⟨a2a, a2n, a2c, rfl⟩ := ho8.at.shape
            replace hr8 := Lib.hid hr8
            replace ho8 := Lib.hid ho8
            clear hgr8 hal8 hoa7
            go_wp2_with (at_builtin; go_loud (refine wpl_append1 rfl _ _ rfl w5.heap.size bv _ t hob8 rfl rfl (by omega) hB8 ?_))
            intro bv2 w9 ho9 b9 hgr9 hal9
            have hr9 := hr8.out.push hfb8 (t : Int) ho9 hgr9 hal9
            obtain ⟨b2a, b2n, b2c, rfl⟩ := ho9.at.shape
            replace hr9 := Lib.hid hr9
            replace ho9 := Lib.hid ho9
            replace hfb8 := Lib.hid hfb8
            clear hgr9 hal9 hob8
            go_wp2
            go_roundw
            case measure => have := hjl2.out; simp [intOf]; omega
            case rel =>
              refine ⟨j + 1, _, _, _, by have := hjl2.out; omega, by go_num, rfl, rfl, hr9.out, bI7.trans (b8.trans b9), ?_, ?_, fun i hi => ?_⟩
              · rw [upd_ne _ _ (by simp), upd_same, haS.out]
              · rw [upd_same, hbS.out]
              · by_cases e : i = j
                · subst e; rw [hpj.out, hp.out]; exact hnow
                · exact hfit.out i (by omega)
          · have q3 : (O1 != O2) = true := by rw [bne_iff_ne]; exact e3
            have hnow : ¬ AllFit K N T' ns := fun hA => by
              have := hA j (by have := hll.out; have := hjl2.out; omega)
              rw [hpj.out, hp.out, hstep.out] at this
              exact e3 this.2.2
            replace hnow := Lib.hid hnow
            go_wp2_with fail
            refine (pairs_wrong r _ _ w7 (hg5.out.below bI7) (by decide) (by decide)).mono ?_
            rintro e w8 ⟨x, rfl, b8, he⟩
            replace he := Lib.hid he
            have bE := Below.step (b05.trans (bI7.mono b05.size)) b8
            go_wp2
            go_ret3
            exact ⟨_, _, _, rfl, bE, .inr ⟨hnow.out, rfl, rfl, he.out⟩⟩
        · have q2 : ((X2 : Int) != (v1 : Int)) = true := by rw [bne_iff_ne]; omega
          have hnow : ¬ AllFit K N T' ns := fun hA => by
            have := hA j (by have := hll.out; have := hjl2.out; omega)
            rw [hpj.out, hp.out, hstep.out] at this
            exact e2 this.2.1
          replace hnow := Lib.hid hnow
          go_wp2_with fail
          refine (pairs_wrong r _ _ w7 (hg5.out.below bI7) (by decide) (by decide)).mono ?_
          rintro e w8 ⟨x, rfl, b8, he⟩
          replace he := Lib.hid he
          have bE := Below.step (b05.trans (bI7.mono b05.size)) b8
          go_wp2
          go_ret3
          exact ⟨_, _, _, rfl, bE, .inr ⟨hnow.out, rfl, rfl, he.out⟩⟩
      · have q1 : ((X1 : Int) != (u1 : Int)) = true := by rw [bne_iff_ne]; omega
        have hnow : ¬ AllFit K N T' ns := fun hA => by
          have := hA j (by have := hll.out; have := hjl2.out; omega)
          rw [hpj.out, hp.out, hstep.out] at this
          exact e1 this.1
        replace hnow := Lib.hid hnow
        go_wp2_with fail
        refine (pairs_wrong r _ _ w7 (hg5.out.below bI7) (by decide) (by decide)).mono ?_
        rintro e w8 ⟨x, rfl, b8, he⟩
        replace he := Lib.hid he
        have bE := Below.step (b05.trans (bI7.mono b05.size)) b8
        go_wp2
        go_ret3
        exact ⟨_, _, _, rfl, bE, .inr ⟨hnow.out, rfl, rfl, he.out⟩⟩
    · obtain rfl : j = L1 := by omega
      have hall : ns.take (j + 1) = ns := List.take_of_length_le (by have := hL1.out; omega)
      rw [hall] at hfa hfb
      have hoa := hr.ownI hfa
      have hob := hr.ownI hfb
      have hdis := hr.2 (1, 0) (2, 0) _ _ hfa hfb (by simp)
      have hAll : AllFit K N T' ns := fun i hi => hfit i (by have := hL1.out; omega)
      have hoa' := hoa.mono (B' := w.heap.size) b05.size
      have hob' := hob.mono (B' := w.heap.size) b05.size
      obtain ⟨a2a, a2n, a2c, rfl⟩ := hoa.at.shape
      obtain ⟨b2a, b2n, b2c, rfl⟩ := hob.at.shape
      replace hr := Lib.hid hr
      replace hfa := Lib.hid hfa
      replace hfb := Lib.hid hfb
      replace hoa := Lib.hid hoa
      replace hob := Lib.hid hob
      replace hoa' := Lib.hid hoa'
      replace hob' := Lib.hid hob'
      replace hdis := Lib.hid hdis
      replace hAll := Lib.hid hAll
      replace hfit := Lib.hid hfit
      go_wp2
      go_ret3
      exact ⟨_, _, _, rfl, b0o, .inl ⟨hAll.out, rfl, hoa'.out, hob'.out, hdis.out⟩⟩
end Go.Proofs.YthnkdiejmclmkaaDoor

namespace Go.Proofs.YthnkdiejmclmkaaDoor
open Go.RowKit
set_option maxRecDepth 100000

def sTwins : ByteArray := ⟨#[116, 119, 105, 110, 115]⟩
def Ret4 (Φ : Value → Value → Value → Value → World → Prop) (w : World) (e : Ending) (w' : World) : Prop := ∃ x y z u, e = .returned (.tuple #[x, y, z, u]) ∧ Below w.heap.size w w' ∧ Φ x y z u w'
theorem results_tmp4 {fn : Func} {t u v x : Tmp} (h : fn.results = #[.tmp t, .tmp u, .tmp v, .tmp x]) (tmps : Array Value) (P : Program) (w : World) :
    (results fn tmps).run P w = .ok (.tuple #[tmps.getD t undef, tmps.getD u undef, tmps.getD v undef, tmps.getD x undef]) w := by
  simp [results, h]
/-- What Finite leaves of a small rule. -/
def FinPost (w : World) (K R : Nat) (T : List Int) (yes a b e : Value) (w' : World) : Prop :=
  e = .nilIface ∧ ((yes = .bool true ∧ a = .slice none 0 0 ∧ b = .slice none 0 0 ∧ ∀ x y, ¬ IsTwins K R T x y) ∨
  (yes = .bool false ∧ ∃ x y, FinIs K R T x y ∧ IsTwins K R T x y ∧ TwinLen K R T x.length ∧ x.length ≤ 20010 ∧ OwnI w.heap.size w' a x ∧ OwnI w.heap.size w' b y ∧ (a.ownBlock = none ∨ a.ownBlock ≠ b.ownBlock)))

theorem finite_bad (r : Nat → Addr) (k R : Int) (va : Option Addr) (vn vc : Nat) (T : List Int) (t : Int × List (ByteArray × Int)) (w : World) (hg : Glob r w) (h : IntsAt w (.slice va vn vc) T) (hc : smallP k R T = some t) :
    Calls Tryd.prog 10 #[.agg #[.int .i64 k, .int .i64 R, .slice va vn vc]] w (Ret4 (fun x y z u w' => x = .bool false ∧ y = .slice none 0 0 ∧ z = .slice none 0 0 ∧ ErrIs r w' (under sTwins 0 (under sPairs 0 (some t))) u) w) := by
  have b0 := belowAlloc w (.cells #[.int .i64 k, .int .i64 R, .slice va vn vc] 24)
  replace hg := Lib.hid (hg.below b0)
  replace h := Lib.hid (h.below b0)
  replace hc := Lib.hid hc
  go_enter Tryd.func10, Tryd.ntmps10
  go_wp2_with fail
  refine (pgraph_bad r k R va vn vc T t _ hg.out h.out hc.out).mono ?_
  rintro e w1 ⟨x, y, rfl, b1, rfl, hy⟩
  obtain ⟨T2, a2, rfl⟩ : ∃ T a, y = .iface T (.pointer (some a)) := by
    unfold under at hy
    exact ErrIs.some_shape hy
  replace hy := Lib.hid hy
  go_wp2_with fail
  refine (under_any r sTwins 0 _ _ w1 hy.out).mono ?_
  rintro e w2 ⟨u, rfl, b2, hu⟩
  obtain ⟨T3, a3, rfl⟩ : ∃ T a, u = .iface T (.pointer (some a)) := by
    unfold under at hu
    exact ErrIs.some_shape hu
  replace hu := Lib.hid hu
  go_wp2
  (try simp only [Exit.inBlock, Exit.then])
  refine bodyPost_ret (results_tmp4 rfl _ _ _) rfl ?_
  exact ⟨_, _, _, _, rfl, Below.step b0 (Below.step b1 b2), rfl, rfl, rfl, hu.out⟩

set_option maxHeartbeats 1000000 in
theorem finite_zero (r : Nat → Addr) (K : Nat) (va : Option Addr) (vn vc : Nat) (T : List Int) (w : World) (hg : Glob r w) (h : IntsAt w (.slice va vn vc) T) (hr : RuleOk K 0 T) (hl : T.length ≤ 256) :
    Calls Tryd.prog 10 #[.agg #[.int .i64 K, .int .i64 ((0 : Nat) : Int), .slice va vn vc]] w (Ret4 (FinPost w K 0 T) w) := by
  have b0 := belowAlloc w (.cells #[.int .i64 K, .int .i64 ((0 : Nat) : Int), .slice va vn vc] 24)
  have q : Box3 (w.alloc (.cells #[.int .i64 K, .int .i64 ((0 : Nat) : Int), .slice va vn vc] 24)) w.heap.size (.int .i64 K) (.int .i64 ((0 : Nat) : Int)) (.slice va vn vc) := by simp [Box3, go_sem]
  have hTK : T.length = K := by rw [hr.len]; simp [pw]
  have hgraph := fun (w' : World) (hgl : Glob r w') (hT : IntsAt w' (.slice va vn vc) T) => pgraph_ok r K 0 va vn vc T w' hgl hT hr hl
  replace hgraph := Lib.hid hgraph
  replace hTK := Lib.hid hTK
  replace hg := Lib.hid (hg.below b0)
  replace h := Lib.hid (h.below b0)
  replace hr := Lib.hid hr
  go_enter Tryd.func10, Tryd.ntmps10
  go_wp2_with fail
  refine (hgraph.out _ hg.out h.out).mono ?_
  rintro e w1 ⟨gv, y, rfl, b1, rfl, -⟩
  obtain ⟨⟨z0, z1, z2⟩, -, -, -⟩ := q.below b1
  have b01 := Below.step b0 b1
  have hs := b01.size
  go_wp2_with fail
  refine (single_any K ((0 : Nat) : Int) va vn vc T w1 (h.out.below b1)).mono ?_
  rintro e w2 ⟨x, y, rfl, b2, hp⟩
  have b02 := Below.step b01 b2
  rcases hp with ⟨a, b, hsi, hoa, hob, hd⟩ | ⟨rfl, rfl, hno⟩
  · have lx := hoa.at.len
    obtain ⟨x1, x2, x3, rfl⟩ := hoa.at.shape
    obtain ⟨y1, y2, y3, rfl⟩ := hob.at.shape
    have htw := hsi.twins hTK.out
    have htl : TwinLen K 0 T [(a : Int)].length := ⟨⟨_, _, htw, rfl⟩, fun c d hcd => twins_pos hcd⟩
    replace hsi := Lib.hid hsi
    replace hoa := Lib.hid hoa
    replace hob := Lib.hid hob
    replace hd := Lib.hid hd
    replace htw := Lib.hid htw
    replace htl := Lib.hid htl
    clear z0 z1 z2
    go_wp2
    (try simp only [Exit.inBlock, Exit.then])
    refine bodyPost_ret (results_tmp4 rfl _ _ _) rfl ?_
    exact ⟨_, _, _, _, rfl, b02, rfl, .inr ⟨rfl, _, _, .inl ⟨rfl, a, b, hsi.out, rfl, rfl⟩, htw.out, htl.out, by simp, hoa.out.mono hs, hob.out.mono hs, hd.out⟩⟩
  · have hn := no_single (K := K) hTK.out hno
    replace hn := Lib.hid hn
    clear hno z0 z1 z2
    go_wp2
    (try simp only [Exit.inBlock, Exit.then])
    refine bodyPost_ret (results_tmp4 rfl _ _ _) rfl ?_
    exact ⟨_, _, _, _, rfl, b02, rfl, .inl ⟨rfl, rfl, rfl, hn.out⟩⟩

set_option maxHeartbeats 1000000 in
theorem finite_pos (r : Nat → Addr) (K R : Nat) (va : Option Addr) (vn vc : Nat) (T : List Int) (w : World) (hg : Glob r w) (h : IntsAt w (.slice va vn vc) T) (hr : RuleOk K R T) (hl : T.length ≤ 256) (hR : 1 ≤ R) :
    Calls Tryd.prog 10 #[.agg #[.int .i64 K, .int .i64 R, .slice va vn vc]] w (Ret4 (FinPost w K R T) w) := by
  have b0 := belowAlloc w (.cells #[.int .i64 K, .int .i64 R, .slice va vn vc] 24)
  have q : Box3 (w.alloc (.cells #[.int .i64 K, .int .i64 R, .slice va vn vc] 24)) w.heap.size (.int .i64 K) (.int .i64 R) (.slice va vn vc) := by simp [Box3, go_sem]
  have hk1 := hr.k1
  have hk4 := hr.k4
  have hR3 := hr.r3
  have hN81 := nodes_le hr hR hl
  have hN1 := pw_pos (K := K) (2 * R) hk1
  have hwR : wkR R = R := if_neg (by omega)
  have hwT : wkT K R T = T := if_neg (by omega)
  have hgraph := fun (w' : World) (hgl : Glob r w') (hT : IntsAt w' (.slice va vn vc) T) => pgraph_ok r K R va vn vc T w' hgl hT hr hl
  have hwords := fun (u : Value) (ns : List Nat) (w' : World) (hgl : Glob r w') (hT : IntsAt w' (.slice va vn vc) T) => pwords_way r K R va vn vc T u ns w' hgl hT hr hl
  rw [hwR, hwT] at hgraph hwords
  have hmeet := fun (ga : Option Addr) (gc : Nat) (w' : World) => meet_any K (pw K (2 * R)) T ga gc w' hk4 hN1 hN81
  have hR0 : ((R : Int) == 0) = false := by rw [beq_eq_false_iff_ne]; omega
  have hR1 : ¬ (R : Int) = 0 := by omega
  have hR2 : ¬ R = 0 := by omega
  have hR22 := Lib.hid hR2
  have hRR := Lib.hid hR
  replace hgraph := Lib.hid hgraph
  replace hwords := Lib.hid hwords
  replace hmeet := Lib.hid hmeet
  replace hg := Lib.hid (hg.below b0)
  replace h := Lib.hid (h.below b0)
  replace hr := Lib.hid hr
  clear hwR hwT
  go_enter Tryd.func10, Tryd.ntmps10
  go_wp2_with fail
  refine (hgraph.out _ hg.out h.out).mono ?_
  rintro e w1 ⟨gv, y, rfl, b1, rfl, f, vals, hrows, hwn⟩
  have hL : ListsAt w1 gv (pairG K (pw K (2 * R)) T) := hwn.lists hrows
  obtain ⟨ga, gc, rfl⟩ := hL.shape
  obtain ⟨⟨z0, z1, z2⟩, -, -, -⟩ := q.below b1
  have b01 := Below.step b0 b1
  replace hL := Lib.hid hL
  clear hrows hwn
  go_wp2_with fail
  refine (hmeet.out ga gc w1 hL.out).mono ?_
  rintro e w2 ⟨mv, rfl, b2, hp⟩
  have b12 := Below.step b1 b2
  have b02 := Below.step b01 b2
  clear z0 z1 z2
  obtain ⟨⟨z0, z1, z2⟩, -, -, -⟩ := q.below b12
  rcases hp with ⟨ws, hmi, haw, hmin, hws, how⟩ | ⟨rfl, hno⟩
  · have hw3 := haw.len
    have hlow : ∀ p ∈ ws, p < pw K (2 * R) * pw K (2 * R) := fun p hp => by
      obtain ⟨i, hi, rfl⟩ := List.mem_iff_getElem.1 hp
      have := haw.low i hi
      simpa [List.getD, hi] using this
    have hne : ws ≠ [] := by intro e; rw [e] at hw3; simp at hw3
    have hfit : AllFit K (pw K (2 * R)) T ws := fun i hi => (fits_iff hk1 hR (haw.low _ hi)).2 ((mem_pairL (by omega)).1 (haw.arr i hi))
    have htw := haw.twins hk1 hR
    have htl := way_twinLen hk1 hR haw hmin
    have lm := how.at.len
    rw [castI_len] at lm
    have hln : (((ws.length : Nat) : Int) == 0) = false := by rw [beq_eq_false_iff_ne]; omega
    have hln2 : ¬ ((ws.length : Nat) : Int) = 0 := by omega
    have hln3 : ¬ ws.length = 0 := by omega
    obtain ⟨m1, m2, m3, rfl⟩ := how.at.shape
    replace hmi := Lib.hid hmi
    replace haw := Lib.hid haw
    replace hlow := Lib.hid hlow
    replace hne := Lib.hid hne
    replace hfit := Lib.hid hfit
    replace htw := Lib.hid htw
    replace htl := Lib.hid htl
    replace how := Lib.hid how
    have hws2 := Lib.hid hws
    clear hmin
    go_wp2_with fail
    refine (hwords.out _ ws w2 (hg.out.below b12) (h.out.below b12) how.out.at hne.out hlow.out (by have := hws2.out; omega)).mono ?_
    rintro e w3 ⟨x, y, z, rfl, b3, hpo⟩
    rcases hpo with ⟨_, rfl, hox, hoy, hd⟩ | ⟨hnf, _⟩
    · obtain ⟨x1, x2, x3, rfl⟩ := hox.at.shape
      obtain ⟨y1, y2, y3, rfl⟩ := hoy.at.shape
      have hs := b02.size
      replace hox := Lib.hid hox
      replace hoy := Lib.hid hoy
      replace hd := Lib.hid hd
      clear z0 z1 z2
      go_wp2
      (try simp only [Exit.inBlock, Exit.then])
      refine bodyPost_ret (results_tmp4 rfl _ _ _) rfl ?_
      refine ⟨_, _, _, _, rfl, Below.step b02 b3, rfl, .inr ⟨rfl, _, _, .inr ⟨hR22.out, ws, hmi.out, rfl, rfl⟩, htw.out, ?_, ?_, hox.out.mono hs, hoy.out.mono hs, hd.out⟩⟩
      · rw [alongW_len]; exact htl.out
      · rw [alongW_len]; have := hws2.out; omega
    · exact absurd hfit.out hnf
  · have hn := no_twins (K := K) (R := R) (T := T) hk1 hR hno
    replace hn := Lib.hid hn
    clear hno z0 z1 z2
    go_wp2
    (try simp only [Exit.inBlock, Exit.then])
    refine bodyPost_ret (results_tmp4 rfl _ _ _) rfl ?_
    exact ⟨_, _, _, _, rfl, b02, rfl, .inl ⟨rfl, rfl, rfl, hn.out⟩⟩

theorem finite_ok (r : Nat → Addr) (K R : Nat) (va : Option Addr) (vn vc : Nat) (T : List Int) (w : World) (hg : Glob r w) (h : IntsAt w (.slice va vn vc) T) (hr : RuleOk K R T) (hl : T.length ≤ 256) :
    Calls Tryd.prog 10 #[.agg #[.int .i64 K, .int .i64 R, .slice va vn vc]] w (Ret4 (FinPost w K R T) w) := by
  by_cases e : R = 0
  · subst e; exact finite_zero r K va vn vc T w hg h hr hl
  · exact finite_pos r K R va vn vc T w hg h hr hl (by omega)
end Go.Proofs.YthnkdiejmclmkaaDoor

namespace Go.Proofs.YthnkdiejmclmkaaDoor
open Go.RowKit
set_option maxRecDepth 100000

def zT : List Int := List.replicate 8 0
theorem zT_ok : RuleOk 2 1 zT := ⟨by decide, by decide, by decide, by decide, fun x hx => by rw [List.eq_of_mem_replicate hx]; decide⟩
theorem zT_two : ∀ p, p < 16 → ∀ q, q < 16 → ∃ t ∈ pairL 2 4 zT p, q ∈ pairL 2 4 zT t := by decide +kernel
theorem zT_goes {p q : Nat} (hp : p < 16) (hq : q < 16) : Goes (adjOf (pairG 2 4 zT)) p q := by
  obtain ⟨t, ht, hqt⟩ := zT_two p hp q hq
  exact (pairG_goes (by decide) (.step (.one ht) hqt) hp).1
theorem zT_loop {p : Nat} (hp : p < 16) : OnLoop (adjOf (pairG 2 4 zT)) p := by
  obtain ⟨t, ht, hqt⟩ := zT_two p hp p hp
  refine ⟨t, by rw [pairG_adj (N := 4) hp]; exact ht, ?_⟩
  have htl : t < 16 := ((mem_pairL (N := 4) (by decide)).1 ht).lt (by decide)
  exact zT_goes htl hp
theorem zT_live {L : List Nat} (h : LiveList 16 (adjOf (pairG 2 4 zT)) L) : L = List.range 16 :=
  h.unique ⟨List.pairwise_lt_range, fun v => by
    rw [List.mem_range]
    exact ⟨fun q => ⟨q, ⟨v, q, zT_loop q, .refl _⟩, ⟨v, q, zT_loop q, .refl _⟩⟩, fun q => q.1⟩⟩
theorem zT_words : AllFit 2 4 zT [1, 6, 13] := by
  intro i hi
  have : i = 0 ∨ i = 1 := by simp at hi; omega
  rcases this with rfl | rfl <;> decide

theorem zT_wkR : wkR 1 = 1 := rfl
theorem zT_wkT : wkT 2 1 zT = zT := rfl
theorem zT_pw : pw 2 (2 * 1) = 4 := by decide
theorem zT_pwords (r : Nat → Addr) (ta : Option Addr) (tn tc : Nat) (u : Value) (w : World) (hg : Glob r w) (h : IntsAt w (.slice ta tn tc) zT) (hu : IntsAt w u [1, 6, 13]) :
    Calls Tryd.prog 23 #[.agg #[.int .i64 2, .int .i64 1, .slice ta tn tc], u] w (Ret3 (fun x y z w' => z = .nilIface ∧ IntsAt w' x [0, 0, 1, 1] ∧ IntsAt w' y [0, 1, 0, 1]) w) := by
  have hc := pwords_way r 2 1 ta tn tc zT u [1, 6, 13] w hg h zT_ok (by decide) hu (by simp)
  rw [zT_wkR, zT_pw] at hc
  refine (hc (by decide) (by decide)).mono ?_
  rintro e w' ⟨x, y, z, rfl, b, hp⟩
  refine ⟨x, y, z, rfl, b, ?_⟩
  unfold WordsPost at hp
  rw [zT_wkT, zT_pw] at hp
  rcases hp with ⟨_, h1, h2, h3, _⟩ | ⟨hno, _⟩
  · have exa : alongW 2 (2 * 1) (· / 4) [1, 6, 13] = [0, 0, 1, 1] := by decide
    have exb : alongW 2 (2 * 1) (· % 4) [1, 6, 13] = [0, 1, 0, 1] := by decide
    rw [exa] at h2
    rw [exb] at h3
    exact ⟨h1, h2.at, h3.at⟩
  · exact absurd zT_words hno
theorem zT_papart (r : Nat → Addr) (ta : Option Addr) (tn tc : Nat) (w : World) (hg : Glob r w) (h : IntsAt w (.slice ta tn tc) zT) :
    Calls Tryd.prog 21 #[.agg #[.int .i64 2, .int .i64 1, .slice ta tn tc]] w (Ret2 (fun x y w' => y = .nilIface ∧ IntsAt w' x [1, 2, 3, 4, 6, 7, 8, 9, 11, 12, 13, 14]) w) := by
  have hc := papart_ok r 2 1 ta tn tc zT w hg h zT_ok (by decide)
  rw [zT_wkR, zT_wkT, zT_pw] at hc
  refine hc.mono ?_
  rintro e w' ⟨x, y, rfl, b, h1, L, hL, ho⟩
  have hLe : L = List.range 16 := zT_live hL
  subst hLe
  refine ⟨x, y, rfl, b, h1, ?_⟩
  have hF : castI ((List.range 16).filter (fun p => !decide (Diag 4 p))) = [1, 2, 3, 4, 6, 7, 8, 9, 11, 12, 13, 14] := by decide
  rw [hF] at ho
  exact ho.at

set_option maxHeartbeats 400000 in
theorem awake13 (r : Nat → Addr) (w : World) (hg : Glob r w) : Calls Tryd.prog 19 #[] w (Ret1 (fun x _ => x = .bool true) w) := by
  obtain ⟨tv, w1, mk, ho, b1⟩ := run_makeI (8 : Int) 8 w rfl (by omega)
  have hT : IntsAt w1 tv zT := ho.at
  obtain ⟨ta, tn, tc, rfl⟩ := ho.at.shape
  have ba := belowAlloc w1 (.cells #[.int .i64 2, .int .i64 1, .slice ta tn tc] 24)
  have q : Box3 (w1.alloc (.cells #[.int .i64 2, .int .i64 1, .slice ta tn tc] 24)) w1.heap.size (.int .i64 2) (.int .i64 1) (.slice ta tn tc) := by simp [Box3, go_sem]
  have b02 := Below.step b1 ba
  have hT2 := hT.below ba
  obtain ⟨W2, hW2⟩ : ∃ W2 : World, W2 = w1.alloc (.cells #[.int .i64 2, .int .i64 1, .slice ta tn tc] 24) := ⟨_, rfl⟩
  rw [← hW2] at b02 hT2 q
  have bl := belowAlloc W2 (.cells #[.int .i64 1, .int .i64 6, .int .i64 13] 3)
  have hlit := lit_ints W2 [1, 6, 13] #[.int .i64 1, .int .i64 6, .int .i64 13] rfl (by decide)
  have b03 := Below.step b02 bl
  replace hg := Lib.hid hg
  replace ho := Lib.hid ho
  replace hT := Lib.hid hT
  replace hT2 := Lib.hid hT2
  replace q := Lib.hid q
  replace hlit := Lib.hid hlit
  go_enter Tryd.func19, Tryd.ntmps19
  go_upto_region 2 with fail
  rw [← hW2]
  replace hW2 := Lib.hid hW2
  obtain ⟨⟨y0, y1, y2⟩, -, -, -⟩ := q.out
  go_wp2_with fail
  clear y0 y1 y2
  refine (zT_pwords r ta tn tc _ _ (hg.out.below b03) (hT2.out.below bl) hlit.out).mono ?_
  rintro e w4 ⟨xa, xb, z, rfl, b4, rfl, hxa, hxb⟩
  have b24 := Below.step bl b4
  have b04 := Below.step b03 b4
  obtain ⟨⟨z0, z1, z2⟩, -, -, -⟩ := q.out.below b24
  replace hxa := Lib.hid hxa
  replace hxb := Lib.hid hxb
  clear mk
  go_wp2_with fail
  refine (zT_papart r ta tn tc w4 (hg.out.below b04) (hT2.out.below b24)).mono ?_
  rintro e w5 ⟨lv, y, rfl, b5, rfl, hlo⟩
  have ll := hlo.len
  have i4 : ∀ w', (Instr.indexAt 22 lv (.int .i64 4)).run Tryd.prog w' = .ok (.pointer (some (valAt lv 4))) w' := fun w' => hlo.idx 4 (by decide) w'
  have c4 := hlo.cellD 4 (by decide)
  rw [show ([1, 2, 3, 4, 6, 7, 8, 9, 11, 12, 13, 14] : List Int).getD 4 0 = 6 by decide] at c4
  rw [show ([1, 2, 3, 4, 6, 7, 8, 9, 11, 12, 13, 14] : List Int).length = 12 by decide] at ll
  clear z0 z1 z2
  generalize valAt lv 4 = la at *
  obtain ⟨l1, l2, l3, rfl⟩ := hlo.shape
  replace hlo := Lib.hid hlo
  have b05 := Below.step b04 b5
  have bl1 := belowAlloc w5 (.cells #[.int .i64 0, .int .i64 0, .int .i64 1, .int .i64 1] 3)
  have hlit1 := lit_ints w5 [0, 0, 1, 1] #[.int .i64 0, .int .i64 0, .int .i64 1, .int .i64 1] rfl (by decide)
  replace hlit1 := Lib.hid hlit1
  go_wp2_with fail
  refine (ints_any xa _ _ _ _ ((hxa.out.below b5).below bl1) hlit1.out).mono ?_
  rintro e w7 h7
  obtain ⟨rfl, b7⟩ := h7.below
  clear h7
  rw [show decide (([0, 0, 1, 1] : List Int) = [0, 0, 1, 1]) = true by decide]
  have b57 := Below.step bl1 b7
  have bl2 := belowAlloc w7 (.cells #[.int .i64 0, .int .i64 1, .int .i64 0, .int .i64 1] 3)
  have hlit2 := lit_ints w7 [0, 1, 0, 1] #[.int .i64 0, .int .i64 1, .int .i64 0, .int .i64 1] rfl (by decide)
  replace hlit2 := Lib.hid hlit2
  go_wp2_with fail
  refine (ints_any xb _ _ _ _ ((hxb.out.below (Below.step b5 b57)).below bl2) hlit2.out).mono ?_
  rintro e w8 h8
  obtain ⟨rfl, b8⟩ := h8.below
  clear h8
  rw [show decide (([0, 1, 0, 1] : List Int) = [0, 1, 0, 1]) = true by decide]
  have b58 := Below.step b57 (Below.step bl2 b8)
  have c8 := (b58.cell (World.block_lt_of_cell? _ _ c4)).trans c4
  go_wp2
  go_ret
  exact ⟨_, rfl, Below.step b05 b58, rfl⟩
end Go.Proofs.YthnkdiejmclmkaaDoor

namespace Go.Proofs.YthnkdiejmclmkaaDoor
open Go.RowKit
set_option maxRecDepth 100000

theorem tcheck_bad (r : Nat → Addr) (k R : Int) (va : Option Addr) (vn vc : Nat) (T : List Int) (u v : Value) (t : Int × List (ByteArray × Int)) (w : World) (hg : Glob r w) (h : IntsAt w (.slice va vn vc) T) (hc : smallP k R T = some t) :
    Calls Tryd.prog 14 #[.agg #[.int .i64 k, .int .i64 R, .slice va vn vc], u, v] w (Ret1 (fun x w' => ErrIs r w' (under sTwins 0 (some t)) x) w) := by
  have b0 := belowAlloc w (.cells #[.int .i64 k, .int .i64 R, .slice va vn vc] 24)
  replace hg := Lib.hid (hg.below b0)
  replace h := Lib.hid (h.below b0)
  replace hc := Lib.hid hc
  go_enter Tryd.func14, Tryd.ntmps14
  go_wp2_with fail
  refine (small_any r k R va vn vc T _ hg.out h.out).mono ?_
  rintro e w1 ⟨x, rfl, b1, hx⟩
  rw [hc.out] at hx
  obtain ⟨T2, a2, rfl⟩ := hx.some_shape
  replace hx := Lib.hid hx
  go_wp2_with fail
  refine (under_any r sTwins 0 _ _ w1 hx.out).mono ?_
  rintro e w2 ⟨y, rfl, b2, hy⟩
  obtain ⟨T3, a3, rfl⟩ : ∃ T a, y = .iface T (.pointer (some a)) := by
    unfold under at hy
    exact ErrIs.some_shape hy
  replace hy := Lib.hid hy
  go_wp2
  go_ret
  exact ⟨_, rfl, Below.step b0 (Below.step b1 b2), hy.out⟩

theorem zT_twins : IsTwins 2 1 zT [0, 0, 0, 0, 0] [0, 0, 1, 0, 0] :=
  ⟨fun x hx => by simp at hx; omega, fun x hx => by simp at hx; omega, rfl, by decide, by decide, by decide, by decide, by decide⟩
theorem zT_finite (r : Nat → Addr) (ta : Option Addr) (tn tc : Nat) (w : World) (hg : Glob r w) (h : IntsAt w (.slice ta tn tc) zT) :
    Calls Tryd.prog 10 #[.agg #[.int .i64 2, .int .i64 1, .slice ta tn tc]] w (Ret4 (fun y a b e w' => y = .bool false ∧ e = .nilIface ∧ ∃ p q, IntsAt w' a p ∧ IntsAt w' b q ∧ p.length = 5 ∧ q.length = 5) w) := by
  refine (finite_ok r 2 1 ta tn tc zT w hg h zT_ok (by decide)).mono ?_
  rintro e w' ⟨y, a, b, z, rfl, bl, rfl, hp⟩
  refine ⟨_, _, _, _, rfl, bl, ?_⟩
  rcases hp with ⟨_, _, _, hno⟩ | ⟨rfl, p, q, _, htw, htl, _, hoa, hob, _⟩
  · exact absurd zT_twins (hno _ _)
  · have h1 := htw.long
    have h2 := htl.2 _ _ zT_twins
    have h3 := htw.len
    simp at h2
    exact ⟨rfl, rfl, p, q, hoa.at, hob.at, by omega, by omega⟩
/-- The sum of both neighbours. -/
def xT : List Int := [0, 1, 0, 1, 1, 0, 1, 0]
theorem xT_ok : RuleOk 2 1 xT := ⟨by decide, by decide, by decide, by decide, fun x hx => by simp [xT] at hx; omega⟩
theorem xT_diag : ∀ p, p < 16 → Diag 4 p → ∀ t ∈ pairL 2 4 xT p, Diag 4 t := by decide +kernel
theorem xT_none (a b : List Int) : ¬ IsTwins 2 1 xT a b := by
  refine no_twins (by decide) (by decide) (fun u hu => ?_) a b
  have h3 := hu.len
  have h0 := hu.low 0 (by omega)
  have ha := hu.arr 0 (by omega)
  exact hu.inn 1 (by omega) (by omega) (xT_diag _ h0 hu.fst _ ha)
theorem xT_finite (r : Nat → Addr) (ta : Option Addr) (tn tc : Nat) (w : World) (hg : Glob r w) (h : IntsAt w (.slice ta tn tc) xT) :
    Calls Tryd.prog 10 #[.agg #[.int .i64 2, .int .i64 1, .slice ta tn tc]] w (Ret4 (fun y a b e _ => y = .bool true ∧ e = .nilIface ∧ a = .slice none 0 0 ∧ b = .slice none 0 0) w) := by
  refine (finite_ok r 2 1 ta tn tc xT w hg h xT_ok (by decide)).mono ?_
  rintro e w' ⟨y, a, b, z, rfl, bl, rfl, hp⟩
  refine ⟨_, _, _, _, rfl, bl, ?_⟩
  rcases hp with ⟨rfl, rfl, rfl, _⟩ | ⟨_, p, q, _, htw, _⟩
  · exact ⟨rfl, rfl, rfl, rfl⟩
  · exact absurd htw (xT_none _ _)

set_option maxHeartbeats 1000000 in
theorem awake15 (r : Nat → Addr) (w : World) (hg : Glob r w) : Calls Tryd.prog 9 #[] w (Ret1 (fun x _ => x = .bool true) w) := by
  obtain ⟨tv, w1, mk, ho, b1⟩ := run_makeI (8 : Int) 8 w rfl (by omega)
  have hT : IntsAt w1 tv zT := ho.at
  obtain ⟨ta, tn, tc, rfl⟩ := ho.at.shape
  obtain ⟨t9, ht9⟩ : ∃ t, smallP 9 0 [] = some t := ⟨_, rfl⟩
  replace hg := Lib.hid hg
  replace ho := Lib.hid ho
  replace hT := Lib.hid hT
  replace ht9 := Lib.hid ht9
  go_enter Tryd.func9, Tryd.ntmps9
  go_wp2_with fail
  refine (zT_finite r ta tn tc w1 (hg.out.below b1) hT.out).mono ?_
  rintro e w2 ⟨y, a, b, z, rfl, b2, rfl, rfl, p, q, hpa, hqb, hpl, hql⟩
  have b02 := Below.step b1 b2
  have lp := hpa.len
  have lq := hqb.len
  rw [hpl] at lp
  rw [hql] at lq
  obtain ⟨a1, a2, a3, rfl⟩ := hpa.shape
  obtain ⟨c1, c2, c3, rfl⟩ := hqb.shape
  have bl := belowAlloc w2 (.cells #[.int .i64 0, .int .i64 1, .int .i64 0, .int .i64 1, .int .i64 1, .int .i64 0, .int .i64 1, .int .i64 0] 3)
  have hlit := lit_ints w2 [0, 1, 0, 1, 1, 0, 1, 0] #[.int .i64 0, .int .i64 1, .int .i64 0, .int .i64 1, .int .i64 1, .int .i64 0, .int .i64 1, .int .i64 0] rfl (by decide)
  have b03 := Below.step b02 bl
  replace hlit := Lib.hid hlit
  clear mk hpa hqb hpl hql
  go_wp2_with fail
  refine (xT_finite r _ _ _ _ (hg.out.below b03) hlit.out).mono ?_
  rintro e w4 ⟨y, a, b, z, rfl, b4, rfl, rfl, rfl, rfl⟩
  have b04 := Below.step b03 b4
  go_wp2_with fail
  refine (tcheck_bad r 9 0 none 0 0 [] _ _ t9 w4 (hg.out.below b04) (OwnI.nil 0 _).at ht9.out).mono ?_
  rintro e w5 ⟨x, rfl, b5, hx⟩
  obtain ⟨T3, a3', rfl⟩ : ∃ T a, x = .iface T (.pointer (some a)) := by
    unfold under at hx
    exact ErrIs.some_shape hx
  replace hx := Lib.hid hx
  go_wp2
  go_ret
  exact ⟨_, rfl, Below.step b04 b5, rfl⟩
end Go.Proofs.YthnkdiejmclmkaaDoor

namespace Go.Proofs.YthnkdiejmclmkaaDoor
open Go.RowKit
set_option maxRecDepth 100000

theorem frename_bad1 (r : Nat → Addr) (k R : Int) (va : Option Addr) (vn vc : Nat) (T : List Int) (pa : Option Addr) (pn pc : Nat) (t : Int × List (ByteArray × Int)) (w : World) (hg : Glob r w) (h : IntsAt w (.slice va vn vc) T) (hc : checkP k R T = some t) :
    Calls Tryd.prog 13 #[.agg #[.int .i64 k, .int .i64 R, .slice va vn vc], .slice pa pn pc] w (Ret2 (fun x y w' => x = zR ∧ ErrIs r w' (under sForms 0 (some t)) y) w) := by
  have b0 := Below.step (Below.step (belowAlloc w (.cells #[.int .i64 k, .int .i64 R, .slice va vn vc] 24)) (belowAlloc _ (.cells #[.slice pa pn pc] 22))) (belowAlloc _ (.cells #[.int .i64 0, .int .i64 0, .slice none 0 0] 24))
  obtain ⟨w0, hw0⟩ : ∃ w0, w0 = ((w.alloc (.cells #[.int .i64 k, .int .i64 R, .slice va vn vc] 24)).alloc (.cells #[.slice pa pn pc] 22)).alloc (.cells #[.int .i64 0, .int .i64 0, .slice none 0 0] 24) := ⟨_, rfl⟩
  have q1 : Box3 w0 w.heap.size (.int .i64 k) (.int .i64 R) (.slice va vn vc) := by simp [hw0, Box3, go_sem]
  have q2 : w0.cell? ⟨w.heap.size + 1, 0, none⟩ = some (.slice pa pn pc) := by simp [hw0, go_sem]
  have q3 : Box3 w0 (w.heap.size + 1 + 1) (.int .i64 0) (.int .i64 0) (.slice none 0 0) := by simp [hw0, Box3, go_sem]
  have s0 : w0.heap.size = w.heap.size + 3 := by simp [hw0]
  rw [← hw0] at b0
  replace hg := Lib.hid (hg.below b0)
  replace h := Lib.hid (h.below b0)
  replace hc := Lib.hid hc
  go_enter Tryd.func13, Tryd.ntmps13
  go_wp2_with fail
  rw [← hw0]
  clear hw0
  refine (forms_check r _ k R va vn vc T _ hg.out h.out).mono ?_
  rintro e w1 ⟨x, rfl, hb, he⟩
  rw [hc.out] at he
  obtain ⟨T1, a1, rfl⟩ := ErrIs.some_shape he
  replace he := Lib.hid he
  obtain ⟨⟨y0, y1, y2⟩, f0, f1, f2⟩ := q3.below hb
  go_wp2
  rw [setCell_self3 y0 y1 y2]
  exact bodyPost_ret (v := .tuple #[zR, .iface T1 (.pointer (some a1))]) (by simp [results, Tryd.results13, go_sem, y0, y1, y2]) rfl ⟨_, _, rfl, Below.step b0 hb, rfl, he.out⟩

set_option maxHeartbeats 800000 in
theorem frename_bad2 (r : Nat → Addr) (K R : Nat) (va : Option Addr) (vn vc : Nat) (T : List Int) (pa : Option Addr) (pn pc : Nat) (p : List Int) (w : World) (hg : Glob r w) (h : IntsAt w (.slice va vn vc) T) (hr : RuleOk K R T) (hp : IntsAt w (.slice pa pn pc) p) (hpl : p.length ≤ 17592186044416) (hne : p.length ≠ K) :
    Calls Tryd.prog 13 #[.agg #[.int .i64 K, .int .i64 R, .slice va vn vc], .slice pa pn pc] w (Ret2 (fun x y w' => x = zR ∧ ErrIs r w' (fresh sForms 0 3) y) w) := by
  have b0 := Below.step (Below.step (belowAlloc w (.cells #[.int .i64 K, .int .i64 R, .slice va vn vc] 24)) (belowAlloc _ (.cells #[.slice pa pn pc] 22))) (belowAlloc _ (.cells #[.int .i64 0, .int .i64 0, .slice none 0 0] 24))
  obtain ⟨w0, hw0⟩ : ∃ w0, w0 = ((w.alloc (.cells #[.int .i64 K, .int .i64 R, .slice va vn vc] 24)).alloc (.cells #[.slice pa pn pc] 22)).alloc (.cells #[.int .i64 0, .int .i64 0, .slice none 0 0] 24) := ⟨_, rfl⟩
  have q1 : Box3 w0 w.heap.size (.int .i64 K) (.int .i64 R) (.slice va vn vc) := by simp [hw0, Box3, go_sem]
  have q2 : w0.cell? ⟨w.heap.size + 1, 0, none⟩ = some (.slice pa pn pc) := by simp [hw0, go_sem]
  have q3 : Box3 w0 (w.heap.size + 1 + 1) (.int .i64 0) (.int .i64 0) (.slice none 0 0) := by simp [hw0, Box3, go_sem]
  have s0 : w0.heap.size = w.heap.size + 3 := by simp [hw0]
  rw [← hw0] at b0
  replace hg := Lib.hid (hg.below b0)
  replace h := Lib.hid (h.below b0)
  have hk1 := hr.k1
  have hk4 := hr.k4
  have hR3 := hr.r3
  have hck := Lib.hid hr.check
  replace hp := Lib.hid (hp.below b0)
  have hplen := hp.out.len
  replace hr := Lib.hid hr
  have hnb : ((p.length : Int) != (K : Int)) = true := by rw [bne_iff_ne]; omega
  clear hne
  go_enter Tryd.func13, Tryd.ntmps13
  go_wp2_with fail
  rw [← hw0]
  clear hw0
  refine (forms_check r _ K R va vn vc T _ hg.out h.out).mono ?_
  rintro e w1 ⟨x, rfl, hb, he⟩
  rw [hck.out] at he
  obtain rfl := ErrIs.none_eq he
  have q21 := cell_keep hb q2
  go_wp2_with fail
  refine (vals_any pa pn pc _).mono ?_
  rintro e w2 ⟨rfl, rfl⟩
  have b2 := Below.step hb (belowAlloc w1 (.cells #[.slice pa pn pc] 22))
  go_wp2_with fail
  refine (sorted_any w1.heap.size (.slice pa pn pc) p hpl _ (by simp) (by simp) (hp.out.below b2)).mono ?_
  rintro e w3 ⟨sv, rfl, b3, hsv⟩
  have b03 := Below.step b2 b3
  have s3 := b03.size
  have q13 := q1.below b03
  have q23 := cell_keep b03 q2
  have q33 := q3.below b03
  obtain ⟨⟨z0, z1, z2⟩, -, -, -⟩ := q13
  have cp := q23
  replace hsv := Lib.hid hsv
  clear q23 q2 q21
  go_wp2_with fail
  refine (forms_wrong r _ _ _ (hg.out.below b03) (by decide) (by decide)).mono ?_
  rintro e w4 ⟨x, rfl, b4, he⟩
  obtain ⟨T1, a1, rfl⟩ := ErrIs.some_shape he
  replace he := Lib.hid he
  obtain ⟨⟨y0, y1, y2⟩, f0, f1, f2⟩ := q33.below b4
  clear z0 z1 z2 cp
  go_wp2
  rw [setCell_self3 y0 y1 y2]
  exact bodyPost_ret (v := .tuple #[zR, .iface T1 (.pointer (some a1))]) (by simp [results, Tryd.results13, go_sem, y0, y1, y2]) rfl ⟨_, _, rfl, Below.step b0 (Below.step b03 b4), rfl, he.out⟩

theorem eg_frename1 (args : Array Value) (w : World) : (callFunc 45 args).run Tryd.prog w = .ok (.enter 45 args) w := by kernel_rfl

theorem srt_eq_of {K : Nat} {p : List Int} (hl : p.length = K) (h : ∀ t, t < K → (srt p).getD t 0 = t) : permOk K p = true := by
  simp only [permOk, hl, decide_true, Bool.true_and, decide_eq_true_eq]
  refine List.ext_getElem (by rw [srt_length]; simp [hl]) fun i h1 h2 => ?_
  have h3 : i < K := by simpa using h2
  have := h i h3
  simp only [List.getD, List.getElem?_eq_getElem h1, Option.getD_some] at this
  rw [this]; simp
theorem permOk_srt {K : Nat} {p : List Int} (h : permOk K p = true) (t : Nat) (ht : t < K) : (srt p).getD t 0 = t := by
  simp only [permOk, Bool.and_eq_true, decide_eq_true_eq] at h
  rw [h.2]; simp [List.getD, ht]

set_option maxHeartbeats 1000000 in
theorem frename_bad3 (r : Nat → Addr) (K R : Nat) (va : Option Addr) (vn vc : Nat) (T : List Int) (pa : Option Addr) (pn pc : Nat) (p : List Int) (w : World) (hg : Glob r w) (h : IntsAt w (.slice va vn vc) T) (hr : RuleOk K R T) (hp : IntsAt w (.slice pa pn pc) p) (hpl : p.length ≤ 17592186044416) (hpk : p.length = K) (hno : permOk K p = false) :
    Calls Tryd.prog 13 #[.agg #[.int .i64 K, .int .i64 R, .slice va vn vc], .slice pa pn pc] w (Ret2 (fun x y w' => x = zR ∧ ErrIs r w' (fresh sForms 0 3) y) w) := by
  have b0 := Below.step (Below.step (belowAlloc w (.cells #[.int .i64 K, .int .i64 R, .slice va vn vc] 24)) (belowAlloc _ (.cells #[.slice pa pn pc] 22))) (belowAlloc _ (.cells #[.int .i64 0, .int .i64 0, .slice none 0 0] 24))
  obtain ⟨w0, hw0⟩ : ∃ w0, w0 = ((w.alloc (.cells #[.int .i64 K, .int .i64 R, .slice va vn vc] 24)).alloc (.cells #[.slice pa pn pc] 22)).alloc (.cells #[.int .i64 0, .int .i64 0, .slice none 0 0] 24) := ⟨_, rfl⟩
  have q1 : Box3 w0 w.heap.size (.int .i64 K) (.int .i64 R) (.slice va vn vc) := by simp [hw0, Box3, go_sem]
  have q2 : w0.cell? ⟨w.heap.size + 1, 0, none⟩ = some (.slice pa pn pc) := by simp [hw0, go_sem]
  have q3 : Box3 w0 (w.heap.size + 1 + 1) (.int .i64 0) (.int .i64 0) (.slice none 0 0) := by simp [hw0, Box3, go_sem]
  have s0 : w0.heap.size = w.heap.size + 3 := by simp [hw0]
  rw [← hw0] at b0
  replace hg := Lib.hid (hg.below b0)
  replace h := Lib.hid (h.below b0)
  have hk1 := hr.k1
  have hk4 := hr.k4
  have hR3 := hr.r3
  have hck := Lib.hid hr.check
  replace hp := Lib.hid (hp.below b0)
  have hplen := hp.out.len
  replace hr := Lib.hid hr
  have hnb : ((p.length : Int) != (K : Int)) = false := by rw [bne_eq_false_iff_eq]; omega
  have hpK := Lib.hid hpk
  clear hpk
  replace hno := Lib.hid hno
  go_enter Tryd.func13, Tryd.ntmps13
  go_wp2_with fail
  rw [← hw0]
  clear hw0
  refine (forms_check r _ K R va vn vc T _ hg.out h.out).mono ?_
  rintro e w1 ⟨x, rfl, hb, he⟩
  rw [hck.out] at he
  obtain rfl := ErrIs.none_eq he
  have q21 := cell_keep hb q2
  go_wp2_with fail
  refine (vals_any pa pn pc _).mono ?_
  rintro e w2 ⟨rfl, rfl⟩
  have b2 := Below.step hb (belowAlloc w1 (.cells #[.slice pa pn pc] 22))
  go_wp2_with fail
  refine (sorted_any w1.heap.size (.slice pa pn pc) p hpl _ (by simp) (by simp) (hp.out.below b2)).mono ?_
  rintro e w3 ⟨sv, rfl, b3, hsv⟩
  have b03 := Below.step b2 b3
  have s3 := b03.size
  have q13 := q1.below b03
  have q23 := cell_keep b03 q2
  have q33 := q3.below b03
  have q13x := q13
  obtain ⟨⟨z0, z1, z2⟩, -, -, -⟩ := q13x
  have cp := q23
  have hsl := hsv.at.len
  rw [srt_length, hpK.out] at hsl
  replace hsv := Lib.hid hsv
  clear q2 q21
  go_wp2
  go_loop [28] (fun i => ∃ j : Nat, j ≤ K ∧ i = .int .i64 j ∧ ∀ t, t < j → (srt p).getD t 0 = t) (fun i => K - (intOf i).toNat)
  case atStart => exact ⟨0, by omega, rfl, fun t ht => by omega⟩
  case round =>
    obtain ⟨j, hj, rfl, hne⟩ := hrel
    by_cases hjK : j < K
    · have i1 := hsv.out.at.idx j (by rw [srt_length, hpK.out]; exact hjK)
      have c1 := hsv.out.at.cellD j (by rw [srt_length, hpK.out]; exact hjK)
      by_cases he : (srt p).getD j 0 = j
      · have hn : Hid (∀ t, t < j + 1 → (srt p).getD t 0 = t) := Lib.hid (fun t ht => by
          by_cases e : t = j
          · subst e; exact he
          · exact hne t (by omega))
        rw [he] at c1
        clear hne he
        go_wp2
        go_round
        case rel => exact ⟨j + 1, by omega, by go_num, hn.out⟩
        case measure => simp [intOf]; omega
      · have hnj : ((j : Int) != (srt p).getD j 0) = true := by rw [bne_iff_ne]; exact fun e => he e.symm
        replace hne := Lib.hid hne
        obtain ⟨y, hy⟩ : ∃ y, y = (srt p).getD j 0 := ⟨_, rfl⟩
        rw [← hy] at c1 hnj
        clear he hy
        go_wp2_with fail
        refine (forms_wrong r _ _ _ (hg.out.below b03) (by decide) (by decide)).mono ?_
        rintro e w4 ⟨x, rfl, b4, he⟩
        obtain ⟨T1, a1, rfl⟩ := ErrIs.some_shape he
        replace he := Lib.hid he
        obtain ⟨⟨y0, y1, y2⟩, f0, f1, f2⟩ := q33.below b4
        clear z0 z1 z2 cp
        go_wp2
        rw [setCell_self3 y0 y1 y2]
        exact bodyPost_ret (v := .tuple #[zR, .iface T1 (.pointer (some a1))]) (by simp [results, Tryd.results13, go_sem, y0, y1, y2]) rfl ⟨_, _, rfl, Below.step b0 (Below.step b03 b4), rfl, he.out⟩

    · exfalso
      have := srt_eq_of hpK.out (fun t ht => hne t (by omega))
      rw [hno.out] at this
      cases this

set_option maxHeartbeats 1000000 in
theorem frename_ok (r : Nat → Addr) (K R : Nat) (va : Option Addr) (vn vc : Nat) (T : List Int) (pa : Option Addr) (pn pc : Nat) (p : List Int) (w : World) (hg : Glob r w) (h : IntsAt w (.slice va vn vc) T) (hr : RuleOk K R T) (hp : IntsAt w (.slice pa pn pc) p) (hpl : p.length ≤ 17592186044416) (hpo : permOk K p = true) :
    Calls Tryd.prog 13 #[.agg #[.int .i64 K, .int .i64 R, .slice va vn vc], .slice pa pn pc] w (Ret2 (fun x y w' => y = .nilIface ∧ ∃ a n c, x = .agg #[.int .i64 K, .int .i64 R, .slice a n c] ∧ OwnI w.heap.size w' (.slice a n c) (renT K (2 * R + 1) T p)) w) := by
  have b0 := Below.step (Below.step (belowAlloc w (.cells #[.int .i64 K, .int .i64 R, .slice va vn vc] 24)) (belowAlloc _ (.cells #[.slice pa pn pc] 22))) (belowAlloc _ (.cells #[.int .i64 0, .int .i64 0, .slice none 0 0] 24))
  obtain ⟨w0, hw0⟩ : ∃ w0, w0 = ((w.alloc (.cells #[.int .i64 K, .int .i64 R, .slice va vn vc] 24)).alloc (.cells #[.slice pa pn pc] 22)).alloc (.cells #[.int .i64 0, .int .i64 0, .slice none 0 0] 24) := ⟨_, rfl⟩
  have q1 : Box3 w0 w.heap.size (.int .i64 K) (.int .i64 R) (.slice va vn vc) := by simp [hw0, Box3, go_sem]
  have q2 : w0.cell? ⟨w.heap.size + 1, 0, none⟩ = some (.slice pa pn pc) := by simp [hw0, go_sem]
  have q3 : Box3 w0 (w.heap.size + 1 + 1) (.int .i64 0) (.int .i64 0) (.slice none 0 0) := by simp [hw0, Box3, go_sem]
  have s0 : w0.heap.size = w.heap.size + 3 := by simp [hw0]
  rw [← hw0] at b0
  replace hg := Lib.hid (hg.below b0)
  replace h := Lib.hid (h.below b0)
  have hk1 := hr.k1
  have hk4 := hr.k4
  have hR3 := hr.r3
  have hck := Lib.hid hr.check
  replace hp := Lib.hid (hp.below b0)
  have hplen := hp.out.len
  replace hr := Lib.hid hr
  have hpK := Lib.hid (permOk_len hpo)
  have hnb : ((p.length : Int) != (K : Int)) = false := by rw [bne_eq_false_iff_eq]; have := hpK.out; omega
  replace hpo := Lib.hid hpo
  go_enter Tryd.func13, Tryd.ntmps13
  go_wp2_with fail
  rw [← hw0]
  clear hw0
  refine (forms_check r _ K R va vn vc T _ hg.out h.out).mono ?_
  rintro e w1 ⟨x, rfl, hb, he⟩
  rw [hck.out] at he
  obtain rfl := ErrIs.none_eq he
  have q21 := cell_keep hb q2
  go_wp2_with fail
  refine (vals_any pa pn pc _).mono ?_
  rintro e w2 ⟨rfl, rfl⟩
  have b2 := Below.step hb (belowAlloc w1 (.cells #[.slice pa pn pc] 22))
  go_wp2_with fail
  refine (sorted_any w1.heap.size (.slice pa pn pc) p hpl _ (by simp) (by simp) (hp.out.below b2)).mono ?_
  rintro e w3 ⟨sv, rfl, b3, hsv⟩
  have b03 := Below.step b2 b3
  have s3 := b03.size
  have q13 := q1.below b03
  have q23 := cell_keep b03 q2
  have q33 := q3.below b03
  have q13x := q13
  obtain ⟨⟨z0, z1, z2⟩, -, -, -⟩ := q13x
  have cp := q23
  have hsl := hsv.at.len
  rw [srt_length, hpK.out] at hsl
  replace hsv := Lib.hid hsv
  clear q2 q21
  go_wp2
  go_loop [28] (fun i => ∃ j : Nat, j ≤ K ∧ i = .int .i64 j ∧ ∀ t, t < j → (srt p).getD t 0 = t) (fun i => K - (intOf i).toNat)
  case atStart => exact ⟨0, by omega, rfl, fun t ht => by omega⟩
  case round =>
    obtain ⟨j, hj, rfl, hne⟩ := hrel
    by_cases hjK : j < K
    · have i1 := hsv.out.at.idx j (by rw [srt_length, hpK.out]; exact hjK)
      have c1 := hsv.out.at.cellD j (by rw [srt_length, hpK.out]; exact hjK)
      have he := permOk_srt hpo.out j hjK
      have hn : Hid (∀ t, t < j + 1 → (srt p).getD t 0 = t) := Lib.hid (fun t ht => by
          by_cases e : t = j
          · subst e; exact he
          · exact hne t (by omega))
      rw [he] at c1
      clear hne he
      go_wp2
      go_round
      case rel => exact ⟨j + 1, by omega, by go_num, hn.out⟩
      case measure => simp [intOf]; omega
    · replace hne := Lib.hid hne
      go_wp2_with fail
      refine (made_two K R _ _ _ (renF K T p) _ hk1 hk4 hR3 _ rfl eg_frename1 (fun v ys w' hB hv hy hyl => by
        have e3 := q13.below hB
        exact frename1_any K R va vn vc T pa pn pc p _ _ v ys w' ((h.out.below b03).below hB) hr.out ((hp.out.below b03).below hB) hpo.out hv hy hyl (cell_keep hB q23) e3.1.1 e3.1.2.1 e3.1.2.2)).mono ?_
      rintro e w4 ⟨x, rfl, b4, a, n, c, rfl, ho⟩
      obtain ⟨⟨y0, y1, y2⟩, f0, f1, f2⟩ := q33.below b4
      replace ho := Lib.hid ho
      clear z0 z1 z2 cp
      go_wp2
      refine bodyPost_ret (v := .tuple #[.agg #[.int .i64 K, .int .i64 R, .slice a n c], .nilIface]) (by simp [results, Tryd.results13, go_sem, y0, y1, y2]) rfl ⟨_, _, rfl, below_set3 (Below.step b0 (Below.step b03 b4)) (by omega) _ _ _, rfl, a, n, c, rfl, ?_⟩
      exact (((ho.out.setBelowBase (a := ⟨w.heap.size + 1 + 1, 0, none⟩) (by simp; omega) _).setBelowBase (a := ⟨w.heap.size + 1 + 1, 1, none⟩) (by simp; omega) _).setBelowBase (a := ⟨w.heap.size + 1 + 1, 2, none⟩) (by simp; omega) _).mono (by omega)

/-- forms.Rename's fault. -/
def renameP (k R : Int) (T p : List Int) : PErr :=
  match checkP k R T with
  | some t => under sForms 0 (some t)
  | none => if permOk k.toNat p = true then none else fresh sForms 0 3

theorem frename_any (r : Nat → Addr) (k R : Int) (va : Option Addr) (vn vc : Nat) (T : List Int) (pa : Option Addr) (pn pc : Nat) (p : List Int) (w : World) (hg : Glob r w) (h : IntsAt w (.slice va vn vc) T) (hp : IntsAt w (.slice pa pn pc) p) (hpl : p.length ≤ 17592186044416) :
    Calls Tryd.prog 13 #[.agg #[.int .i64 k, .int .i64 R, .slice va vn vc], .slice pa pn pc] w (Ret2 (fun x y w' => ErrIs r w' (renameP k R T p) y ∧ (renameP k R T p ≠ none → x = zR) ∧
      (renameP k R T p = none → ∃ a n c, x = .agg #[.int .i64 k, .int .i64 R, .slice a n c] ∧ OwnI w.heap.size w' (.slice a n c) (renT k.toNat (2 * R.toNat + 1) T p))) w) := by
  cases hc : checkP k R T with
  | some t =>
    have e : renameP k R T p = under sForms 0 (some t) := by simp [renameP, hc]
    refine (frename_bad1 r k R va vn vc T pa pn pc t w hg h hc).mono ?_
    rintro _ w' ⟨x, y, he, hb, hx, hy⟩
    exact ⟨x, y, he, hb, by rw [e]; exact hy, fun _ => hx, (fun q => by rw [e] at q; cases q)⟩
  | none =>
    obtain ⟨K, Q, rfl, rfl, hr⟩ := checkP_none hc
    cases hpo : permOk K p with
    | true =>
      have e : renameP K Q T p = none := by simp [renameP, hc, hpo]
      refine (frename_ok r K Q va vn vc T pa pn pc p w hg h hr hp hpl hpo).mono ?_
      rintro _ w' ⟨x, y, he, hb, rfl, hx⟩
      exact ⟨x, _, he, hb, by rw [e]; rfl, fun q => absurd e q, fun _ => hx⟩
    | false =>
      have e : renameP K Q T p = fresh sForms 0 3 := by simp [renameP, hc, hpo]
      by_cases hl : p.length = K
      · refine (frename_bad3 r K Q va vn vc T pa pn pc p w hg h hr hp hpl hl hpo).mono ?_
        rintro _ w' ⟨x, y, he, hb, hx, hy⟩
        exact ⟨x, y, he, hb, by rw [e]; exact hy, fun _ => hx, (fun q => by rw [e] at q; cases q)⟩
      · refine (frename_bad2 r K Q va vn vc T pa pn pc p w hg h hr hp hpl hl).mono ?_
        rintro _ w' ⟨x, y, he, hb, hx, hy⟩
        exact ⟨x, y, he, hb, by rw [e]; exact hy, fun _ => hx, (fun q => by rw [e] at q; cases q)⟩
end Go.Proofs.YthnkdiejmclmkaaDoor

namespace Go.Proofs.YthnkdiejmclmkaaDoor

theorem permOk_nodup {K : Nat} {p : List Int} (h : permOk K p = true) : p.Nodup := by
  simp only [permOk, Bool.and_eq_true, decide_eq_true_eq] at h
  rw [← (srt_perm p).nodup_iff, h.2]
  exact List.pairwise_map.2 (List.nodup_range.imp fun hne e => hne (by omega))
theorem permOk_inj {K : Nat} {p : List Int} (h : permOk K p = true) {i j : Nat} (hi : i < K) (hj : j < K) (e : p.getD i 0 = p.getD j 0) : i = j := by
  have hn := List.pairwise_iff_getElem.1 (permOk_nodup h)
  have hl := permOk_len h
  simp only [List.getD, List.getElem?_eq_getElem (show i < p.length by omega), List.getElem?_eq_getElem (show j < p.length by omega), Option.getD_some] at e
  rcases Nat.lt_trichotomy i j with hij | hij | hij
  · exact absurd e (hn i j (by omega) (by omega) hij)
  · exact hij
  · exact absurd e.symm (hn j i (by omega) (by omega) hij)
theorem invP_inj {K : Nat} {p : List Int} (h : permOk K p = true) {x y : Int} (a : 0 ≤ x) (b : x < K) (c : 0 ≤ y) (d : y < K) (hne : x ≠ y) : invP p x ≠ invP p y := by
  obtain ⟨i, ei, _, gi⟩ := invP_spec h a b
  obtain ⟨j, ej, _, gj⟩ := invP_spec h c d
  intro e
  rw [ei, ej] at e
  have : i = j := by omega
  subst this
  exact hne (gi.symm.trans gj)
theorem pf_bd {K : Nat} {p : List Int} (h : permOk K p = true) {x : Int} (a : 0 ≤ x) (b : x < K) : 0 ≤ p.getD x.toNat 0 ∧ p.getD x.toNat 0 < K := by
  have := (permOk_syms h).getD (by omega) x.toNat
  exact this
theorem invP_pf {K : Nat} {p : List Int} (h : permOk K p = true) {x : Int} (a : 0 ≤ x) (b : x < K) : invP p (p.getD x.toNat 0) = x := by
  have hb := pf_bd h a b
  obtain ⟨i, ei, hi, gi⟩ := invP_spec h hb.1 hb.2
  have := permOk_inj h hi (show x.toNat < K by omega) gi
  omega

theorem renT_length (K n : Nat) (T p : List Int) : (renT K n T p).length = pw K n := madeP_length ..
theorem renT_at {K n : Nat} (hK : 1 ≤ K) (T p : List Int) (w : List Int) (hw : Syms K w) (hl : w.length = n) : (renT K n T p).getD (numW K w) 0 = renF K T p w := by
  have hlt := numW_lt w hw
  rw [hl] at hlt
  have : (renT K n T p).getD (numW K w) 0 = renF K T p (digs K n (numW K w)) := by simp [renT, madeP, List.getD, hlt]
  rw [this, ← hl, digs_numW hK w hw]
theorem renF_bd {K R : Nat} {T p : List Int} (h : RuleOk K R T) (hp : permOk K p = true) (w : List Int) : 0 ≤ renF K T p w ∧ renF K T p w < K := by
  have := h.k1
  have hT := h.syms.getD (by omega) (numW K (w.map (invP p)))
  exact pf_bd hp hT.1 hT.2
theorem renT_ok {K R : Nat} {T p : List Int} (h : RuleOk K R T) (hp : permOk K p = true) : RuleOk K R (renT K (2 * R + 1) T p) :=
  ⟨h.k1, h.k4, h.r3, renT_length .., fun y hy => by
    obtain ⟨i, _, rfl⟩ := List.mem_map.1 hy
    exact renF_bd h hp _⟩
theorem renF_ne {K R : Nat} {T p : List Int} (h : RuleOk K R T) (hp : permOk K p = true) {w v : List Int} : renF K T p w ≠ renF K T p v ↔ T.getD (numW K (w.map (invP p))) 0 ≠ T.getD (numW K (v.map (invP p))) 0 := by
  have hk := h.k1
  have h1 := h.syms.getD (by omega) (numW K (w.map (invP p)))
  have h2 := h.syms.getD (by omega) (numW K (v.map (invP p)))
  constructor
  · intro hne e; exact hne (by rw [renF, renF, e])
  · intro hne e
    have := permOk_inj hp (by omega) (by omega) (show p.getD _ 0 = p.getD _ 0 from e)
    exact hne (by omega)
/-- The word by the other names. -/
theorem map_inv_pf {K : Nat} {p : List Int} (hp : permOk K p = true) {u : List Int} (hu : Syms K u) : (u.map fun x => p.getD x.toNat 0).map (invP p) = u := by
  rw [List.map_map]
  conv => rhs; rw [← List.map_id u]
  refine List.map_congr_left fun x hx => ?_
  have := hu x hx
  exact invP_pf hp this.1 this.2
theorem map_pf_syms {K : Nat} {p : List Int} (hp : permOk K p = true) {u : List Int} (hu : Syms K u) : Syms K (u.map fun x => p.getD x.toNat 0) := fun y hy => by
  obtain ⟨x, hx, rfl⟩ := List.mem_map.1 hy
  exact pf_bd hp (hu x hx).1 (hu x hx).2

theorem ren_leftW {K R : Nat} {T p : List Int} (h : RuleOk K R T) (hp : permOk K p = true) : LeftW K (2 * R) (renT K (2 * R + 1) T p) ↔ LeftW K (2 * R) T := by
  have hk := h.k1
  constructor
  · intro hw u hu hl s t a b c d hne
    have hs := pf_bd hp a b
    have ht := pf_bd hp c d
    have := hw (u.map fun x => p.getD x.toNat 0) (map_pf_syms hp hu) (by simpa using hl) (p.getD s.toNat 0) (p.getD t.toNat 0) hs.1 hs.2 ht.1 ht.2 (fun e => hne (by have := permOk_inj hp (by omega) (by omega) e; omega))
    rw [renT_at hk _ _ _ (syms_cons hs.1 hs.2 (map_pf_syms hp hu)) (by simp [hl]), renT_at hk _ _ _ (syms_cons ht.1 ht.2 (map_pf_syms hp hu)) (by simp [hl]), renF_ne h hp, List.map_cons, List.map_cons, map_inv_pf hp hu, invP_pf hp a b, invP_pf hp c d] at this
    exact this
  · intro hw u hu hl s t a b c d hne
    rw [renT_at hk _ _ _ (syms_cons a b hu) (by simp [hl]), renT_at hk _ _ _ (syms_cons c d hu) (by simp [hl]), renF_ne h hp, List.map_cons, List.map_cons]
    have is := invP_syms hp (syms_cons a b (show Syms K [] from fun x hx => by cases hx)) (invP p s) (by simp)
    have it := invP_syms hp (syms_cons c d (show Syms K [] from fun x hx => by cases hx)) (invP p t) (by simp)
    exact hw _ (invP_syms hp hu) (by simpa using hl) _ _ is.1 is.2 it.1 it.2 (invP_inj hp a b c d hne)
theorem ren_rightW {K R : Nat} {T p : List Int} (h : RuleOk K R T) (hp : permOk K p = true) : RightW K (2 * R) (renT K (2 * R + 1) T p) ↔ RightW K (2 * R) T := by
  have hk := h.k1
  constructor
  · intro hw u hu hl s t a b c d hne
    have hs := pf_bd hp a b
    have ht := pf_bd hp c d
    have := hw (u.map fun x => p.getD x.toNat 0) (map_pf_syms hp hu) (by simpa using hl) (p.getD s.toNat 0) (p.getD t.toNat 0) hs.1 hs.2 ht.1 ht.2 (fun e => hne (by have := permOk_inj hp (by omega) (by omega) e; omega))
    rw [renT_at hk _ _ _ (syms_snoc hs.1 hs.2 (map_pf_syms hp hu)) (by simp [hl]), renT_at hk _ _ _ (syms_snoc ht.1 ht.2 (map_pf_syms hp hu)) (by simp [hl]), renF_ne h hp, List.map_append, List.map_append, map_inv_pf hp hu, List.map_singleton, List.map_singleton, invP_pf hp a b, invP_pf hp c d] at this
    exact this
  · intro hw u hu hl s t a b c d hne
    rw [renT_at hk _ _ _ (syms_snoc a b hu) (by simp [hl]), renT_at hk _ _ _ (syms_snoc c d hu) (by simp [hl]), renF_ne h hp, List.map_append, List.map_append, List.map_singleton, List.map_singleton]
    have is := invP_syms hp (syms_cons a b (show Syms K [] from fun x hx => by cases hx)) (invP p s) (by simp)
    have it := invP_syms hp (syms_cons c d (show Syms K [] from fun x hx => by cases hx)) (invP p t) (by simp)
    exact hw _ (invP_syms hp hu) (by simpa using hl) _ _ is.1 is.2 it.1 it.2 (invP_inj hp a b c d hne)
theorem ren_sides {K R : Nat} {T p : List Int} (h : RuleOk K R T) (hp : permOk K p = true) :
    unlikeP K (renT K (2 * R + 1) T p) ((renT K (2 * R + 1) T p).length / K) = unlikeP K T (T.length / K) ∧ unlikeP K (renT K (2 * R + 1) T p) 1 = unlikeP K T 1 := by
  constructor
  · rw [Bool.eq_iff_iff, unlike_leftW (renT_ok h hp), unlike_leftW h, ren_leftW h hp]
  · rw [Bool.eq_iff_iff, unlike_rightW (renT_ok h hp), unlike_rightW h, ren_rightW h hp]
end Go.Proofs.YthnkdiejmclmkaaDoor

namespace Go.Proofs.YthnkdiejmclmkaaDoor

theorem img_mir {K R : Nat} {T : List Int} (h : RuleOk K R T) {x : List Int} (hx : Syms K x) : imgP K R (mirT K (2 * R + 1) T) x = (imgP K R T x.reverse).reverse := by
  refine List.ext_getElem (by simp [imgP_length]) fun i h1 h2 => ?_
  have h1' := h1
  rw [imgP_length] at h1'
  have e1 := imgP_getD K R (mirT K (2 * R + 1) T) x i h1'
  rw [List.getD_eq_getElem?_getD, List.getElem?_eq_getElem h1, Option.getD_some] at e1
  rw [e1, List.getElem_reverse]
  have hj : (imgP K R T x.reverse).length - 1 - i < x.reverse.length - 2 * R := by simp only [imgP_length, List.length_reverse]; omega
  have e2 := imgP_getD K R T x.reverse _ hj
  rw [List.getD_eq_getElem?_getD, List.getElem?_eq_getElem (show (imgP K R T x.reverse).length - 1 - i < (imgP K R T x.reverse).length by rw [imgP_length] at hj ⊢; exact hj), Option.getD_some] at e2
  rw [e2, mirT_at h.k1 h.len _ (syms_take (syms_drop hx _) _) (by simp; omega)]
  congr 2
  rw [imgP_length, List.length_reverse]
  refine List.ext_getElem (by simp; omega) fun j a b => ?_
  simp only [List.length_reverse, List.length_take, List.length_drop] at a b
  simp only [List.getElem_reverse, List.getElem_take, List.getElem_drop, List.length_take, List.length_drop]
  congr 1
  omega
theorem twins_rev {K R : Nat} {T T' : List Int} (hi : ∀ x, Syms K x → imgP K R T' x = (imgP K R T x.reverse).reverse) {a b : List Int} (t : IsTwins K R T' a b) : IsTwins K R T a.reverse b.reverse := by
  have hl := t.len
  have hw := t.low
  refine ⟨syms_rev t.sa, syms_rev t.sb, by simpa using hl, fun e => t.ne (List.reverse_inj.1 e), by simpa using hw, ?_, ?_, ?_⟩
  · rw [List.take_reverse, List.take_reverse, t.back]
  · rw [List.drop_reverse, List.drop_reverse, List.length_reverse, List.length_reverse, show a.length - (a.length - 2 * R) = 2 * R by omega, show b.length - (b.length - 2 * R) = 2 * R by omega, t.front]
  · have := t.img
    rw [hi a t.sa, hi b t.sb] at this
    exact List.reverse_inj.1 this
theorem twins_mir {K R : Nat} {T : List Int} (h : RuleOk K R T) {a b : List Int} : IsTwins K R (mirT K (2 * R + 1) T) a b ↔ IsTwins K R T a.reverse b.reverse := by
  constructor
  · exact twins_rev fun x hx => img_mir h hx
  · intro t
    have := twins_rev (T := mirT K (2 * R + 1) T) (fun x hx => by rw [img_mir h (syms_rev hx), List.reverse_reverse, List.reverse_reverse]) t
    rwa [List.reverse_reverse, List.reverse_reverse] at this
/-- Least lengths agree where twins of one rule give twins of the other, as long. -/
theorem twinLen_of {K R K' R' : Nat} {T T' : List Int} (f : ∀ a b, IsTwins K R T a b → ∃ c d, IsTwins K' R' T' c d ∧ c.length = a.length) (g : ∀ a b, IsTwins K' R' T' a b → ∃ c d, IsTwins K R T c d ∧ c.length = a.length) {n : Nat} (h : TwinLen K R T n) : TwinLen K' R' T' n := by
  obtain ⟨⟨a, b, t, e⟩, hm⟩ := h
  obtain ⟨c, d, t', e'⟩ := f a b t
  refine ⟨⟨c, d, t', by omega⟩, fun a b t => ?_⟩
  obtain ⟨c, d, t', e'⟩ := g a b t
  have := hm c d t'
  omega
theorem mir_twins {K R : Nat} {T : List Int} (h : RuleOk K R T) {a b : List Int} (t : IsTwins K R T a b) : IsTwins K R (mirT K (2 * R + 1) T) a.reverse b.reverse := (twins_mir h).2 (by rwa [List.reverse_reverse, List.reverse_reverse])
theorem twinLen_mir {K R : Nat} {T : List Int} (h : RuleOk K R T) {n : Nat} (t : TwinLen K R T n) : TwinLen K R (mirT K (2 * R + 1) T) n :=
  twinLen_of (fun a b t => ⟨_, _, mir_twins h t, by simp⟩) (fun a b t => ⟨_, _, (twins_mir h).1 t, by simp⟩) t
end Go.Proofs.YthnkdiejmclmkaaDoor

namespace Go.Proofs.YthnkdiejmclmkaaDoor

theorem map_pf_inv {K : Nat} {p : List Int} (hp : permOk K p = true) {u : List Int} (hu : Syms K u) : (u.map (invP p)).map (fun x => p.getD x.toNat 0) = u := by
  rw [List.map_map]
  conv => rhs; rw [← List.map_id u]
  refine List.map_congr_left fun x hx => ?_
  have := hu x hx
  obtain ⟨i, ei, _, gi⟩ := invP_spec hp this.1 this.2
  show p.getD (invP p x).toNat 0 = x
  rw [ei, Int.toNat_natCast, gi]
theorem img_ren {K R : Nat} {T p : List Int} (hK : 1 ≤ K) {x : List Int} (hx : Syms K x) : imgP K R (renT K (2 * R + 1) T p) x = (imgP K R T (x.map (invP p))).map (fun s => p.getD s.toNat 0) := by
  refine List.ext_getElem (by simp [imgP_length]) fun i h1 h2 => ?_
  have h1' := h1
  rw [imgP_length] at h1'
  have e1 := imgP_getD K R (renT K (2 * R + 1) T p) x i h1'
  rw [List.getD_eq_getElem?_getD, List.getElem?_eq_getElem h1, Option.getD_some] at e1
  have hj : i < (x.map (invP p)).length - 2 * R := by rw [List.length_map]; exact h1'
  have e2 := imgP_getD K R T (x.map (invP p)) _ hj
  rw [List.getD_eq_getElem?_getD, List.getElem?_eq_getElem (by rw [imgP_length]; exact hj), Option.getD_some] at e2
  rw [List.getElem_map, e1, e2, renT_at hK T p _ (syms_take (syms_drop hx _) _) (by simp; omega), renF, List.map_take, List.map_drop]
theorem twins_ren {K R : Nat} {T p : List Int} (h : RuleOk K R T) (hp : permOk K p = true) {a b : List Int} (t : IsTwins K R (renT K (2 * R + 1) T p) a b) : IsTwins K R T (a.map (invP p)) (b.map (invP p)) := by
  have hl := t.len
  have hw := t.low
  refine ⟨invP_syms hp t.sa, invP_syms hp t.sb, by simpa using hl, fun e => t.ne ?_, by simpa using hw, ?_, ?_, ?_⟩
  · rw [← map_pf_inv hp t.sa, e, map_pf_inv hp t.sb]
  · rw [← List.map_take, ← List.map_take, t.front]
  · rw [← List.map_drop, ← List.map_drop, List.length_map, List.length_map, t.back]
  · have := t.img
    rw [img_ren h.k1 t.sa, img_ren h.k1 t.sb] at this
    rw [← map_inv_pf hp (imgP_syms h.k1 h.syms (R := R) (w := a.map (invP p))), this, map_inv_pf hp (imgP_syms h.k1 h.syms)]
theorem ren_twins {K R : Nat} {T p : List Int} (h : RuleOk K R T) (hp : permOk K p = true) {a b : List Int} (t : IsTwins K R T a b) : IsTwins K R (renT K (2 * R + 1) T p) (a.map fun x => p.getD x.toNat 0) (b.map fun x => p.getD x.toNat 0) := by
  have hl := t.len
  have hw := t.low
  refine ⟨map_pf_syms hp t.sa, map_pf_syms hp t.sb, by simpa using hl, fun e => t.ne ?_, by simpa using hw, ?_, ?_, ?_⟩
  · rw [← map_inv_pf hp t.sa, e, map_inv_pf hp t.sb]
  · rw [← List.map_take, ← List.map_take, t.front]
  · rw [← List.map_drop, ← List.map_drop, List.length_map, List.length_map, t.back]
  · rw [img_ren h.k1 (map_pf_syms hp t.sa), img_ren h.k1 (map_pf_syms hp t.sb), map_inv_pf hp t.sa, map_inv_pf hp t.sb, t.img]
theorem twinLen_ren {K R : Nat} {T p : List Int} (h : RuleOk K R T) (hp : permOk K p = true) {n : Nat} (t : TwinLen K R T n) : TwinLen K R (renT K (2 * R + 1) T p) n :=
  twinLen_of (fun a b t => ⟨_, _, ren_twins h hp t, by simp⟩) (fun a b t => ⟨_, _, twins_ren h hp t, by simp⟩) t
end Go.Proofs.YthnkdiejmclmkaaDoor

namespace Go.Proofs.YthnkdiejmclmkaaDoor

theorem tab_ext {a b : List Int} (hl : a.length = b.length) (h : ∀ t, t < a.length → a.getD t 0 = b.getD t 0) : a = b :=
  List.ext_getElem hl fun t h1 h2 => by have := h t h1; simpa [List.getD, h1, h2] using this
theorem wideT_get {K R d : Nat} {T : List Int} {i : Nat} (h : i < pw K (2 * (R + d) + 1)) : (wideT K R d T).getD i 0 = T.getD (numW K (((digs K (2 * (R + d) + 1) i).drop d).take (2 * R + 1))) 0 := by
  simp [wideT, List.getD, h]
theorem wideT_zero {K R : Nat} {T : List Int} (h : RuleOk K R T) : wideT K R 0 T = T := by
  refine tab_ext (by rw [wideT_length, h.len]; rfl) fun t ht => ?_
  rw [wideT_length] at ht
  rw [wideT_get ht, List.drop_zero, Nat.add_zero, List.take_of_length_le (by rw [digs_length]; omega), numW_digs h.k1 _ _ (by simpa using ht)]
theorem wideT_wideT {K Q e d : Nat} {N : List Int} (hK : 1 ≤ K) : wideT K (Q + e) d (wideT K Q e N) = wideT K Q (e + d) N := by
  refine tab_ext (by rw [wideT_length, wideT_length, Nat.add_assoc]) fun t ht => ?_
  rw [wideT_length] at ht
  rw [wideT_get ht, wideT_at hK _ (syms_take (syms_drop (digs_syms hK _ _) _) _) (by rw [List.length_take, List.length_drop, digs_length]; omega), wideT_get (by rw [← Nat.add_assoc]; exact ht)]
  congr 2
  rw [List.drop_take, List.take_take, List.drop_drop, Nat.min_eq_left (by omega), Nat.add_comm d e, Nat.add_assoc]
/-- Without the outermost symbols on both sides. -/
def narrT (K Q : Nat) (T : List Int) : List Int := (List.range (pw K (2 * Q + 1))).map fun i => T.getD (numW K ([0] ++ digs K (2 * Q + 1) i ++ [0])) 0
theorem narrT_length (K Q : Nat) (T : List Int) : (narrT K Q T).length = pw K (2 * Q + 1) := by simp [narrT]
theorem narrT_ok {K Q : Nat} {T : List Int} (h : RuleOk K (Q + 1) T) : RuleOk K Q (narrT K Q T) :=
  ⟨h.k1, h.k4, by have := h.r3; omega, narrT_length .., fun y hy => by
    obtain ⟨i, _, rfl⟩ := List.mem_map.1 hy
    exact h.syms.getD (by have := h.k1; omega) _⟩
theorem narrT_wide {K Q : Nat} {N : List Int} (h : RuleOk K Q N) : narrT K Q (wideT K Q 1 N) = N := by
  have hK := h.k1
  refine tab_ext (by rw [narrT_length, h.len]) fun t ht => ?_
  rw [narrT_length] at ht
  have hs : Syms K ([0] ++ digs K (2 * Q + 1) t ++ [0]) := by
    intro y hy
    rcases List.mem_append.1 hy with hy | hy
    · rcases List.mem_append.1 hy with hy | hy
      · rw [List.mem_singleton] at hy; subst hy; omega
      · exact digs_syms hK _ _ y hy
    · rw [List.mem_singleton] at hy; subst hy; omega
  have : (narrT K Q (wideT K Q 1 N)).getD t 0 = (wideT K Q 1 N).getD (numW K ([0] ++ digs K (2 * Q + 1) t ++ [0])) 0 := by simp [narrT, List.getD, ht]
  rw [this, wideT_at hK _ hs (by simp [digs_length]; omega)]
  have e : (([0] ++ digs K (2 * Q + 1) t ++ [0] : List Int).drop 1).take (2 * Q + 1) = digs K (2 * Q + 1) t := by
    rw [List.append_assoc, List.drop_left' (by rfl), List.take_left' (digs_length ..)]
  rw [e, numW_digs hK _ _ ht]
/-- The radius is the least. -/
def Least (K R : Nat) (T : List Int) : Prop := ∀ Q N, R = Q + 1 → RuleOk K Q N → T ≠ wideT K Q 1 N
theorem least_of {K Q : Nat} {T : List Int} (h : wideT K Q 1 (narrT K Q T) ≠ T) : Least K (Q + 1) T := fun P N e hN ht => by
  obtain rfl : Q = P := by omega
  exact h (by rw [ht, narrT_wide hN])
/-- What Narrow makes of a rule. -/
def NarrIs (K R : Nat) (T : List Int) (Q : Nat) (N : List Int) : Prop := RuleOk K Q N ∧ Least K Q N ∧ ∃ d, R = Q + d ∧ T = wideT K Q d N
theorem wideT_inj {K Q d : Nat} {N M : List Int} (h : RuleOk K Q N) (k : RuleOk K Q M) (e : wideT K Q d N = wideT K Q d M) : N = M := by
  induction d with
  | zero => rwa [wideT_zero h, wideT_zero k] at e
  | succ d ih =>
    by_cases hd : Q + d ≤ 3
    · apply ih
      rw [← wideT_wideT h.k1, ← wideT_wideT h.k1] at e
      rw [← narrT_wide (wideT_ok h hd), e, narrT_wide (wideT_ok k hd)]
    · have h1 := h.k1
      refine tab_ext (by rw [h.len, k.len]) fun t ht => ?_
      rw [h.len] at ht
      have hs : Syms K (List.replicate (d + 1) 0 ++ digs K (2 * Q + 1) t ++ List.replicate (d + 1) 0) := by
        intro y hy
        rcases List.mem_append.1 hy with hy | hy
        · rcases List.mem_append.1 hy with hy | hy
          · rw [List.eq_of_mem_replicate hy]; omega
          · exact digs_syms h1 _ _ y hy
        · rw [List.eq_of_mem_replicate hy]; omega
      have hc : ((List.replicate (d + 1) 0 ++ digs K (2 * Q + 1) t ++ List.replicate (d + 1) 0 : List Int).drop (d + 1)).take (2 * Q + 1) = digs K (2 * Q + 1) t := by
        rw [List.append_assoc, List.drop_left' (by simp), List.take_left' (digs_length ..)]
      have a := wideT_at (R := Q) (d := d + 1) (T := N) h1 _ hs (by simp [digs_length]; omega)
      have b := wideT_at (R := Q) (d := d + 1) (T := M) h1 _ hs (by simp [digs_length]; omega)
      rw [hc, numW_digs h1 _ _ ht] at a b
      rw [← a, ← b, e]
/-- It is just one. -/
theorem NarrIs.unique {K R Q P : Nat} {T N M : List Int} (h : NarrIs K R T Q N) (k : NarrIs K R T P M) : Q = P ∧ N = M := by
  obtain ⟨h1, h2, d, rfl, e⟩ := h
  obtain ⟨k1, k2, c, hc, e'⟩ := k
  have hK := h1.k1
  have key : ∀ {Q P : Nat} {N M : List Int} {d c : Nat}, RuleOk K Q N → RuleOk K P M → Least K P M → Q + d = P + c → P ≤ 3 → wideT K Q d N = wideT K P c M → ¬ Q < P := by
    intro Q P N M d c hN hM hl hdc hP he hlt
    obtain ⟨j, rfl⟩ : ∃ j, P = Q + j + 1 := ⟨P - Q - 1, by omega⟩
    obtain rfl : d = (j + 1) + c := by omega
    rw [← wideT_wideT hN.k1] at he
    have hw : wideT K Q (j + 1) N = M := wideT_inj (Q := Q + (j + 1)) (wideT_ok hN (by omega)) hM he
    refine hl (Q + j) (wideT K Q j N) rfl (wideT_ok hN (by omega)) ?_
    rw [wideT_wideT hN.k1, hw]
  have hr := h1.r3
  have hr' := k1.r3
  have n1 := key h1 k1 k2 hc hr' (e.symm.trans e')
  have n2 := key k1 h1 h2 hc.symm hr (e'.symm.trans e)
  obtain rfl : Q = P := by omega
  obtain rfl : d = c := by omega
  exact ⟨rfl, wideT_inj h1 k1 (e.symm.trans e')⟩
end Go.Proofs.YthnkdiejmclmkaaDoor

namespace Go.Proofs.YthnkdiejmclmkaaDoor
open Go.RowKit
set_option maxRecDepth 100000

end Go.Proofs.YthnkdiejmclmkaaDoor

namespace Go.Proofs.YthnkdiejmclmkaaDoor
open Go.RowKit
set_option maxRecDepth 100000

theorem LentI.setBelow {B : Nat} {w : World} {m : Value} {xs : List Int} (h : LentI B w m xs) {a : Addr} (ha : a.block < B) (u : Value) : LentI B (w.setCell a u) m xs := by
  obtain ⟨v, e, ho⟩ := h
  exact ⟨v, e, ho.setBelowBase ha u⟩
theorem LentI.mono {B B' : Nat} {w : World} {m : Value} {xs : List Int} (h : LentI B w m xs) (hB : B' ≤ B) : LentI B' w m xs := by
  obtain ⟨v, e, ho⟩ := h
  exact ⟨v, e, ho.mono hB⟩

end Go.Proofs.YthnkdiejmclmkaaDoor

namespace Go.Proofs.YthnkdiejmclmkaaDoor
open Go.RowKit
set_option maxRecDepth 100000

/-- Three cells of a box are stored. -/
abbrev st3 (w : World) (b : Nat) (x y z : Value) : World := ((w.setCell ⟨b, 0, none⟩ x).setCell ⟨b, 1, none⟩ y).setCell ⟨b, 2, none⟩ z

theorem st3_size (w : World) (b : Nat) (x y z : Value) : (st3 w b x y z).heap.size = w.heap.size := by simp [st3, World.setCell]

theorem cell_far {w : World} {b i : Nat} {a : Addr} (h : a.block ≠ b) (u : Value) : (w.setCell ⟨b, i, none⟩ u).cell? a = w.cell? a :=
  World.cell?_setCell_other _ _ _ _ (by intro e; rw [← e] at h; exact h rfl)

theorem ErrAt.set {r : Nat → Addr} {w : World} {n : Int} {b i : Nat} (hs : ∀ s, w.cell? ⟨b, 0, none⟩ ≠ some (.string s)) (u : Value) :
    ∀ {l : List (ByteArray × Int)} {v : Value}, ErrAt r w n l v → ErrAt r (w.setCell ⟨b, i, none⟩ u) n l v
  | [], _, h => h
  | (op, at_) :: rest, v, ⟨p, u', e, c0, c1, c2, h⟩ => by
    have hp : p ≠ b := by rintro rfl; exact hs _ c0
    exact ⟨p, u', e, by rw [cell_far hp]; exact c0, by rw [cell_far hp]; exact c1, by rw [cell_far hp]; exact c2, ErrAt.set hs u h⟩
theorem ErrIs.set {r : Nat → Addr} {w : World} {t : PErr} {v : Value} {b i : Nat} (h : ErrIs r w t v) (hs : ∀ s, w.cell? ⟨b, 0, none⟩ ≠ some (.string s)) (u : Value) : ErrIs r (w.setCell ⟨b, i, none⟩ u) t v := by
  match t, h with
  | none, h => exact h
  | some (n, l), h => exact ErrAt.set hs u h

theorem Box3.st3 {w : World} {b : Nat} {x0 x1 x2 : Value} (h : Box3 w b x0 x1 x2) (x y z : Value) : Box3 (st3 w b x y z) b x y z := by
  obtain ⟨⟨h0, h1, h2⟩, f0, f1, f2⟩ := h
  have e0 : (w.cell? ⟨b, 0, none⟩).isSome = true := by rw [h0]; rfl
  have e1 : (w.cell? ⟨b, 1, none⟩).isSome = true := by rw [h1]; rfl
  have e2 : (w.cell? ⟨b, 2, none⟩).isSome = true := by rw [h2]; rfl
  have n10 : (⟨b, 1, none⟩ : Addr) ≠ ⟨b, 0, none⟩ := by simp
  have n20 : (⟨b, 2, none⟩ : Addr) ≠ ⟨b, 0, none⟩ := by simp
  have n21 : (⟨b, 2, none⟩ : Addr) ≠ ⟨b, 1, none⟩ := by simp
  refine ⟨⟨?_, ?_, ?_⟩, ?_, ?_, ?_⟩
  · rw [World.cell?_setCell_other _ _ _ _ n20, World.cell?_setCell_other _ _ _ _ n10, World.cell?_setCell_same' _ _ _ e0]
  · rw [World.cell?_setCell_other _ _ _ _ n21]
    exact World.cell?_setCell_same' _ _ _ (by rw [World.cell?_setCell_other _ _ _ _ n10.symm]; exact e1)
  · exact World.cell?_setCell_same' _ _ _ (by rw [World.cell?_setCell_other _ _ _ _ n21.symm, World.cell?_setCell_other _ _ _ _ n20.symm]; exact e2)
  all_goals simpa [Go.Proofs.YthnkdiejmclmkaaDoor.st3, go_sem]

theorem Box3.st3_far {w : World} {b b' : Nat} {x0 x1 x2 : Value} (h : Box3 w b x0 x1 x2) (hne : b' ≠ b) (x y z : Value) : Box3 (Go.Proofs.YthnkdiejmclmkaaDoor.st3 w b' x y z) b x0 x1 x2 :=
  ((h.far hne 0 x).far hne 1 y).far hne 2 z

theorem ErrIs.st3 {r : Nat → Addr} {w : World} {t : PErr} {v : Value} {b : Nat} {x0 x1 x2 : Value} (h : ErrIs r w t v) (hb : Box3 w b x0 x1 x2) (h0 : ∀ s, x0 ≠ .string s) (x y z : Value) (hx : ∀ s, x ≠ .string s) : ErrIs r (Go.Proofs.YthnkdiejmclmkaaDoor.st3 w b x y z) t v := by
  obtain ⟨⟨k0, k1, k2⟩, -, -, -⟩ := hb
  have a1 : ∀ s, (w.setCell ⟨b, 0, none⟩ x).cell? ⟨b, 0, none⟩ ≠ some (.string s) := fun s e => by
    rw [World.cell?_setCell_same' _ _ _ (by rw [k0]; rfl)] at e
    exact hx s (Option.some.inj e)
  have a2 : ∀ s, ((w.setCell ⟨b, 0, none⟩ x).setCell ⟨b, 1, none⟩ y).cell? ⟨b, 0, none⟩ ≠ some (.string s) := fun s e => by
    rw [World.cell?_setCell_other _ _ _ _ (by simp)] at e
    exact a1 s e
  exact ((h.set (i := 0) (fun s e => h0 s (Option.some.inj (k0.symm.trans e))) x).set (i := 1) a1 y).set (i := 2) a2 z

theorem below_st3 {B b : Nat} {w0 w : World} (h : Below B w0 w) (hb : B ≤ b) (x y z : Value) : Below B w0 (Go.Proofs.YthnkdiejmclmkaaDoor.st3 w b x y z) := below_set3 h hb x y z
theorem Glob.st3 {r : Nat → Addr} {w0 w : World} (h : Glob r w0) (hb : Below w0.heap.size w0 w) {b : Nat} (hB : w0.heap.size ≤ b) (x y z : Value) : Glob r (Go.Proofs.YthnkdiejmclmkaaDoor.st3 w b x y z) := h.below (below_st3 hb hB x y z)
end Go.Proofs.YthnkdiejmclmkaaDoor

namespace Go.Proofs.YthnkdiejmclmkaaDoor

/-- D tells how far it is from s. -/
def FarOf (n : Nat) (adj : Nat → List Nat) (s : Nat) (D : Nat → Int) : Prop :=
  ∀ t, t < n → (D t = -1 ∧ ¬ Goes adj s t) ∨ ∃ w, Way adj s t w ∧ (w.length : Int) = D t + 1 ∧ ∀ u, Way adj s t u → w.length ≤ u.length
/-- D tells how far it is to s. -/
def ToOf (n : Nat) (adj : Nat → List Nat) (s : Nat) (D : Nat → Int) : Prop :=
  ∀ t, t < n → (D t = -1 ∧ ¬ Goes adj t s) ∨ ∃ w, Way adj t s w ∧ (w.length : Int) = D t + 1 ∧ ∀ u, Way adj t s u → w.length ≤ u.length
theorem ToOf.low {n : Nat} {adj : Nat → List Nat} {s : Nat} {D : Nat → Int} (h : ToOf n adj s D) {t : Nat} (ht : t < n) : -1 ≤ D t := by
  rcases h t ht with ⟨h1, _⟩ | ⟨w, h1, h2, _⟩
  · omega
  · have := h1.pos; omega
theorem ToOf.pos {n : Nat} {adj : Nat → List Nat} {s : Nat} {D : Nat → Int} (h : ToOf n adj s D) {t : Nat} (ht : t < n) : 0 ≤ D t ↔ Goes adj t s := by
  rcases h t ht with ⟨h1, h2⟩ | ⟨w, h1, h2, _⟩
  · exact ⟨fun q => by omega, fun q => absurd q h2⟩
  · exact ⟨fun _ => h1.goes, fun _ => by have := h1.pos; omega⟩
theorem ToOf.le {n : Nat} {adj : Nat → List Nat} {s : Nat} {D : Nat → Int} (h : ToOf n adj s D) {t : Nat} (ht : t < n) {u : List Nat} (hu : Way adj t s u) : 0 ≤ D t ∧ D t + 1 ≤ u.length := by
  rcases h t ht with ⟨_, h2⟩ | ⟨w, h1, h2, h3⟩
  · exact absurd hu.goes h2
  · have := h1.pos; have := h3 u hu; omega
theorem ToOf.first {n : Nat} {adj : Nat → List Nat} {s : Nat} {D : Nat → Int} (h : ToOf n adj s D) {t : Nat} (ht : t < n) {u : List Nat} (hu : IsFirst adj t s u) : (u.length : Int) = D t + 1 := by
  rcases h t ht with ⟨_, h2⟩ | ⟨w, h1, h2, h3⟩
  · exact absurd hu.way.goes h2
  · have := h3 u hu.way; have := hu.short w h1; omega
theorem ToOf.self {n : Nat} {adj : Nat → List Nat} {s : Nat} {D : Nat → Int} (h : ToOf n adj s D) (hs : s < n) : D s = 0 := by
  have := h.le hs (.one s)
  simp at this; omega
theorem FarOf.pos {n : Nat} {adj : Nat → List Nat} {s : Nat} {D : Nat → Int} (h : FarOf n adj s D) {t : Nat} (ht : t < n) : 0 ≤ D t ↔ Goes adj s t := by
  rcases h t ht with ⟨h1, h2⟩ | ⟨w, h1, h2, _⟩
  · exact ⟨fun q => by omega, fun q => absurd q h2⟩
  · exact ⟨fun _ => h1.goes, fun _ => by have := h1.pos; omega⟩

/-- Breadth first, how far only. -/
structure FBase (adj : Nat → List Nat) (s : Nat) (D : Nat → Int) (q : List Nat) (b i : Nat) : Prop where
  hd : q[0]? = some s
  nodup : q.Nodup
  there : ∀ x, 0 ≤ D x ↔ x ∈ q
  low : ∀ x, -1 ≤ D x
  d0 : D s = 0
  sound : ∀ x ∈ q, ∃ w, Way adj s x w ∧ (w.length : Int) = D x + 1
  par : ∀ x ∈ q, x = s ∨ ∃ p y, p < b ∧ q[p]? = some y ∧ D x = D y + 1
  mono : ∀ (j k x y : Nat), j ≤ k → q[j]? = some x → q[k]? = some y → D x ≤ D y
  closed : ∀ p x, p < i → q[p]? = some x → ∀ t ∈ adj x, 0 ≤ D t ∧ D t ≤ D x + 1
structure FIn (adj : Nat → List Nat) (s : Nat) (D : Nat → Int) (q : List Nat) (i v : Nat) (l : List Nat) : Prop where
  base : FBase adj s D q (i + 1) i
  cur : q[i]? = some v
  sub : ∀ t ∈ l, t ∈ adj v
  seen : ∀ t ∈ adj v, t ∈ l ∨ (0 ≤ D t ∧ D t ≤ D v + 1)
section
variable {adj : Nat → List Nat} {s : Nat} {D : Nat → Int} {q : List Nat} {i v b : Nat} {l : List Nat}
theorem FBase.init (adj : Nat → List Nat) (s : Nat) : FBase adj s (updN (fun _ => (-1 : Int)) s 0) [s] 0 0 := by
  have hg : ∀ j x, [s][j]? = some x → j = 0 ∧ x = s := fun j x hx => by
    cases j with
    | zero => simp at hx; exact ⟨rfl, hx.symm⟩
    | succ j => simp at hx
  refine ⟨rfl, by simp, fun x => ?_, fun x => ?_, updN_same _ _ _, fun x hx => ?_, fun x hx => ?_, fun j k x y _ hx hy => ?_, fun p x hp => by omega⟩
  · by_cases e : x = s
    · subst e; rw [updN_same]; simp
    · rw [updN_other _ _ _ e]; simp [e]
  · by_cases e : x = s
    · subst e; rw [updN_same]; omega
    · rw [updN_other _ _ _ e]; omega
  · cases List.mem_singleton.1 hx; exact ⟨_, .one _, by rw [updN_same]; simp⟩
  · exact .inl (List.mem_singleton.1 hx)
  · rw [(hg j x hx).2, (hg k y hy).2]; exact Int.le_refl _
theorem FBase.enter (h : FBase adj s D q i i) (hv : q[i]? = some v) : FIn adj s D q i v (adj v) :=
  ⟨⟨h.hd, h.nodup, h.there, h.low, h.d0, h.sound, fun x hx => (h.par x hx).imp id (fun ⟨p, y, h1, h2⟩ => ⟨p, y, by omega, h2⟩), h.mono, h.closed⟩, hv, fun t ht => ht, fun t ht => .inl ht⟩
theorem FIn.leave (h : FIn adj s D q i v []) : FBase adj s D q (i + 1) (i + 1) := by
  refine ⟨h.base.hd, h.base.nodup, h.base.there, h.base.low, h.base.d0, h.base.sound, h.base.par, h.base.mono, fun p x hp hx t ht => ?_⟩
  by_cases e : p = i
  · subst e
    rw [h.cur] at hx; cases hx
    exact (h.seen t ht).resolve_left (by simp)
  · exact h.base.closed p x (by omega) hx t ht
theorem FIn.top (h : FIn adj s D q i v l) : ∀ x ∈ q, D x ≤ D v + 1 := by
  intro x hx
  have hv0 := (h.base.there v).2 (List.mem_of_getElem? h.cur)
  rcases h.base.par x hx with rfl | ⟨p, y, h1, h2, h3⟩
  · have := h.base.d0; omega
  · have := h.base.mono p i y v (by omega) h2 h.cur; omega
theorem FIn.old {t : Nat} (h : FIn adj s D q i v (t :: l)) (ht : 0 ≤ D t) : FIn adj s D q i v l := by
  refine ⟨h.base, h.cur, fun x hx => h.sub x (List.mem_cons_of_mem _ hx), fun x hx => ?_⟩
  rcases h.seen x hx with q1 | q1
  · rcases List.mem_cons.1 q1 with e | e
    · subst e; exact .inr ⟨ht, h.top x ((h.base.there x).1 ht)⟩
    · exact .inl e
  · exact .inr q1
theorem FIn.add {t : Nat} (h : FIn adj s D q i v (t :: l)) (ht : D t < 0) : FIn adj s (updN D t (D v + 1)) (q ++ [t]) i v l := by
  have hB := h.base
  have htq : t ∉ q := fun hm => by have := (hB.there t).2 hm; omega
  have hil := get_of h.cur
  have hvq := List.mem_of_getElem? h.cur
  have hv0 := (hB.there v).2 hvq
  have hga : ∀ j x, (q ++ [t])[j]? = some x → q[j]? = some x ∧ j < q.length ∧ x ≠ t ∨ j = q.length ∧ x = t := fun j x hx => by
    by_cases e : j < q.length
    · rw [List.getElem?_append_left e] at hx
      exact .inl ⟨hx, e, fun e2 => htq (by rw [← e2]; exact List.mem_of_getElem? hx)⟩
    · rw [List.getElem?_append_right (by omega)] at hx
      by_cases e2 : j = q.length
      · rw [e2] at hx; simp at hx; exact .inr ⟨e2, hx.symm⟩
      · rw [List.getElem?_eq_none (by simp; omega)] at hx; cases hx
  have hgo : ∀ {j x}, q[j]? = some x → (q ++ [t])[j]? = some x := fun {j x} hx => by rw [List.getElem?_append_left (get_of hx)]; exact hx
  have hne : ∀ x, x ∈ q → x ≠ t := fun x hx e => htq (by rw [← e]; exact hx)
  have dq : ∀ x, x ∈ q → updN D t (D v + 1) x = D x := fun x hx => updN_other _ _ _ (hne x hx)
  have hsq : s ∈ q := List.mem_of_getElem? hB.hd
  have htop := h.top
  refine ⟨⟨hgo hB.hd, ?_, fun x => ?_, fun x => ?_, ?_, fun x hx => ?_, fun x hx => ?_, fun j k x y hjk hx hy => ?_, fun p x hp hx t' ht' => ?_⟩, hgo h.cur, fun x hx => h.sub x (List.mem_cons_of_mem _ hx), fun x hx => ?_⟩
  · exact List.nodup_append.2 ⟨hB.nodup, by simp, fun x hx y hy => by cases List.mem_singleton.1 hy; exact hne x hx⟩
  · by_cases e : x = t
    · subst e; rw [updN_same]; simp; omega
    · rw [updN_other _ _ _ e, hB.there]; simp [e]
  · by_cases e : x = t
    · subst e; rw [updN_same]; omega
    · rw [updN_other _ _ _ e]; exact hB.low x
  · rw [dq s hsq]; exact hB.d0
  · rcases List.mem_append.1 hx with hx | hx
    · rw [dq x hx]; exact hB.sound x hx
    · cases List.mem_singleton.1 hx
      obtain ⟨w, h1, h2⟩ := hB.sound v hvq
      refine ⟨w ++ [t], h1.snoc (h.sub _ List.mem_cons_self), ?_⟩
      rw [updN_same, List.length_append, List.length_singleton]; omega
  · rcases List.mem_append.1 hx with hx | hx
    · rcases hB.par x hx with e | ⟨p, y, h1, h2, h3⟩
      · exact .inl e
      · exact .inr ⟨p, y, h1, hgo h2, by rw [dq x hx, dq y (List.mem_of_getElem? h2)]; exact h3⟩
    · cases List.mem_singleton.1 hx
      exact .inr ⟨i, v, by omega, hgo h.cur, by rw [updN_same, dq v hvq]⟩
  · rcases hga k y hy with ⟨k1, k2, k3⟩ | ⟨rfl, rfl⟩
    · rcases hga j x hx with ⟨h1, h2, h3⟩ | ⟨rfl, rfl⟩
      · rw [dq x (List.mem_of_getElem? h1), dq y (List.mem_of_getElem? k1)]; exact hB.mono j k x y hjk h1 k1
      · omega
    · rcases hga j x hx with ⟨h1, h2, h3⟩ | ⟨h1, rfl⟩
      · rw [dq x (List.mem_of_getElem? h1), updN_same]; exact htop x (List.mem_of_getElem? h1)
      · exact Int.le_refl _
  · rcases hga p x hx with ⟨h1, h2, h3⟩ | ⟨h1, rfl⟩
    · have := hB.closed p x hp h1 t' ht'
      have e : t' ≠ t := fun e => by subst e; omega
      rw [updN_other _ _ _ e, dq x (List.mem_of_getElem? h1)]
      exact this
    · omega
  · by_cases e : x = t
    · subst e; right; rw [updN_same, dq v hvq]; omega
    · rcases h.seen x hx with q1 | q1
      · exact .inl ((List.mem_cons.1 q1).resolve_left e)
      · right; rw [updN_other _ _ _ e, dq v hvq]; exact q1
theorem FBase.far (h : FBase adj s D q b i) (hi : q.length ≤ i) {x y : Nat} {u : List Nat} (hu : Way adj x y u) (hx : x ∈ q) : y ∈ q ∧ D y + 1 ≤ D x + u.length := by
  induction hu with
  | one => exact ⟨hx, by simp⟩
  | @cons x t y w ht hu ih =>
    obtain ⟨j, hj⟩ := List.mem_iff_getElem?.1 hx
    have := h.closed j x (by have := get_of hj; omega) hj t ht
    have := ih ((h.there t).1 this.1)
    exact ⟨this.1, by simp only [List.length_cons]; omega⟩
theorem FBase.end_ (h : FBase adj s D q b i) (hi : q.length ≤ i) (n : Nat) : FarOf n adj s D := by
  intro t _
  by_cases ht : t ∈ q
  · obtain ⟨w, h1, h2⟩ := h.sound t ht
    refine .inr ⟨w, h1, h2, fun u hu => ?_⟩
    have := (h.far hi hu (List.mem_of_getElem? h.hd)).2
    have := h.d0
    omega
  · refine .inl ⟨?_, fun hg => ?_⟩
    · have := h.low t
      have : ¬ 0 ≤ D t := fun q => ht ((h.there t).1 q)
      omega
    · obtain ⟨u, hu⟩ := hg.way
      exact ht (h.far hi hu (List.mem_of_getElem? h.hd)).1
end

/-- Going down: the least of the neighbours that are nearer by one. -/
theorem step_first {n : Nat} {adj : Nat → List Nat} {s : Nat} {D : Nat → Int} (h : ToOf n adj s D) (hlt : ∀ v, v < n → ∀ t ∈ adj v, t < n) {v best : Nat} (hv : v < n)
    (hb : best ∈ adj v) (hd : D best = D v - 1) (h0 : 0 ≤ D best) (hm : ∀ t ∈ adj v, D t = D v - 1 → best ≤ t) {u : List Nat} (hu : IsFirst adj best s u) : IsFirst adj v s (v :: u) := by
  have hbn := hlt v hv best hb
  have hul := h.first hbn hu
  refine ⟨.cons hb hu.way, fun x hx => ?_, fun x hx hl => ?_⟩
  · have := h.le hv hx
    simp only [List.length_cons]; omega
  · cases hx with
    | one => simp only [List.length_cons, List.length_nil] at hl; have := hu.way.pos; omega
    | @cons _ t _ x' ht hx' =>
      have htn := hlt v hv t ht
      have h1 := h.le htn hx'
      have h2 := h.le hv (.cons ht hx')
      simp only [List.length_cons] at hl h2
      have hdt : D t = D v - 1 := by
        rcases h t htn with ⟨_, q⟩ | ⟨w, w1, w2, w3⟩
        · exact absurd hx'.goes q
        · have := h.le hv (.cons ht w1)
          simp only [List.length_cons] at this
          omega
      have hbt := hm t ht hdt
      refine .inr ⟨rfl, ?_⟩
      by_cases e : best = t
      · subst e; exact hu.least x' hx' (by omega)
      · obtain ⟨_, rfl⟩ := hx'.ne
        obtain ⟨_, rfl⟩ := hu.way.ne
        exact .inl (by omega)
theorem ToOf.next {n : Nat} {adj : Nat → List Nat} {s : Nat} {D : Nat → Int} (h : ToOf n adj s D) (hlt : ∀ v, v < n → ∀ t ∈ adj v, t < n) {v : Nat} (hv : v < n) (hne : v ≠ s) (h0 : 0 ≤ D v) : 1 ≤ D v ∧ ∃ t ∈ adj v, D t = D v - 1 := by
  rcases h v hv with ⟨q, _⟩ | ⟨w, w1, w2, w3⟩
  · omega
  · cases w1 with
    | one => exact absurd rfl hne
    | @cons _ t _ w' ht hw =>
      have htn := hlt v hv t ht
      have := hw.pos
      simp only [List.length_cons] at w2 w3
      refine ⟨by omega, t, ht, ?_⟩
      rcases h t htn with ⟨_, q⟩ | ⟨x, x1, x2, x3⟩
      · exact absurd hw.goes q
      · have := x3 w' hw
        have := w3 _ (.cons ht x1)
        simp only [List.length_cons] at this
        omega
end Go.Proofs.YthnkdiejmclmkaaDoor

namespace Go.Proofs.YthnkdiejmclmkaaDoor

/-- The sum of F over the first n. -/
def sumN (F : Nat → Nat) : Nat → Nat
  | 0 => 0
  | n + 1 => sumN F n + F n
theorem sumN_congr {F F' : Nat → Nat} : ∀ {n}, (∀ v, v < n → F v = F' v) → sumN F n = sumN F' n
  | 0, _ => rfl
  | n + 1, h => by
    show sumN F n + F n = sumN F' n + F' n
    rw [sumN_congr (n := n) (fun v hv => h v (by omega)), h n (by omega)]
theorem sumN_pos {F : Nat → Nat} : ∀ {n}, 0 < sumN F n ↔ ∃ v, v < n ∧ 0 < F v
  | 0 => by simp [sumN]
  | n + 1 => by
    show 0 < sumN F n + F n ↔ _
    constructor
    · intro h
      by_cases e : 0 < sumN F n
      · obtain ⟨v, h1, h2⟩ := sumN_pos.1 e; exact ⟨v, by omega, h2⟩
      · exact ⟨n, by omega, by omega⟩
    · rintro ⟨v, h1, h2⟩
      by_cases e : v = n
      · subst e; omega
      · have := sumN_pos.2 ⟨v, show v < n by omega, h2⟩; omega
theorem sumN_upd {F F' : Nat → Nat} {v : Nat} (h : ∀ u, u ≠ v → F' u = F u) : ∀ {n}, v < n → sumN F' n + F v = sumN F n + F' v
  | 0, q => by omega
  | n + 1, q => by
    show sumN F' n + F' n + F v = sumN F n + F n + F' v
    by_cases e : v = n
    · subst e
      rw [sumN_congr (n := v) (fun u hu => h u (by omega))]; omega
    · have := sumN_upd h (n := n) (by omega)
      rw [h n (fun q => e q.symm)]; omega
theorem sumN_zero : ∀ n, sumN (fun _ => 0) n = 0
  | 0 => rfl
  | n + 1 => by show sumN _ n + 0 = 0; rw [sumN_zero n]
theorem sumN_add (F F' : Nat → Nat) : ∀ n, sumN (fun v => F v + F' v) n = sumN F n + sumN F' n
  | 0 => rfl
  | n + 1 => by show sumN _ n + (F n + F' n) = sumN F n + F n + (sumN F' n + F' n); rw [sumN_add F F' n]; omega
theorem sumN_one (x : Nat) : ∀ n, sumN (fun v => if v = x then 1 else 0) n = if x < n then 1 else 0
  | 0 => rfl
  | n + 1 => by
    show sumN _ n + (if n = x then 1 else 0) = _
    rw [sumN_one x n]
    by_cases e : n = x
    · subst e; simp
    · rw [if_neg e]
      by_cases q : x < n
      · rw [if_pos q, if_pos (by omega)]
      · rw [if_neg q, if_neg (by omega)]
/-- A list of numbers below n: its length, counted number by number. -/
theorem length_counts (n : Nat) : ∀ (l : List Nat), (∀ x ∈ l, x < n) → l.length = sumN (fun v => l.count v) n
  | [], _ => by simp [sumN_zero]
  | x :: l, h => by
    have ih := length_counts n l (fun y hy => h y (List.mem_cons_of_mem _ hy))
    have e : (fun v => (x :: l).count v) = fun v => l.count v + if v = x then 1 else 0 := by
      funext v
      rw [List.count_cons]
      by_cases q : x = v
      · simp [q]
      · rw [if_neg (by simpa using q), if_neg (fun r => q r.symm)]
    rw [e, sumN_add, sumN_one, if_pos (h x List.mem_cons_self), ← ih, List.length_cons]

/-- inn tells how many arrows lead to t, of those not gone through: the first c v of v's are. -/
def Deg (n : Nat) (A : Nat → List Nat) (c inn : Nat → Nat) : Prop := ∀ t, t < n → inn t = sumN (fun v => ((A v).drop (c v)).count t) n
theorem Deg.init {n : Nat} {A B : Nat → List Nat} (hB : ∀ t, t < n → ∀ x ∈ B t, x < n) (hc : ∀ v t, v < n → t < n → (B t).count v = (A v).count t) : Deg n A (fun _ => 0) (fun t => (B t).length) := by
  intro t ht
  show (B t).length = _
  rw [length_counts n _ (hB t ht)]
  exact sumN_congr fun v hv => by rw [hc v t hv ht, List.drop_zero]
theorem Deg.step {n : Nat} {A : Nat → List Nat} {c inn : Nat → Nat} {v j t : Nat} (h : Deg n A c inn) (hv : v < n) (hj : c v = j) (ht : (A v)[j]? = some t) (htn : t < n) :
    0 < inn t ∧ Deg n A (updN c v (j + 1)) (updN inn t (inn t - 1)) := by
  have hjl : j < (A v).length := get_of ht
  have hd : (A v).drop j = t :: (A v).drop (j + 1) := by
    rw [List.drop_eq_getElem_cons hjl]
    rw [List.getElem?_eq_getElem hjl] at ht; injection ht with ht; rw [ht]
  have key : ∀ x, sumN (fun u => ((A u).drop (updN c v (j + 1) u)).count x) n + (if x = t then 1 else 0) = sumN (fun u => ((A u).drop (c u)).count x) n := by
    intro x
    have := sumN_upd (F := fun u => ((A u).drop (c u)).count x) (F' := fun u => ((A u).drop (updN c v (j + 1) u)).count x) (v := v) (fun u hu => by simp only [updN_other _ _ _ hu]) hv
    simp only [updN_same, hj, hd, List.count_cons] at this
    by_cases e : x = t
    · subst e; rw [if_pos rfl]; simp at this; omega
    · rw [if_neg e]
      have e2 : (t == x) = false := by simpa using fun q => e q.symm
      rw [e2] at this; simp at this; omega
  have h1 := key t
  rw [if_pos rfl, ← h t htn] at h1
  refine ⟨by omega, fun x hx => ?_⟩
  have h2 := key x
  by_cases e : x = t
  · subst e; rw [updN_same]; omega
  · rw [updN_other _ _ _ e, h x hx]; rw [if_neg e] at h2; omega

/-- The peeling: what has gone stands in the queue; the first i of it have been gone through, and of the next the first j and k arrows. -/
structure Peel (n : Nat) (A B : Nat → List Nat) (inn out : Nat → Nat) (c d : Nat → Nat) (gone : Nat → Bool) (q : List Nat) (lives : Nat → Prop) : Prop where
  deg1 : Deg n A c inn
  deg2 : Deg n B d out
  nodup : q.Nodup
  goneq : ∀ x, gone x = true ↔ x ∈ q
  low : ∀ x ∈ q, x < n
  fresh : ∀ v, v ∉ q → c v = 0 ∧ d v = 0
  keep : ∀ t, t < n → lives t → gone t = false
/-- A live vertex has live neighbours on both sides. -/
structure LiveSet (n : Nat) (A B : Nat → List Nat) (lives : Nat → Prop) : Prop where
  behind : ∀ t, t < n → lives t → ∃ p, p < n ∧ lives p ∧ t ∈ A p
  ahead : ∀ t, t < n → lives t → ∃ p, p < n ∧ lives p ∧ t ∈ B p
section
variable {n : Nat} {A B : Nat → List Nat} {inn out c d : Nat → Nat} {gone : Nat → Bool} {q : List Nat} {lives : Nat → Prop}
theorem Peel.live_in (h : Peel n A B inn out c d gone q lives) (hL : LiveSet n A B lives) {t : Nat} (ht : t < n) (hl : lives t) : 0 < inn t ∧ 0 < out t := by
  have aux : ∀ p, p < n → lives p → c p = 0 ∧ d p = 0 := fun p hp hlp => h.fresh p (fun q => by have := (h.goneq p).2 q; rw [h.keep p hp hlp] at this; cases this)
  refine ⟨?_, ?_⟩
  · obtain ⟨p, hp, hlp, hm⟩ := hL.behind t ht hl
    rw [h.deg1 t ht]
    refine sumN_pos.2 ⟨p, hp, ?_⟩
    rw [(aux p hp hlp).1, List.drop_zero]
    exact List.count_pos_iff.2 hm
  · obtain ⟨p, hp, hlp, hm⟩ := hL.ahead t ht hl
    rw [h.deg2 t ht]
    refine sumN_pos.2 ⟨p, hp, ?_⟩
    rw [(aux p hp hlp).2, List.drop_zero]
    exact List.count_pos_iff.2 hm
/-- A vertex goes. -/
theorem Peel.goes (h : Peel n A B inn out c d gone q lives) (hL : LiveSet n A B lives) {t : Nat} (ht : t < n) (hg : gone t = false) (h0 : inn t = 0 ∨ out t = 0) : Peel n A B inn out c d (updN gone t true) (q ++ [t]) lives := by
  have htq : t ∉ q := fun r => by have := (h.goneq t).2 r; rw [hg] at this; cases this
  refine ⟨h.deg1, h.deg2, ?_, fun x => ?_, fun x hx => ?_, fun v hv => h.fresh v (fun r => hv (List.mem_append_left _ r)), fun x hx hl => ?_⟩
  · exact List.nodup_append.2 ⟨h.nodup, by simp, fun x hx y hy e => by cases List.mem_singleton.1 hy; subst e; exact htq hx⟩
  · by_cases e : x = t
    · subst e; rw [updN_same]; simp
    · rw [updN_other _ _ _ e, h.goneq]; simp [e]
  · rcases List.mem_append.1 hx with hx | hx
    · exact h.low x hx
    · cases List.mem_singleton.1 hx; exact ht
  · by_cases e : x = t
    · subst e
      have := h.live_in hL hx hl; omega
    · rw [updN_other _ _ _ e]; exact h.keep x hx hl
/-- An arrow of a vertex that has gone. -/
theorem Peel.arrow1 (h : Peel n A B inn out c d gone q lives) {v j t : Nat} (hv : v ∈ q) (hj : c v = j) (ht : (A v)[j]? = some t) (htn : t < n) :
    0 < inn t ∧ Peel n A B (updN inn t (inn t - 1)) out (updN c v (j + 1)) d gone q lives := by
  obtain ⟨h1, h2⟩ := h.deg1.step (h.low v hv) hj ht htn
  exact ⟨h1, h2, h.deg2, h.nodup, h.goneq, h.low, fun u hu => by
    have e : u ≠ v := fun e => hu (by rw [e]; exact hv)
    rw [updN_other _ _ _ e]; exact h.fresh u hu, h.keep⟩
theorem Peel.arrow2 (h : Peel n A B inn out c d gone q lives) {v j t : Nat} (hv : v ∈ q) (hj : d v = j) (ht : (B v)[j]? = some t) (htn : t < n) :
    0 < out t ∧ Peel n A B inn (updN out t (out t - 1)) c (updN d v (j + 1)) gone q lives := by
  obtain ⟨h1, h2⟩ := h.deg2.step (h.low v hv) hj ht htn
  exact ⟨h1, h.deg1, h2, h.nodup, h.goneq, h.low, fun u hu => by
    have e : u ≠ v := fun e => hu (by rw [e]; exact hv)
    rw [updN_other _ _ _ e]; exact h.fresh u hu, h.keep⟩
/-- At the end each vertex that is left has neighbours that are left, on both sides. -/
theorem Peel.left (h : Peel n A B inn out c d gone q lives) (hall : ∀ v ∈ q, c v = (A v).length ∧ d v = (B v).length) (hpos : ∀ t, t < n → gone t = false → 0 < inn t ∧ 0 < out t) {t : Nat} (ht : t < n) (hg : gone t = false) :
    (∃ p, p < n ∧ gone p = false ∧ t ∈ A p) ∧ ∃ p, p < n ∧ gone p = false ∧ t ∈ B p := by
  obtain ⟨h1, h2⟩ := hpos t ht hg
  rw [h.deg1 t ht] at h1
  rw [h.deg2 t ht] at h2
  obtain ⟨p, hp, hc⟩ := sumN_pos.1 h1
  obtain ⟨p2, hp2, hc2⟩ := sumN_pos.1 h2
  refine ⟨⟨p, hp, ?_, List.mem_of_mem_drop (List.count_pos_iff.1 hc)⟩, ⟨p2, hp2, ?_, List.mem_of_mem_drop (List.count_pos_iff.1 hc2)⟩⟩
  · cases hgp : gone p with
    | false => rfl
    | true => rw [(hall p ((h.goneq p).1 hgp)).1, List.drop_length] at hc; simp at hc
  · cases hgp : gone p2 with
    | false => rfl
    | true => rw [(hall p2 ((h.goneq p2).1 hgp)).2, List.drop_length] at hc2; simp at hc2
end
/-- From a set that one never has to leave, a loop can be reached. -/
theorem set_loop {n : Nat} {A : Nat → List Nat} {S : Nat → Prop} (hS : ∀ x, S x → x < n) (hs : ∀ x, S x → ∃ t ∈ A x, S t) {x : Nat} (hx : S x) : ∃ u, u < n ∧ (∃ t ∈ A u, Goes A t u) ∧ Goes A x u := by
  apply Classical.byContradiction
  intro hno
  have key : ∀ k, ∃ w y, Way A x y w ∧ w.length = k + 1 ∧ w.Nodup ∧ (∀ z ∈ w, S z) ∧ S y := by
    intro k
    induction k with
    | zero => exact ⟨[x], x, .one x, rfl, by simp, fun z hz => by cases List.mem_singleton.1 hz; exact hx, hx⟩
    | succ k ih =>
      obtain ⟨w, y, h1, h2, h3, h4, h5⟩ := ih
      obtain ⟨t, ht, hst⟩ := hs y h5
      have htw : t ∉ w := fun hm => by
        obtain ⟨u, hu, _⟩ := h1.mem t hm
        exact hno ⟨y, hS y h5, ⟨t, ht, hu.goes⟩, h1.goes⟩
      refine ⟨w ++ [t], t, h1.snoc ht, by simp [h2], List.nodup_append.2 ⟨h3, by simp, fun a ha b hb e => by cases List.mem_singleton.1 hb; subst e; exact htw ha⟩, fun z hz => ?_, hst⟩
      rcases List.mem_append.1 hz with hz | hz
      · exact h4 z hz
      · cases List.mem_singleton.1 hz; exact hst
  obtain ⟨w, y, h1, h2, h3, h4, _⟩ := key n
  have hl : ∀ (n : Nat) (l : List Nat), l.Nodup → (∀ x ∈ l, x < n) → l.length ≤ n := by
    intro n
    induction n with
    | zero => intro l _ h; cases l with
      | nil => simp
      | cons a l => exact absurd (h a List.mem_cons_self) (by omega)
    | succ n ih =>
      intro l hl h
      have h1 := ih (l.erase n) (hl.erase n) (fun x hx => by
        have := h x (List.mem_of_mem_erase hx)
        have : x ≠ n := fun e => by subst e; exact (List.Nodup.not_mem_erase hl) hx
        omega)
      have := List.length_erase (a := n) (l := l)
      split at this <;> omega
  have := hl n w h3 (fun z hz => hS z (h4 z hz))
  omega
end Go.Proofs.YthnkdiejmclmkaaDoor

namespace Go.Proofs.YthnkdiejmclmkaaDoor
open Go.RowKit
set_option maxRecDepth 100000

/-- How often what is told stands there. -/
def CntTo (G : List (List Int)) (k j : Nat) (F : Nat → List Int) : Prop :=
  ∀ t, t < G.length → ∀ v : Nat, (F t).count (v : Int) = if v < k then (G.getD v []).count (t : Int) else if v = k then ((G.getD k []).take j).count (t : Int) else 0
theorem CntTo.zero (G : List (List Int)) : CntTo G 0 0 (fun _ => []) := by
  intro t _ v
  rw [if_neg (by omega)]
  split <;> simp
theorem CntTo.next {G : List (List Int)} {k : Nat} {F : Nat → List Int} (h : CntTo G k (G.getD k []).length F) : CntTo G (k + 1) 0 F := by
  intro t ht v
  rw [h t ht v, List.take_length]
  by_cases e : v < k
  · rw [if_pos e, if_pos (by omega)]
  · rw [if_neg e]
    by_cases e2 : v = k
    · subst e2; rw [if_pos rfl, if_pos (by omega)]
    · rw [if_neg e2, if_neg (by omega)]
      split <;> simp
theorem CntTo.add {G : List (List Int)} {k j u : Nat} {F : Nat → List Int} (h : CntTo G k j F) (hj : (G.getD k [])[j]? = some (u : Int)) : CntTo G k (j + 1) (updN F u (F u ++ [(k : Int)])) := by
  have htk : (G.getD k []).take (j + 1) = (G.getD k []).take j ++ [(u : Int)] := by
    rw [List.take_add_one, hj]; rfl
  intro t ht v
  have h1 := h t ht v
  rw [htk, List.count_append]
  by_cases e : t = u
  · subst e
    rw [updN_same, List.count_append, h1]
    by_cases e1 : v < k
    · rw [if_pos e1, if_pos e1]
      have : ([(k : Int)] : List Int).count (v : Int) = 0 := by
        rw [List.count_eq_zero]; simp; omega
      omega
    · rw [if_neg e1, if_neg e1]
      by_cases e2 : v = k
      · subst e2; rw [if_pos rfl, if_pos rfl]; simp
      · rw [if_neg e2, if_neg e2]
        rw [Nat.zero_add, List.count_eq_zero]; simp; omega
  · rw [updN_other _ _ _ e, h1]
    have : ([(u : Int)] : List Int).count (t : Int) = 0 := by
      rw [List.count_eq_zero]; simp; omega
    rw [this, Nat.add_zero]
/-- Turned, with how often. -/
structure TurnedX (G H : List (List Int)) : Prop where
  t : TurnedOf G H
  cnt : ∀ t v, t < G.length → v < G.length → (adjOf H t).count v = (adjOf G v).count t
theorem count_toNat : ∀ (l : List Int) (x : Nat), (∀ y ∈ l, 0 ≤ y) → (l.map Int.toNat).count x = l.count (x : Int)
  | [], _, _ => rfl
  | a :: l, x, h => by
    rw [List.map_cons, List.count_cons, List.count_cons, count_toNat l x (fun y hy => h y (List.mem_cons_of_mem _ hy))]
    have ha := h a List.mem_cons_self
    by_cases e : a = (x : Int)
    · subst e; simp
    · have : ¬ a.toNat = x := by omega
      simp [e, this]
theorem TurnedX.of {G : List (List Int)} {F : Nat → List Int} (hok : GraphOk G) (h : BackTo G G.length 0 F) (hc : CntTo G G.length 0 F) : TurnedX G (rowsOf G.length F) := by
  have hT := h.turned
  refine ⟨hT, fun t v ht hv => ?_⟩
  unfold adjOf
  rw [rowsOf_get _ _ _ ht, count_toNat, count_toNat, hc t ht v, if_pos hv]
  · exact fun y hy => (hok v hv y hy).1
  · intro y hy
    obtain ⟨v, rfl, _⟩ := ((h t ht).2 y).1 hy
    omega

/-- Lists of which all was made from block B on. -/
def ListsFrom (B : Nat) (w : World) (v : Value) (G : List (List Int)) : Prop :=
  ∃ vs : List Value, OwnV 22 B w v vs ∧ vs.length = G.length ∧ ∀ i, i < G.length → OwnI B w (vAt vs i) (G.getD i [])
theorem ListsFrom.at {B : Nat} {w : World} {v : Value} {G : List (List Int)} (h : ListsFrom B w v G) : ListsAt w v G := by
  obtain ⟨vs, h1, h2, h3⟩ := h
  exact ⟨vs, h1.at, h2, fun i hi => (h3 i hi).at⟩
theorem ListsFrom.below {B : Nat} {w w' : World} {v : Value} {G : List (List Int)} (h : ListsFrom B w v G) (hb : Below w.heap.size w w') : ListsFrom B w' v G := by
  obtain ⟨vs, h1, h2, h3⟩ := h
  exact ⟨vs, h1.below hb, h2, fun i hi => (h3 i hi).below hb⟩
theorem ListsFrom.set {B : Nat} {w : World} {v : Value} {G : List (List Int)} (h : ListsFrom B w v G) {a : Addr} (ha : a.block < B) (u : Value) : ListsFrom B (w.setCell a u) v G := by
  obtain ⟨vs, h1, h2, h3⟩ := h
  exact ⟨vs, OwnV.setBelowBase h1 ha u, h2, fun i hi => OwnV.toI (OwnV.setBelowBase (h3 i hi).toV ha u)⟩
theorem WN.from {B : Nat} {w : World} {f : Names} {ov : Value} {vals : List Value} {n : Nat} {F : Nat → List Int} (h : WN f ov vals n F) (hr : Rows B w f) : ListsFrom B w ov (rowsOf n F) :=
  ⟨vals, hr.ownV h.outer, by rw [h.len, rowsOf_len], fun i hi => by
    rw [rowsOf_len] at hi
    rw [rowsOf_get n F i hi]
    exact hr.ownI (h.rows i hi)⟩

end Go.Proofs.YthnkdiejmclmkaaDoor

namespace Go.Proofs.YthnkdiejmclmkaaDoor
open Go.RowKit
set_option maxRecDepth 100000

theorem run_makeN (n : Nat) (w : World) (hn : n ≤ 10000) :
    ∃ v w', (Instr.makeSlice 22 (.int .i64 n) (.int .i64 n)).run Tryd.prog w = .ok v w' ∧ OwnI w.heap.size w' v (List.replicate n 0) ∧ Below w.heap.size w w' := by
  obtain ⟨v, w', h1, h2, h3⟩ := run_makeW oneInts (n : Int) n w rfl (by omega)
  exact ⟨v, w', h1, OwnV.toI (by rw [List.map_replicate]; exact h2), h3⟩
theorem tabI_congr {n : Nat} {f g : Nat → Int} (h : ∀ t, t < n → f t = g t) : tabI n f = tabI n g := by
  unfold tabI
  exact List.map_congr_left fun t ht => h t (List.mem_range.1 ht)
theorem tabI_zero (n : Nat) : tabI n (fun _ => 0) = List.replicate n 0 := by
  unfold tabI; apply List.ext_getElem <;> simp
/-- The first i are -1. -/
def negTo (i t : Nat) : Int := if t < i then -1 else 0
theorem negTo_next (i : Nat) : updN (negTo i) i (-1) = negTo (i + 1) := by
  funext t
  unfold negTo
  by_cases e : t = i
  · subst e; rw [updN_same, if_pos (by omega)]
  · rw [updN_other _ _ _ e]
    by_cases q : t < i
    · rw [if_pos q, if_pos (by omega)]
    · rw [if_neg q, if_neg (by omega)]
theorem negTo_zero (n : Nat) : tabI n (negTo 0) = List.replicate n 0 := by
  rw [← tabI_zero]; exact tabI_congr fun t _ => by unfold negTo; rw [if_neg (by omega)]
theorem negTo_all (n : Nat) : tabI n (negTo n) = tabI n (fun _ => -1) := tabI_congr fun t ht => by unfold negTo; rw [if_pos ht]

end Go.Proofs.YthnkdiejmclmkaaDoor

namespace Go.Proofs.YthnkdiejmclmkaaDoor
open Go.RowKit
set_option maxRecDepth 100000

theorem turned_way {G H : List (List Int)} (h : TurnedOf G H) (hok : GraphOk G) {x y : Nat} {w : List Nat} (hw : Way (adjOf G) x y w) (hx : x < G.length) : Way (adjOf H) y x w.reverse := by
  induction hw with
  | one => exact .one _
  | @cons x t y w ht hw ih =>
    have htn := hok.lt x hx t ht
    rw [List.reverse_cons]
    exact (ih htn).snoc ((turned_adj h hok htn).2 ⟨hx, ht⟩)
theorem way_turned {G H : List (List Int)} (h : TurnedOf G H) (hok : GraphOk G) {x y : Nat} {w : List Nat} (hw : Way (adjOf H) x y w) (hx : x < G.length) : Way (adjOf G) y x w.reverse := by
  induction hw with
  | one => exact .one _
  | @cons x t y w ht hw ih =>
    obtain ⟨htn, hxt⟩ := (turned_adj h hok hx).1 ht
    rw [List.reverse_cons]
    exact (ih htn).snoc hxt
theorem far_to {G H : List (List Int)} (h : TurnedOf G H) (hok : GraphOk G) {s : Nat} (hs : s < G.length) {D : Nat → Int} (hf : FarOf G.length (adjOf H) s D) : ToOf G.length (adjOf G) s D := by
  intro t ht
  rcases hf t ht with ⟨h1, h2⟩ | ⟨w, h1, h2, h3⟩
  · exact .inl ⟨h1, fun q => h2 (goes_turned h hok q ht)⟩
  · refine .inr ⟨w.reverse, way_turned h hok h1 hs, by simpa using h2, fun u hu => ?_⟩
    have := h3 _ (turned_way h hok hu ht)
    simpa using this

/-- The least of the first k neighbours that are nearer by one. -/
def BestTo (l : List Nat) (D : Nat → Int) (d : Int) (k : Nat) (b : Int) : Prop :=
  (b = -1 ∧ ∀ t ∈ l.take k, D t ≠ d) ∨ ∃ m : Nat, b = m ∧ m ∈ l.take k ∧ D m = d ∧ ∀ t ∈ l.take k, D t = d → m ≤ t
theorem BestTo.zero (l : List Nat) (D : Nat → Int) (d : Int) : BestTo l D d 0 (-1) := .inl ⟨rfl, fun t ht => by simp at ht⟩
theorem BestTo.low {l : List Nat} {D : Nat → Int} {d : Int} {k : Nat} {b : Int} (h : BestTo l D d k b) : -1 ≤ b := by
  rcases h with ⟨h, _⟩ | ⟨m, h, _⟩ <;> omega
theorem take_mem {l : List Nat} {k t : Nat} (ht : l[k]? = some t) (x : Nat) : x ∈ l.take (k + 1) ↔ x ∈ l.take k ∨ x = t := by
  rw [List.take_add_one, ht]; simp
theorem BestTo.skip {l : List Nat} {D : Nat → Int} {d : Int} {k : Nat} {b : Int} (h : BestTo l D d k b) {t : Nat} (ht : l[k]? = some t) (hd : D t ≠ d) : BestTo l D d (k + 1) b := by
  rcases h with ⟨h1, h2⟩ | ⟨m, h1, h2, h3, h4⟩
  · refine .inl ⟨h1, fun x hx => ?_⟩
    rcases (take_mem ht x).1 hx with hx | rfl
    · exact h2 x hx
    · exact hd
  · refine .inr ⟨m, h1, (take_mem ht m).2 (.inl h2), h3, fun x hx hxd => ?_⟩
    rcases (take_mem ht x).1 hx with hx | rfl
    · exact h4 x hx hxd
    · exact absurd hxd hd
theorem BestTo.take {l : List Nat} {D : Nat → Int} {d : Int} {k : Nat} {b : Int} (h : BestTo l D d k b) {t : Nat} (ht : l[k]? = some t) (hd : D t = d) (hb : b < 0 ∨ (t : Int) < b) : BestTo l D d (k + 1) t := by
  refine .inr ⟨t, rfl, (take_mem ht t).2 (.inr rfl), hd, fun x hx hxd => ?_⟩
  rcases (take_mem ht x).1 hx with hx | rfl
  · rcases h with ⟨h1, h2⟩ | ⟨m, h1, h2, h3, h4⟩
    · exact absurd hxd (h2 x hx)
    · have := h4 x hx hxd; omega
  · exact Nat.le_refl _
theorem BestTo.stay {l : List Nat} {D : Nat → Int} {d : Int} {k : Nat} {b : Int} (h : BestTo l D d k b) {t : Nat} (ht : l[k]? = some t) (hb : 0 ≤ b) (hbt : b ≤ t) : BestTo l D d (k + 1) b := by
  rcases h with ⟨h1, h2⟩ | ⟨m, h1, h2, h3, h4⟩
  · omega
  · refine .inr ⟨m, h1, (take_mem ht m).2 (.inl h2), h3, fun x hx hxd => ?_⟩
    rcases (take_mem ht x).1 hx with hx | rfl
    · exact h4 x hx hxd
    · omega

/-- Where the way stands. -/
structure Down (n : Nat) (adj : Nat → List Nat) (x y : Nat) (D : Nat → Int) (out : List Nat) (v : Nat) : Prop where
  low : v < n
  there : 0 ≤ D v
  len : (out.length : Int) + D v = D x + 1
  last : ∃ pre, out = pre ++ [v]
  ext : ∀ u, IsFirst adj v y u → ∀ pre, out = pre ++ [v] → IsFirst adj x y (pre ++ u)
theorem Down.start {n : Nat} {adj : Nat → List Nat} {x y : Nat} {D : Nat → Int} (hx : x < n) (h0 : 0 ≤ D x) : Down n adj x y D [x] x :=
  ⟨hx, h0, by simp; omega, ⟨[], rfl⟩, fun u hu pre hp => by
    cases pre with
    | nil => exact hu
    | cons a pre => simp at hp⟩
theorem Down.next {n : Nat} {adj : Nat → List Nat} {x y : Nat} {D : Nat → Int} {out : List Nat} {v m : Nat} (h : Down n adj x y D out v) (hT : ToOf n adj y D) (hlt : ∀ v, v < n → ∀ t ∈ adj v, t < n) (hm : m ∈ adj v) (hd : D m = D v - 1) (h1 : 1 ≤ D v)
    (hmin : ∀ t ∈ adj v, D t = D v - 1 → m ≤ t) : Down n adj x y D (out ++ [m]) m := by
  refine ⟨hlt v h.low m hm, by omega, by rw [List.length_append, List.length_singleton]; have := h.len; omega, ⟨out, rfl⟩, fun u hu pre hp => ?_⟩
  have hp2 : out = pre := List.append_inj_left' hp rfl
  subst hp2
  obtain ⟨pre, hpre⟩ := h.last
  have := h.ext (v :: u) (step_first hT hlt h.low hm hd (by omega) hmin hu) pre hpre
  rw [hpre, List.append_assoc]
  exact this
theorem IsFirst.one (adj : Nat → List Nat) (y : Nat) : IsFirst adj y y [y] := by
  refine ⟨.one y, fun u hu => hu.pos, fun u hu hl => ?_⟩
  obtain ⟨w, rfl⟩ := hu.ne
  cases w with
  | nil => exact lexLe_refl _
  | cons a w => simp at hl
theorem Down.stop {n : Nat} {adj : Nat → List Nat} {x y : Nat} {D : Nat → Int} {out : List Nat} (h : Down n adj x y D out y) : IsFirst adj x y out := by
  obtain ⟨pre, hpre⟩ := h.last
  rw [hpre]
  exact h.ext [y] (IsFirst.one adj y) pre hpre

theorem row_push {B : Nat} {w w1 : World} {f : Names} {i : Nat × Nat} {qv qv' : Value} {q : List Nat} (hr : Rows B w f) (hf : f i = some (rowI qv (castI q))) (t : Nat) (ho : OwnI B w1 qv' (castI q ++ [(t : Int)]))
    (hal : (roomOf qv' = roomOf qv ∧ w.grownBy w1 qv.ownBlock) ∨ (∃ k, qv'.ownBlock = some k ∧ w.heap.size ≤ k ∧ w.grownBy w1 none)) : Rows B w1 (upd f i (some (rowI qv' (castI (q ++ [t]))))) := by
  have hO := hr.ownI hf
  have hg : w.grownBy w1 qv.ownBlock := grown_via (hal.imp (·.2) (fun ⟨_, _, _, q⟩ => q))
  have hob : qv'.ownBlock = qv.ownBlock ∨ ∃ k, qv'.ownBlock = some k ∧ w.heap.size ≤ k := by
    rcases hal with ⟨q, _⟩ | ⟨k, h1, h2, _⟩
    · obtain ⟨a1, n1, c1, e1⟩ := hO.at.shape
      obtain ⟨a2, n2, c2, e2⟩ := ho.at.shape
      exact .inl (ownBlock_of_room e1 e2 q)
    · exact .inr ⟨k, h1, h2⟩
  have := hr.grown (r' := rowI qv' (castI q ++ [(t : Int)])) hf hg ho hob
  rwa [← castI_snoc] at this

end Go.Proofs.YthnkdiejmclmkaaDoor

namespace Go.Proofs.YthnkdiejmclmkaaDoor
open Go.RowKit
set_option maxRecDepth 100000

theorem checkG_num {G : List (List Int)} {n : Int} {l : List (ByteArray × Int)} (h : checkG G = some (n, l)) : (n != 0) = true := by
  unfold checkG at h
  split at h
  · injection h with h; injection h with h; subst h; rfl
  split at h
  · injection h with h; injection h with h; subst h; rfl
  split at h
  · injection h with h; injection h with h; subst h; rfl
  · cases h
theorem OwnI.set3 {B b : Nat} {w : World} {v : Value} {xs : List Int} (h : OwnI B w v xs) (hb : b < B) (x y z : Value) : OwnI B (((w.setCell ⟨b, 0, none⟩ x).setCell ⟨b, 1, none⟩ y).setCell ⟨b, 2, none⟩ z) v xs :=
  OwnV.toI (((h.toV.setBelowBase (a := ⟨b, 0, none⟩) hb x).setBelowBase (a := ⟨b, 1, none⟩) hb y).setBelowBase (a := ⟨b, 2, none⟩) hb z)
theorem FirstPost.set3 {w w3 w4 : World} {adj : Nat → List Nat} {a b : Nat} {v : Value} (h : FirstPost w3 adj a b v w4) {c : Nat} (hb : c < w3.heap.size) (hs : w.heap.size ≤ w3.heap.size) (x y z : Value) : FirstPost w adj a b v (((w4.setCell ⟨c, 0, none⟩ x).setCell ⟨c, 1, none⟩ y).setCell ⟨c, 2, none⟩ z) := by
  rcases h with ⟨u, h1, h2⟩ | h
  · exact .inl ⟨u, h1, (h2.set3 hb x y z).mono hs⟩
  · exact .inr h
/-- What an answer with an error leaves. -/
def RefPost (w : World) (t : PErr) (P : Value → World → Prop) (x y : Value) (w' : World) : Prop :=
  EOwn w.heap.size w' t y ∧ (t = none → P x w') ∧ (t ≠ none → x = .slice none 0 0)
end Go.Proofs.YthnkdiejmclmkaaDoor
