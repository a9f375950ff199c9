/-
  Walk: pairs.Words along a list of vertices.
  Walk: graph.Path.
  Walk: graph.Loop.
  The chapter's graph: its parts, its live vertices, its way from 0 to 4, as plain mathematics; the walk that makes it.
  Walks: the helpers of edenlaw12: awake, heavy, vertex, leads, goes.
  Walk: edenlaw13.awake.
  Plain mathematics: a pair with its nodes changed about.
  Plain mathematics: how far it is; the first of the shortest ways by going down; the first of the shortest loops.
  Plain mathematics: what stays where again and again vertices are taken away to which, or from which, no arrow leads.
  Walk: edenref12.turned: the arrows the other way round, each as often.
  Walk: edenref12.far: how far it is from a vertex.
  Walk: edenref12.way: the first of the shortest ways, by going down.
  What the document's answers of layer 12 share: the error's box.
  Plain mathematics: what stands on a loop.
  Plain mathematics: the peeling of a graph, step by step; what it leaves are the live vertices.
  Walk: edenref12.Live.
  Walk: edenlaw12.goes at a way.
-/
import Derived.Test.YtmhiambkfdkkbaaDoorMPm6
import Derived.BigQuiet
namespace Go.Proofs.YtmhiambkfdkkbaaDoor
open Go.RowKit
set_option maxRecDepth 100000

/-- What Words leaves, of a list of vertices. -/
def WordsPost (r : Nat → Addr) (w : World) (K R : Nat) (T : List Int) (ns : List Nat) (x y z : Value) (w' : World) : Prop :=
  (AllFit K (pw K (2 * R)) T ns ∧ z = .nilIface ∧ OwnI w.heap.size w' x (alongW K (2 * R) (· / pw K (2 * R)) ns) ∧ OwnI w.heap.size w' y (alongW K (2 * R) (· % pw K (2 * R)) ns) ∧ (x.ownBlock = none ∨ x.ownBlock ≠ y.ownBlock)) ∨
  (¬ AllFit K (pw K (2 * R)) T ns ∧ x = .slice none 0 0 ∧ y = .slice none 0 0 ∧ ErrIs r w' (fresh sPairs 1 3) z)

set_option maxHeartbeats 4000000 in
theorem pwords_way (r : Nat → Addr) (K R : Nat) (va : Option Addr) (vn vc : Nat) (T : List Int) (u : Value) (ns : List Nat) (w : World) (hg : Glob r w) (h : IntsAt w (.slice va vn vc) T) (hr : RuleOk K R T) (hl : T.length ≤ 256) (hu : IntsAt w u (castI ns)) (hne : ns ≠ []) (hlow : ∀ p ∈ ns, p < pw K (2 * wkR R) * pw K (2 * wkR R)) (hnl : ns.length ≤ 17592186044000) :
    Calls Tryd.prog 20 #[.agg #[.int .i64 K, .int .i64 R, .slice va vn vc], u] w (Ret3 (WordsPost r w K (wkR R) (wkT K R T) ns) w) := by
  have b0 := belowAlloc w (.cells #[.int .i64 K, .int .i64 R, .slice va vn vc] 24)
  have hk1 := hr.k1
  have hk4 := hr.k4
  have hokW := wk_ok hr
  have hlW := wk_small hr hl
  have hRW := wk_pos R
  have hN81 := nodes_le hokW hRW hlW
  obtain ⟨hdiv, hlen⟩ := hokW.half
  have hR3 := hokW.r3
  have hN1 := pw_pos (K := K) (2 * wkR R) hk1
  have hwork := fun (w' : World) (hgl : Glob r w') (hT : IntsAt w' (.slice va vn vc) T) => working_ok r K R va vn vc T w' hgl hT hr hl
  have hNodes := fun (a : Option Addr) (n c : Nat) (w' : World) (hgl : Glob r w') (hT : IntsAt w' (.slice a n c) (wkT K R T)) => over_Nodes r K (wkR R) a n c (wkT K R T) w' hgl hT hokW hlW
  have hEdge := fun (a : Option Addr) (n c u s : Nat) (w' : World) (hgl : Glob r w') (hT : IntsAt w' (.slice a n c) (wkT K R T)) (hu : u < pw K (2 * wkR R)) (hs : s < K) => over_Edge r K (wkR R) a n c (wkT K R T) u s w' hgl hT hokW hlW (by rw [hdiv]; exact hu) hs
  rw [hdiv] at hNodes hEdge
  have hpost := fun (x y z : Value) (w' : World) => @WordsPost r w K (wkR R) (wkT K R T) ns x y z w'
  obtain ⟨m, hm⟩ : ∃ m, 2 * wkR R = m := ⟨_, rfl⟩
  unfold WordsPost
  rw [hm] at hNodes hEdge hlow hN81 hN1 hdiv hlen ⊢
  obtain ⟨N, hN⟩ : ∃ N, pw K m = N := ⟨_, rfl⟩
  rw [hN] at hNodes hEdge hlow hN81 hN1 hdiv hlen ⊢
  generalize wkT K R T = T' at *
  generalize wkR R = R' at *
  clear hpost
  have lu := hu.len
  obtain ⟨up, hup, hupI⟩ := hu.post 1 (by rw [castI_len]; exact List.length_pos_iff.2 hne)
  have lup := hupI.len
  have hcl : (castI ns).length = ns.length := castI_len ns
  have hdl : ((castI ns).drop 1).length = ns.length - 1 := by rw [List.length_drop, castI_len]
  rw [hdl] at lup
  rw [hcl] at lu
  have hnp : 0 < ns.length := List.length_pos_iff.2 hne
  have iU := fun (i : Nat) (hi : i < ns.length) w' => hu.idx i (by rw [castI_len]; exact hi) w'
  have cU := fun (i : Nat) (hi : i < ns.length) => hu.cellD i (by rw [castI_len]; exact hi)
  have iP := fun (i : Nat) (hi : i + 1 < ns.length) w' => hupI.idx i (by rw [hdl]; omega) w'
  have cP := fun (i : Nat) (hi : i + 1 < ns.length) => hupI.cellD i (by rw [hdl]; omega)
  have gU : ∀ i, i < ns.length → (castI ns).getD i 0 = ((ns.getD i 0 : Nat) : Int) := fun i hi => by simp [castI, List.getD, hi]
  have gP : ∀ i, i + 1 < ns.length → ((castI ns).drop 1).getD i 0 = ((ns.getD (i + 1) 0 : Nat) : Int) := fun i hi => by
    rw [List.getD_eq_getElem?_getD, List.getElem?_drop, Nat.add_comm 1 i, ← List.getD_eq_getElem?_getD]; exact gU _ hi
  have cU2 := fun (i : Nat) (hi : i < ns.length) => (cU i hi).trans (by rw [gU i hi])
  have cP2 := fun (i : Nat) (hi : i + 1 < ns.length) => (cP i hi).trans (by rw [gP i hi])
  have hlow2 : ∀ i, i < ns.length → ns.getD i 0 < N * N := fun i hi => by
    simp only [List.getD_eq_getElem?_getD, List.getElem?_eq_getElem hi, Option.getD_some]
    exact hlow _ (List.getElem_mem hi)
  have hM6 : N * N ≤ 6561 := Nat.mul_le_mul hN81 hN81
  have hokway : decide (0 ≤ idxOf (odd1 ((N * N : Nat) : Int)) (castI ns)) = false := by
    rw [decide_eq_false_iff_not, idxOf_neg]
    · omega
    · intro x hx
      obtain ⟨p, hp, rfl⟩ := List.mem_map.1 hx
      have := hlow p hp
      rw [odd1_false]; omega
  have hl0 : ¬ ns.length = 0 := by omega
  have hl1 : ((ns.length : Int) == 0) = false := by rw [beq_eq_false_iff_ne]; omega
  obtain ⟨ua, un, uc, rfl⟩ := hu.shape
  obtain ⟨pa, pn, pc, rfl⟩ := hupI.shape
  replace hwork := Lib.hid hwork
  replace hNodes := Lib.hid hNodes
  replace hEdge := Lib.hid hEdge
  replace hg := Lib.hid (hg.below b0)
  replace h := Lib.hid (h.below b0)
  replace hu := Lib.hid (hu.below b0)
  replace hokW := Lib.hid hokW
  replace hr := Lib.hid hr
  replace hdiv := Lib.hid hdiv
  replace hlen := Lib.hid hlen
  replace hm := Lib.hid hm
  replace hN := Lib.hid hN
  replace iU := Lib.hid iU
  replace iP := Lib.hid iP
  replace cU2 := Lib.hid cU2
  replace cP2 := Lib.hid cP2
  replace hlow2 := Lib.hid hlow2
  replace hlow := Lib.hid hlow
  replace hokway := Lib.hid hokway
  replace hne := Lib.hid hne
  replace hupI := Lib.hid hupI
  clear cU cP gU gP hdl hcl
  go_enter Tryd.func20, Tryd.ntmps20
  go_wp2_with fail
  refine (hwork.out _ hg.out h.out).mono ?_
  rintro e w1 ⟨x, y, rfl, b1, rfl, a, n, c, rfl, hT1⟩
  have ba := belowAlloc w1 (.cells #[.int .i64 K, .int .i64 R', .slice a n c] 24)
  have qw : Box3 (w1.alloc (.cells #[.int .i64 K, .int .i64 R', .slice a n c] 24)) w1.heap.size (.int .i64 K) (.int .i64 R') (.slice a n c) := by simp [Box3, go_sem]
  have b12 := Below.step b1 ba
  have hT2 := hT1.below ba
  replace hT1 := Lib.hid hT1
  replace hT2 := Lib.hid hT2
  replace qw := Lib.hid qw
  go_wp2_with fail
  refine (hNodes.out a n c _ (hg.out.below b12) hT2.out).mono ?_
  rintro e w3 ⟨x, y, rfl, b3, rfl, rfl⟩
  have bb := belowAlloc w3 (.cells #[.int .i64 N] 3)
  have b34 := Below.step b3 bb
  have b14 := Below.step b12 b34
  have cN : (w3.alloc (.cells #[.int .i64 N] 3)).cell? ⟨w3.heap.size, 0, none⟩ = some (.int .i64 N) := by simp [go_sem]
  have hcf := containsFunc_any (.slice ua un uc) (.pointer (some ⟨w3.heap.size, 0, none⟩)) 53 (castI ns) (odd1 ((N * N : Nat) : Int)) _ (hu.out.below b14) eg_words1 (fun x _ => words1_any x w3.heap.size N _ (by omega) cN)
  replace hcf := Lib.hid hcf
  replace cN := Lib.hid cN
  go_wp2_with fail
  refine hcf.out.mono ?_
  rintro e w5 ⟨rfl, hw5⟩
  rw [hokway.out]
  have cN5 := cN.out
  have qw5 := qw.out.below b34
  have hT5 := hT2.out.below b34
  rw [hw5] at b14 cN5 qw5 hT5
  clear hcf cN hw5 bb b34 b3 b12
  have b05 := Below.step b0 b14
  have hg5 := hg.out.below b14
  clear b14
  -- region 8
  obtain ⟨L1, hL1⟩ : ∃ L1, ns.length = L1 + 1 := ⟨ns.length - 1, by omega⟩
  rw [hL1, Nat.add_sub_cancel] at lup
  have hLbig : L1 ≤ 17592186044000 := by omega
  have hup1 : ∀ w', (Instr.slice 22 (.slice ua un uc) (some (.int .i64 1)) none none).run Tryd.prog w' = .ok (.slice pa pn pc) w' := hup
  obtain ⟨p0, hp0⟩ : ∃ p, ns.getD 0 0 = p := ⟨_, rfl⟩
  have hp0l : p0 < N * N := by rw [← hp0]; exact hlow2.out 0 hnp
  have i0 : ∀ w', (Instr.indexAt 22 (.slice ua un uc) (.int .i64 0)).run Tryd.prog w' = .ok (.pointer (some (valAt (.slice ua un uc) 0))) w' := fun w' => iU.out 0 hnp w'
  have c0 := cU2.out 0 hnp
  rw [hp0] at c0
  have c05 := (b05.cell (World.block_lt_of_cell? _ _ c0)).trans c0
  have hN0 : ((N : Int) == 0) = false := by rw [beq_eq_false_iff_ne]; omega
  have hN2 : ¬ (N : Int) = 0 := by omega
  have hN3 : ¬ N = 0 := by omega
  have hK0 : ((K : Int) == 0) = false := by rw [beq_eq_false_iff_ne]; omega
  have hK1 : ¬ (K : Int) = 0 := by omega
  have hK3 : ¬ K = 0 := by omega
  obtain ⟨d1, d2, d3, d4, d5, d6⟩ := dm p0 N (by omega)
  obtain ⟨u0, hu0⟩ : ∃ z, p0 / N = z := ⟨_, rfl⟩
  obtain ⟨v0, hv0⟩ : ∃ z, p0 % N = z := ⟨_, rfl⟩
  rw [hu0] at d1 d3 d5
  rw [hv0] at d2 d4 d6
  have hu0l : u0 < N := by rw [← hu0]; exact div_lt_of hp0l
  have hv0l : v0 < N := by rw [← hv0]; exact Nat.mod_lt _ (by omega)
  clear c0
  generalize valAt (.slice ua un uc) 0 = t0 at *
  replace hL1 := Lib.hid hL1
  replace hp0 := Lib.hid hp0
  replace hu0 := Lib.hid hu0
  replace hv0 := Lib.hid hv0
  replace hT5 := Lib.hid hT5
  replace hg5 := Lib.hid hg5
  go_upto_region 8 with fail
  refine wp_region_plan (fun w' => w'.cell? t0 = some (.int .i64 p0) ∧ w'.cell? ⟨w3.heap.size, 0, none⟩ = some (.int .i64 N)) 15 [(0, true), (1, true), (2, true), (3, true), (4, true), (5, true), (7, true), (8, true), (9, true), (10, true), (11, true), (12, true), (6, false), (13, false), (14, true)] (by kernel_rfl) (by kernel_rfl) ?_
  have hS : w5.drew.cell? t0 = some (.int .i64 p0) ∧ w5.drew.cell? ⟨w3.heap.size, 0, none⟩ = some (.int .i64 N) := ⟨c05, cN5⟩
  refine headY (v := ?_) (some 47) rfl rfl (Or.inl ⟨by rfl, ?_⟩) hS ?_
  rotate_left
  · rintro W' ⟨s0, s1⟩; go_simp; try with_reducible rfl
  simp only [Act.put, List.setIfInBounds_toArray, List.set_cons_zero, List.set_cons_succ]
  refine headY (v := ?_) (some 48) rfl rfl (Or.inl ⟨by rfl, ?_⟩) hS ?_
  rotate_left
  · rintro W' ⟨s0, s1⟩; go_simp; try with_reducible rfl
  simp only [Act.put, List.setIfInBounds_toArray, List.set_cons_zero, List.set_cons_succ]
  refine headY (v := ?_) (some 49) rfl rfl (Or.inl ⟨by rfl, ?_⟩) hS ?_
  rotate_left
  · rintro W' ⟨s0, s1⟩; go_simp; try with_reducible rfl
  simp only [Act.put, List.setIfInBounds_toArray, List.set_cons_zero, List.set_cons_succ]
  refine headY (v := ?_) (some 50) rfl rfl (Or.inl ⟨by rfl, ?_⟩) hS ?_
  rotate_left
  · rintro W' ⟨s0, s1⟩; go_simp; try with_reducible rfl
  simp only [Act.put, List.setIfInBounds_toArray, List.set_cons_zero, List.set_cons_succ]
  refine headY (v := ?_) (some 51) rfl rfl (Or.inl ⟨by rfl, ?_⟩) hS ?_
  rotate_left
  · rintro W' ⟨s0, s1⟩; go_simp; try with_reducible rfl
  simp only [Act.put, List.setIfInBounds_toArray, List.set_cons_zero, List.set_cons_succ]
  refine headY (v := ?_) (some 52) rfl rfl (Or.inl ⟨by rfl, ?_⟩) hS ?_
  rotate_left
  · rintro W' ⟨s0, s1⟩; go_simp; try with_reducible rfl
  simp only [Act.put, List.setIfInBounds_toArray, List.set_cons_zero, List.set_cons_succ]
  refine headY (v := ?_) (some 54) rfl rfl (Or.inl ⟨by rfl, ?_⟩) hS ?_
  rotate_left
  · rintro W' ⟨s0, s1⟩; go_simp; try with_reducible rfl
  simp only [Act.put, List.setIfInBounds_toArray, List.set_cons_zero, List.set_cons_succ]
  refine headY (v := ?_) (some 55) rfl rfl (Or.inl ⟨by rfl, ?_⟩) hS ?_
  rotate_left
  · rintro W' ⟨s0, s1⟩; go_simp; try with_reducible rfl
  simp only [Act.put, List.setIfInBounds_toArray, List.set_cons_zero, List.set_cons_succ]
  refine headY (v := ?_) (some 56) rfl rfl (Or.inl ⟨by rfl, ?_⟩) hS ?_
  rotate_left
  · rintro W' ⟨s0, s1⟩; go_simp; try with_reducible rfl
  simp only [Act.put, List.setIfInBounds_toArray, List.set_cons_zero, List.set_cons_succ]
  refine headY (v := ?_) (some 57) rfl rfl (Or.inl ⟨by rfl, ?_⟩) hS ?_
  rotate_left
  · rintro W' ⟨s0, s1⟩; go_simp; try with_reducible rfl
  simp only [Act.put, List.setIfInBounds_toArray, List.set_cons_zero, List.set_cons_succ]
  refine headY (v := ?_) (some 58) rfl rfl (Or.inl ⟨by rfl, ?_⟩) hS ?_
  rotate_left
  · rintro W' ⟨s0, s1⟩; go_simp; try with_reducible rfl
  simp only [Act.put, List.setIfInBounds_toArray, List.set_cons_zero, List.set_cons_succ]
  refine headY (v := ?_) (some 59) rfl rfl (Or.inl ⟨by rfl, ?_⟩) hS ?_
  rotate_left
  · rintro W' ⟨s0, s1⟩; go_simp; try with_reducible rfl
  simp only [Act.put, List.setIfInBounds_toArray, List.set_cons_zero, List.set_cons_succ]
  refine headC rfl (fun KK hK => ?_)
  go_simp
  refine (words2_any K R' u0 w1.heap.size w5.drew hk1 hk4 hR3 (by omega) qw5.1.1 qw5.1.2.1).mono ?_
  rintro e w6 ⟨av, rfl, b6, ho6⟩
  have hS6 : w6.cell? t0 = some (.int .i64 p0) ∧ w6.cell? ⟨w3.heap.size, 0, none⟩ = some (.int .i64 N) := ⟨(b6.cell (World.block_lt_of_cell? _ _ hS.1)).trans hS.1, cell_keep b6 hS.2⟩
  have qw6 := qw5.below (w' := w6) (Below.trans ((Below.refl _ _).drew) b6)
  refine hK _ _ hS6 ?_
  clear hK KK
  refine headC rfl (fun KK hK => ?_)
  go_simp
  refine (words2_any K R' v0 w1.heap.size w6 hk1 hk4 hR3 (by omega) qw6.1.1 qw6.1.2.1).mono ?_
  rintro e w7 ⟨bv, rfl, b7, ho7⟩
  have hS7 : w7.cell? t0 = some (.int .i64 p0) ∧ w7.cell? ⟨w3.heap.size, 0, none⟩ = some (.int .i64 N) := ⟨(b7.cell (World.block_lt_of_cell? _ _ hS6.1)).trans hS6.1, cell_keep b7 hS6.2⟩
  refine hK _ _ hS7 ?_
  clear hK KK
  refine headY (v := ?_) (some 12) rfl rfl (Or.inl ⟨by rfl, ?_⟩) hS7 ?_
  rotate_left
  · rintro W' ⟨s0, s1⟩; go_simp; try with_reducible rfl
  simp only [Act.put, List.setIfInBounds_toArray, List.set_cons_zero, List.set_cons_succ]
  refine head0 ?_
  simp only [List.drop_succ_cons, List.drop_zero]
  have b56 : Below w5.heap.size w5 w6 := Below.trans ((Below.refl _ _).drew) b6
  have b57 := Below.step b56 b7
  rw [hm.out] at ho6 ho7
  have r1 := (Rows.void w5.heap.size w5).add (i := (1, 0)) (r' := rowI av (digs K m u0)) b56 ho6 (fun k hk => (ho6.lt k hk).1)
  have r2 := r1.add (i := (2, 0)) (r' := rowI bv (digs K m v0)) b7 (ho7.mono b56.size) (fun k hk => (ho7.lt k hk).1)
  obtain ⟨f, hf⟩ : ∃ f, f = upd (upd (fun _ => none) (1, 0) (some (rowI av (digs K m u0)))) (2, 0) (some (rowI bv (digs K m v0))) := ⟨_, rfl⟩
  have hfa : f (1, 0) = some (rowI av (digs K m u0)) := by rw [hf, upd_ne _ _ (by simp), upd_same]
  have hfb : f (2, 0) = some (rowI bv (digs K m v0)) := by rw [hf, upd_same]
  rw [← hf] at r2
  have htk : ns.take 1 = [p0] := by
    cases hns : ns with
    | nil => exact absurd hns hne.out
    | cons a l => have := hp0.out; rw [hns] at this; simp at this; simp [this]
  have ha1 : alongW K m (· / N) (ns.take 1) = digs K m u0 := by rw [htk, alongW_one, hu0.out]
  have hb1 : alongW K m (· % N) (ns.take 1) = digs K m v0 := by rw [htk, alongW_one, hv0.out]
  rw [← ha1] at hfa
  rw [← hb1] at hfb
  clear hS hS6 hS7 ho6 ho7 r1 hf htk ha1 hb1 qw6 i0 c05 d1 d2 d3 d4 d5 d6
  obtain ⟨aa, an, ac, rfl⟩ := (r2.ownI hfa).at.shape
  obtain ⟨ba', bn, bc, rfl⟩ := (r2.ownI hfb).at.shape
  replace r2 := Lib.hid r2
  replace hfa := Lib.hid hfa
  replace hfb := Lib.hid hfb
  replace qw5 := Lib.hid qw5
  replace cN5 := Lib.hid cN5
  go_wp2
  refine NoPanic.normal ?_
  go_wp2_with fail
  clear hup hup1
  go_loopw [12, 13, 64] (fun xa xb jv wr => ∃ (j : Nat) (f : Names) (va' vb' : Value), j ≤ L1 ∧ jv = .int .i64 j ∧ va' = xa ∧ vb' = xb ∧ Rows w5.heap.size wr f ∧ Below w5.heap.size w5 wr ∧ f (1, 0) = some (rowI va' (alongW K m (· / N) (ns.take (j + 1)))) ∧ f (2, 0) = some (rowI vb' (alongW K m (· % N) (ns.take (j + 1)))) ∧ (∀ i, i < j → StepFits K N T' (ns.getD i 0) (ns.getD (i + 1) 0))) (fun _ _ jv _ => L1 - (intOf jv).toNat)
  case atStart => exact ⟨0, f, _, _, by omega, rfl, rfl, rfl, r2.out, b57, hfa.out, hfb.out, fun i hi => by omega⟩
  case round =>
    clear hfa hfb r2 b57 b56 b6 b7
    obtain ⟨j, f2, av, bv, hj, rfl, rfl, rfl, hr, bI, hfa, hfb, hfit⟩ := hrel
    obtain ⟨wo, rfl⟩ : ∃ wo : World, wo = wr := ⟨_, rfl⟩
    have b0o := b05.trans (bI.mono b05.size)
    by_cases hjl : j < L1
    · obtain ⟨p, hp⟩ : ∃ p, ns.getD (j + 1) 0 = p := ⟨_, rfl⟩
      obtain ⟨pj, hpj⟩ : ∃ p, ns.getD j 0 = p := ⟨_, rfl⟩
      have hll := hL1.out
      have hjl2 := Lib.hid hjl
      have hpl : p < N * N := by rw [← hp]; exact hlow2.out (j + 1) (by omega)
      have hpjl : pj < N * N := by rw [← hpj]; exact hlow2.out j (by omega)
      have iJ := fun w' => iP.out j (by omega) w'
      have cJ := cP2.out j (by omega)
      have iI := fun w' => iU.out j (by omega) w'
      have cI := cU2.out j (by omega)
      rw [hp] at cJ
      rw [hpj] at cI
      have cJo := (b0o.cell (World.block_lt_of_cell? _ _ cJ)).trans cJ
      have cIo := (b0o.cell (World.block_lt_of_cell? _ _ cI)).trans cI
      have htk : ns.take (j + 1 + 1) = ns.take (j + 1) ++ [p] := by
        rw [List.take_add_one, List.getElem?_eq_getElem (show j + 1 < ns.length by omega)]
        have : ns[j + 1]'(by omega) = p := by rw [← hp]; simp [List.getD, show j + 1 < ns.length by omega]
        rw [this]; rfl
      have htn : ns.take (j + 1) ≠ [] := by
        intro e
        have := congrArg List.length e
        rw [List.length_take, List.length_nil] at this; omega
      have haS := alongW_snoc K m (· / N) (ns.take (j + 1)) p htn
      have hbS := alongW_snoc K m (· % N) (ns.take (j + 1)) p htn
      rw [← htk] at haS hbS
      obtain ⟨d1, d2, d3, d4, d5, d6⟩ := dm p N (by omega)
      obtain ⟨u1, hu1⟩ : ∃ z, p / N = z := ⟨_, rfl⟩
      obtain ⟨v1, hv1⟩ : ∃ z, p % N = z := ⟨_, rfl⟩
      rw [hu1] at d1 d3 d5 haS
      rw [hv1] at d2 d4 d6 hbS
      have hu1l : u1 < N := by rw [← hu1]; exact div_lt_of hpl
      have hv1l : v1 < N := by rw [← hv1]; exact Nat.mod_lt _ (by omega)
      obtain ⟨g1, g2, g3, g4, g5, g6⟩ := dm pj N (by omega)
      obtain ⟨uj, huj⟩ : ∃ z, pj / N = z := ⟨_, rfl⟩
      obtain ⟨vj, hvj⟩ : ∃ z, pj % N = z := ⟨_, rfl⟩
      rw [huj] at g1 g3 g5
      rw [hvj] at g2 g4 g6
      have hujl : uj < N := by rw [← huj]; exact div_lt_of hpjl
      have hvjl : vj < N := by rw [← hvj]; exact Nat.mod_lt _ (by omega)
      obtain ⟨_, x2, _, x4, _, x6⟩ := dm u1 K (by omega)
      obtain ⟨_, z2, _, z4, _, z6⟩ := dm v1 K (by omega)
      obtain ⟨s, hs⟩ : ∃ z, u1 % K = z := ⟨_, rfl⟩
      obtain ⟨t, ht⟩ : ∃ z, v1 % K = z := ⟨_, rfl⟩
      rw [hs] at x2 x4 x6 haS
      rw [ht] at z2 z4 z6 hbS
      have hsl : s < K := by rw [← hs]; exact Nat.mod_lt _ (by omega)
      have htl : t < K := by rw [← ht]; exact Nat.mod_lt _ (by omega)
      have hstep : StepFits K N T' pj p ↔ toN K N uj s = u1 ∧ toN K N vj t = v1 ∧ labN K T' uj s = labN K T' vj t := by
        unfold StepFits; rw [hu1, hv1, huj, hvj, hs, ht]
      have qwo := qw5.out.below bI
      have cNo := cell_keep bI cN5.out
      clear cJ cI
      generalize valAt (.slice pa pn pc) j = tj at *
      generalize valAt (.slice ua un uc) j = ti at *
      have hoa := hr.ownI hfa
      have hob := hr.ownI hfb
      have hm6 : m ≤ 6 := by have := hm.out; omega
      have hLa : (alongW K m (· / N) (ns.take (j + 1))).length ≤ 17592186044100 := by rw [alongW_len, List.length_take]; omega
      have hLb : (alongW K m (· % N) (ns.take (j + 1))).length ≤ 17592186044100 := by rw [alongW_len, List.length_take]; omega
      replace hp := Lib.hid hp
      replace hpj := Lib.hid hpj
      replace hll := Lib.hid hll
      replace htk := Lib.hid htk
      replace htn := Lib.hid htn
      replace haS := Lib.hid haS
      replace hbS := Lib.hid hbS
      replace hu1 := Lib.hid hu1
      replace hv1 := Lib.hid hv1
      replace huj := Lib.hid huj
      replace hvj := Lib.hid hvj
      replace hs := Lib.hid hs
      replace ht := Lib.hid ht
      replace hstep := Lib.hid hstep
      replace hfit := Lib.hid hfit
      replace hr := Lib.hid hr
      replace hfa := Lib.hid hfa
      replace hfb := Lib.hid hfb
      replace hoa := Lib.hid hoa
      replace hob := Lib.hid hob
      go_upto_region 12 with fail
      refine wp_region_plan (fun w' => w'.cell? ⟨w1.heap.size, 0, none⟩ = some (.int .i64 K) ∧ w'.cell? ⟨w3.heap.size, 0, none⟩ = some (.int .i64 N)) 13 [(0, true), (1, true), (2, true), (3, true), (4, true), (5, true), (6, true), (7, true), (8, true), (9, true), (10, true), (11, true), (12, true)] (by kernel_rfl) (by kernel_rfl) ?_
      have hS : wo.drew.cell? ⟨w1.heap.size, 0, none⟩ = some (.int .i64 K) ∧ wo.drew.cell? ⟨w3.heap.size, 0, none⟩ = some (.int .i64 N) := ⟨qwo.1.1, cNo⟩
      refine headY (v := ?_) (some 69) rfl rfl (Or.inl ⟨by rfl, ?_⟩) hS ?_
      rotate_left
      · rintro W' ⟨s0, s1⟩; go_simp; try with_reducible rfl
      simp only [Act.put, List.setIfInBounds_toArray, List.set_cons_zero, List.set_cons_succ]
      refine headY (v := ?_) (some 70) rfl rfl (Or.inl ⟨by rfl, ?_⟩) hS ?_
      rotate_left
      · rintro W' ⟨s0, s1⟩; go_simp; try with_reducible rfl
      simp only [Act.put, List.setIfInBounds_toArray, List.set_cons_zero, List.set_cons_succ]
      refine headY (v := ?_) (some 71) rfl rfl (Or.inl ⟨by rfl, ?_⟩) hS ?_
      rotate_left
      · rintro W' ⟨s0, s1⟩; go_simp; try with_reducible rfl
      simp only [Act.put, List.setIfInBounds_toArray, List.set_cons_zero, List.set_cons_succ]
      refine headY (v := ?_) (some 72) rfl rfl (Or.inl ⟨by rfl, ?_⟩) hS ?_
      rotate_left
      · rintro W' ⟨s0, s1⟩; go_simp; try with_reducible rfl
      simp only [Act.put, List.setIfInBounds_toArray, List.set_cons_zero, List.set_cons_succ]
      refine headY (v := ?_) (some 73) rfl rfl (Or.inl ⟨by rfl, ?_⟩) hS ?_
      rotate_left
      · rintro W' ⟨s0, s1⟩; go_simp; try with_reducible rfl
      simp only [Act.put, List.setIfInBounds_toArray, List.set_cons_zero, List.set_cons_succ]
      refine headY (v := ?_) (some 74) rfl rfl (Or.inl ⟨by rfl, ?_⟩) hS ?_
      rotate_left
      · rintro W' ⟨s0, s1⟩; go_simp; try with_reducible rfl
      simp only [Act.put, List.setIfInBounds_toArray, List.set_cons_zero, List.set_cons_succ]
      refine headY (v := ?_) (some 75) rfl rfl (Or.inl ⟨by rfl, ?_⟩) hS ?_
      rotate_left
      · rintro W' ⟨s0, s1⟩; go_simp; try with_reducible rfl
      simp only [Act.put, List.setIfInBounds_toArray, List.set_cons_zero, List.set_cons_succ]
      refine headY (v := ?_) (some 76) rfl rfl (Or.inl ⟨by rfl, ?_⟩) hS ?_
      rotate_left
      · rintro W' ⟨s0, s1⟩; go_simp; try with_reducible rfl
      simp only [Act.put, List.setIfInBounds_toArray, List.set_cons_zero, List.set_cons_succ]
      refine headY (v := ?_) (some 77) rfl rfl (Or.inl ⟨by rfl, ?_⟩) hS ?_
      rotate_left
      · rintro W' ⟨s0, s1⟩; go_simp; try with_reducible rfl
      simp only [Act.put, List.setIfInBounds_toArray, List.set_cons_zero, List.set_cons_succ]
      refine headY (v := ?_) (some 78) rfl rfl (Or.inl ⟨by rfl, ?_⟩) hS ?_
      rotate_left
      · rintro W' ⟨s0, s1⟩; go_simp; try with_reducible rfl
      simp only [Act.put, List.setIfInBounds_toArray, List.set_cons_zero, List.set_cons_succ]
      refine headY (v := ?_) (some 79) rfl rfl (Or.inl ⟨by rfl, ?_⟩) hS ?_
      rotate_left
      · rintro W' ⟨s0, s1⟩; go_simp; try with_reducible rfl
      simp only [Act.put, List.setIfInBounds_toArray, List.set_cons_zero, List.set_cons_succ]
      refine headY (v := ?_) (some 80) rfl rfl (Or.inl ⟨by rfl, ?_⟩) hS ?_
      rotate_left
      · rintro W' ⟨s0, s1⟩; go_simp; try with_reducible rfl
      simp only [Act.put, List.setIfInBounds_toArray, List.set_cons_zero, List.set_cons_succ]
      refine headY (v := ?_) (some 16) rfl rfl (Or.inl ⟨by rfl, ?_⟩) hS ?_
      rotate_left
      · rintro W' ⟨s0, s1⟩; go_simp; try with_reducible rfl
      simp only [Act.put, List.setIfInBounds_toArray, List.set_cons_zero, List.set_cons_succ]
      refine head0 ?_
      simp only [List.drop_succ_cons, List.drop_zero]
      clear hS
      go_wp2
      refine NoPanic.normal ?_
      go_upto_region 13 with fail
      refine wp_region_plan (fun w' => w'.cell? ⟨w1.heap.size, 0, none⟩ = some (.int .i64 K) ∧ w'.cell? ⟨w1.heap.size, 1, none⟩ = some (.int .i64 R') ∧ w'.cell? ⟨w1.heap.size, 2, none⟩ = some (.slice a n c) ∧ w'.cell? ⟨w3.heap.size, 0, none⟩ = some (.int .i64 N) ∧ w'.cell? ti = some (.int .i64 pj)) 15 [(0, true), (1, true), (2, true), (3, true), (4, true), (5, true), (6, true), (7, true), (8, false), (9, true), (10, true), (11, true), (12, true), (13, true), (14, true)] (by kernel_rfl) (by kernel_rfl) ?_
      have hS : wo.drew.drew.cell? ⟨w1.heap.size, 0, none⟩ = some (.int .i64 K) ∧ wo.drew.drew.cell? ⟨w1.heap.size, 1, none⟩ = some (.int .i64 R') ∧ wo.drew.drew.cell? ⟨w1.heap.size, 2, none⟩ = some (.slice a n c) ∧ wo.drew.drew.cell? ⟨w3.heap.size, 0, none⟩ = some (.int .i64 N) ∧ wo.drew.drew.cell? ti = some (.int .i64 pj) := ⟨qwo.1.1, qwo.1.2.1, qwo.1.2.2, cNo, cIo⟩
      refine headY (v := ?_) (some 82) rfl rfl (Or.inl ⟨by rfl, ?_⟩) hS ?_
      rotate_left
      · rintro W' ⟨s0, s1, s2, s3, s4⟩; go_simp; try with_reducible rfl
      simp only [Act.put, List.setIfInBounds_toArray, List.set_cons_zero, List.set_cons_succ]
      refine headY (v := ?_) (some 83) rfl rfl (Or.inl ⟨by rfl, ?_⟩) hS ?_
      rotate_left
      · rintro W' ⟨s0, s1, s2, s3, s4⟩; go_simp; try with_reducible rfl
      simp only [Act.put, List.setIfInBounds_toArray, List.set_cons_zero, List.set_cons_succ]
      refine headY (v := ?_) (some 84) rfl rfl (Or.inl ⟨by rfl, ?_⟩) hS ?_
      rotate_left
      · rintro W' ⟨s0, s1, s2, s3, s4⟩; go_simp; try with_reducible rfl
      simp only [Act.put, List.setIfInBounds_toArray, List.set_cons_zero, List.set_cons_succ]
      refine headY (v := ?_) (some 85) rfl rfl (Or.inl ⟨by rfl, ?_⟩) hS ?_
      rotate_left
      · rintro W' ⟨s0, s1, s2, s3, s4⟩; go_simp; try with_reducible rfl
      simp only [Act.put, List.setIfInBounds_toArray, List.set_cons_zero, List.set_cons_succ]
      refine headY (v := ?_) (some 86) rfl rfl (Or.inl ⟨by rfl, ?_⟩) hS ?_
      rotate_left
      · rintro W' ⟨s0, s1, s2, s3, s4⟩; go_simp; try with_reducible rfl
      simp only [Act.put, List.setIfInBounds_toArray, List.set_cons_zero, List.set_cons_succ]
      refine headY (v := ?_) (some 87) rfl rfl (Or.inl ⟨by rfl, ?_⟩) hS ?_
      rotate_left
      · rintro W' ⟨s0, s1, s2, s3, s4⟩; go_simp; try with_reducible rfl
      simp only [Act.put, List.setIfInBounds_toArray, List.set_cons_zero, List.set_cons_succ]
      refine headY (v := ?_) (some 88) rfl rfl (Or.inl ⟨by rfl, ?_⟩) hS ?_
      rotate_left
      · rintro W' ⟨s0, s1, s2, s3, s4⟩; go_simp; try with_reducible rfl
      simp only [Act.put, List.setIfInBounds_toArray, List.set_cons_zero, List.set_cons_succ]
      refine headY (v := ?_) (some 89) rfl rfl (Or.inl ⟨by rfl, ?_⟩) hS ?_
      rotate_left
      · rintro W' ⟨s0, s1, s2, s3, s4⟩; go_simp; try with_reducible rfl
      simp only [Act.put, List.setIfInBounds_toArray, List.set_cons_zero, List.set_cons_succ]
      refine headC rfl (fun KK hK => ?_)
      go_simp
      refine (hEdge.out a n c uj s wo.drew.drew (hg5.out.below bI.drew.drew) (hT5.out.below bI.drew.drew) hujl hsl).mono ?_
      rintro e w6 ⟨x, y, z, rfl, b6, rfl, rfl, rfl⟩
      obtain ⟨X1, hX1⟩ : ∃ X, toN K N uj s = X := ⟨_, rfl⟩
      obtain ⟨O1, hO1⟩ : ∃ X, labN K T' uj s = X := ⟨_, rfl⟩
      rw [hX1, hO1]
      have bo6 : Below wo.heap.size wo w6 := Below.trans ((Below.refl _ _).drew.drew) b6
      have hS6 : w6.cell? ⟨w1.heap.size, 0, none⟩ = some (.int .i64 K) ∧ w6.cell? ⟨w1.heap.size, 1, none⟩ = some (.int .i64 R') ∧ w6.cell? ⟨w1.heap.size, 2, none⟩ = some (.slice a n c) ∧ w6.cell? ⟨w3.heap.size, 0, none⟩ = some (.int .i64 N) ∧ w6.cell? ti = some (.int .i64 pj) := ⟨cell_keep b6 hS.1, cell_keep b6 hS.2.1, cell_keep b6 hS.2.2.1, cell_keep b6 hS.2.2.2.1, (b6.cell (World.block_lt_of_cell? _ _ hS.2.2.2.2)).trans hS.2.2.2.2⟩
      refine hK _ _ hS6 ?_
      clear hK KK
      refine headY (v := ?_) (some 81) rfl rfl (Or.inl ⟨by rfl, ?_⟩) hS6 ?_
      rotate_left
      · rintro W' ⟨s0, s1, s2, s3, s4⟩; go_simp; try with_reducible rfl
      simp only [Act.put, List.setIfInBounds_toArray, List.set_cons_zero, List.set_cons_succ]
      refine headY (v := ?_) (some 91) rfl rfl (Or.inl ⟨by rfl, ?_⟩) hS6 ?_
      rotate_left
      · rintro W' ⟨s0, s1, s2, s3, s4⟩; go_simp; try with_reducible rfl
      simp only [Act.put, List.setIfInBounds_toArray, List.set_cons_zero, List.set_cons_succ]
      refine headY (v := ?_) (some 92) rfl rfl (Or.inl ⟨by rfl, ?_⟩) hS6 ?_
      rotate_left
      · rintro W' ⟨s0, s1, s2, s3, s4⟩; go_simp; try with_reducible rfl
      simp only [Act.put, List.setIfInBounds_toArray, List.set_cons_zero, List.set_cons_succ]
      refine headY (v := ?_) (some 93) rfl rfl (Or.inl ⟨by rfl, ?_⟩) hS6 ?_
      rotate_left
      · rintro W' ⟨s0, s1, s2, s3, s4⟩; go_simp; try with_reducible rfl
      simp only [Act.put, List.setIfInBounds_toArray, List.set_cons_zero, List.set_cons_succ]
      refine headY (v := ?_) (some 18) rfl rfl (Or.inl ⟨by rfl, ?_⟩) hS6 ?_
      rotate_left
      · rintro W' ⟨s0, s1, s2, s3, s4⟩; go_simp; try with_reducible rfl
      simp only [Act.put, List.setIfInBounds_toArray, List.set_cons_zero, List.set_cons_succ]
      refine headY (v := ?_) (some 19) rfl rfl (Or.inl ⟨by rfl, ?_⟩) hS6 ?_
      rotate_left
      · rintro W' ⟨s0, s1, s2, s3, s4⟩; go_simp; try with_reducible rfl
      simp only [Act.put, List.setIfInBounds_toArray, List.set_cons_zero, List.set_cons_succ]
      refine head0 ?_
      simp only [List.drop_succ_cons, List.drop_zero]
      have bI6 := bI.trans (bo6.mono bI.size)
      have hS6' := Lib.hid hS6
      clear hS hS6
      go_wp2
      refine NoPanic.normal ?_
      go_upto_region 14 with fail
      refine wp_region_plan (fun w' => w'.cell? ⟨w1.heap.size, 0, none⟩ = some (.int .i64 K) ∧ w'.cell? ⟨w1.heap.size, 1, none⟩ = some (.int .i64 R') ∧ w'.cell? ⟨w1.heap.size, 2, none⟩ = some (.slice a n c) ∧ w'.cell? ⟨w3.heap.size, 0, none⟩ = some (.int .i64 N) ∧ w'.cell? ti = some (.int .i64 pj)) 15 [(0, true), (1, true), (2, true), (3, true), (4, true), (5, true), (6, true), (7, true), (8, false), (9, true), (10, true), (11, true), (12, true), (13, true), (14, true)] (by kernel_rfl) (by kernel_rfl) ?_
      have hS : w6.drew.cell? ⟨w1.heap.size, 0, none⟩ = some (.int .i64 K) ∧ w6.drew.cell? ⟨w1.heap.size, 1, none⟩ = some (.int .i64 R') ∧ w6.drew.cell? ⟨w1.heap.size, 2, none⟩ = some (.slice a n c) ∧ w6.drew.cell? ⟨w3.heap.size, 0, none⟩ = some (.int .i64 N) ∧ w6.drew.cell? ti = some (.int .i64 pj) := hS6'.out
      refine headY (v := ?_) (some 95) rfl rfl (Or.inl ⟨by rfl, ?_⟩) hS ?_
      rotate_left
      · rintro W' ⟨s0, s1, s2, s3, s4⟩; go_simp; try with_reducible rfl
      simp only [Act.put, List.setIfInBounds_toArray, List.set_cons_zero, List.set_cons_succ]
      refine headY (v := ?_) (some 96) rfl rfl (Or.inl ⟨by rfl, ?_⟩) hS ?_
      rotate_left
      · rintro W' ⟨s0, s1, s2, s3, s4⟩; go_simp; try with_reducible rfl
      simp only [Act.put, List.setIfInBounds_toArray, List.set_cons_zero, List.set_cons_succ]
      refine headY (v := ?_) (some 97) rfl rfl (Or.inl ⟨by rfl, ?_⟩) hS ?_
      rotate_left
      · rintro W' ⟨s0, s1, s2, s3, s4⟩; go_simp; try with_reducible rfl
      simp only [Act.put, List.setIfInBounds_toArray, List.set_cons_zero, List.set_cons_succ]
      refine headY (v := ?_) (some 98) rfl rfl (Or.inl ⟨by rfl, ?_⟩) hS ?_
      rotate_left
      · rintro W' ⟨s0, s1, s2, s3, s4⟩; go_simp; try with_reducible rfl
      simp only [Act.put, List.setIfInBounds_toArray, List.set_cons_zero, List.set_cons_succ]
      refine headY (v := ?_) (some 99) rfl rfl (Or.inl ⟨by rfl, ?_⟩) hS ?_
      rotate_left
      · rintro W' ⟨s0, s1, s2, s3, s4⟩; go_simp; try with_reducible rfl
      simp only [Act.put, List.setIfInBounds_toArray, List.set_cons_zero, List.set_cons_succ]
      refine headY (v := ?_) (some 100) rfl rfl (Or.inl ⟨by rfl, ?_⟩) hS ?_
      rotate_left
      · rintro W' ⟨s0, s1, s2, s3, s4⟩; go_simp; try with_reducible rfl
      simp only [Act.put, List.setIfInBounds_toArray, List.set_cons_zero, List.set_cons_succ]
      refine headY (v := ?_) (some 101) rfl rfl (Or.inl ⟨by rfl, ?_⟩) hS ?_
      rotate_left
      · rintro W' ⟨s0, s1, s2, s3, s4⟩; go_simp; try with_reducible rfl
      simp only [Act.put, List.setIfInBounds_toArray, List.set_cons_zero, List.set_cons_succ]
      refine headY (v := ?_) (some 102) rfl rfl (Or.inl ⟨by rfl, ?_⟩) hS ?_
      rotate_left
      · rintro W' ⟨s0, s1, s2, s3, s4⟩; go_simp; try with_reducible rfl
      simp only [Act.put, List.setIfInBounds_toArray, List.set_cons_zero, List.set_cons_succ]
      refine headC rfl (fun KK hK => ?_)
      go_simp
      refine (hEdge.out a n c vj t w6.drew (hg5.out.below bI6.drew) (hT5.out.below bI6.drew) hvjl htl).mono ?_
      rintro e w7 ⟨x, y, z, rfl, b7, rfl, rfl, rfl⟩
      obtain ⟨X2, hX2⟩ : ∃ X, toN K N vj t = X := ⟨_, rfl⟩
      obtain ⟨O2, hO2⟩ : ∃ X, labN K T' vj t = X := ⟨_, rfl⟩
      rw [hX2, hO2]
      have b67 : Below w6.heap.size w6 w7 := Below.trans ((Below.refl _ _).drew) b7
      have bo7 := Below.step bo6 b67
      have bI7 := bI.trans (bo7.mono bI.size)
      have hS7 : w7.cell? ⟨w1.heap.size, 0, none⟩ = some (.int .i64 K) ∧ w7.cell? ⟨w1.heap.size, 1, none⟩ = some (.int .i64 R') ∧ w7.cell? ⟨w1.heap.size, 2, none⟩ = some (.slice a n c) ∧ w7.cell? ⟨w3.heap.size, 0, none⟩ = some (.int .i64 N) ∧ w7.cell? ti = some (.int .i64 pj) := ⟨cell_keep b7 hS.1, cell_keep b7 hS.2.1, cell_keep b7 hS.2.2.1, cell_keep b7 hS.2.2.2.1, (b7.cell (World.block_lt_of_cell? _ _ hS.2.2.2.2)).trans hS.2.2.2.2⟩
      refine hK _ _ hS7 ?_
      clear hK KK
      refine headY (v := ?_) (some 94) rfl rfl (Or.inl ⟨by rfl, ?_⟩) hS7 ?_
      rotate_left
      · rintro W' ⟨s0, s1, s2, s3, s4⟩; go_simp; try with_reducible rfl
      simp only [Act.put, List.setIfInBounds_toArray, List.set_cons_zero, List.set_cons_succ]
      refine headY (v := ?_) (some 104) rfl rfl (Or.inl ⟨by rfl, ?_⟩) hS7 ?_
      rotate_left
      · rintro W' ⟨s0, s1, s2, s3, s4⟩; go_simp; try with_reducible rfl
      simp only [Act.put, List.setIfInBounds_toArray, List.set_cons_zero, List.set_cons_succ]
      refine headY (v := ?_) (some 105) rfl rfl (Or.inl ⟨by rfl, ?_⟩) hS7 ?_
      rotate_left
      · rintro W' ⟨s0, s1, s2, s3, s4⟩; go_simp; try with_reducible rfl
      simp only [Act.put, List.setIfInBounds_toArray, List.set_cons_zero, List.set_cons_succ]
      refine headY (v := ?_) (some 106) rfl rfl (Or.inl ⟨by rfl, ?_⟩) hS7 ?_
      rotate_left
      · rintro W' ⟨s0, s1, s2, s3, s4⟩; go_simp; try with_reducible rfl
      simp only [Act.put, List.setIfInBounds_toArray, List.set_cons_zero, List.set_cons_succ]
      refine headY (v := ?_) (some 21) rfl rfl (Or.inl ⟨by rfl, ?_⟩) hS7 ?_
      rotate_left
      · rintro W' ⟨s0, s1, s2, s3, s4⟩; go_simp; try with_reducible rfl
      simp only [Act.put, List.setIfInBounds_toArray, List.set_cons_zero, List.set_cons_succ]
      refine headY (v := ?_) (some 22) rfl rfl (Or.inl ⟨by rfl, ?_⟩) hS7 ?_
      rotate_left
      · rintro W' ⟨s0, s1, s2, s3, s4⟩; go_simp; try with_reducible rfl
      simp only [Act.put, List.setIfInBounds_toArray, List.set_cons_zero, List.set_cons_succ]
      refine head0 ?_
      simp only [List.drop_succ_cons, List.drop_zero]
      obtain ⟨k0, k1, k2, k3, k4⟩ := hS7
      clear hS hS6' cIo cJo k0 k1 k2 k4 cNo
      rw [hX1, hO1, hX2, hO2] at hstep
      replace hX1 := Lib.hid hX1
      replace hX2 := Lib.hid hX2
      replace hO1 := Lib.hid hO1
      replace hO2 := Lib.hid hO2
      go_wp2
      refine NoPanic.normal ?_
      by_cases e1 : X1 = u1
      · have q1 : ((X1 : Int) != (u1 : Int)) = false := by rw [bne_eq_false_iff_eq]; omega
        by_cases e2 : X2 = v1
        · have q2 : ((X2 : Int) != (v1 : Int)) = false := by rw [bne_eq_false_iff_eq]; omega
          by_cases e3 : O1 = O2
          · have q3 : (O1 != O2) = false := by rw [bne_eq_false_iff_eq]; exact e3
            have hnow := hstep.out.2 ⟨e1, e2, e3⟩
            have hr7 := hr.out.below bo7
            have hoa7 := hoa.out.below bo7
            have hB7 := bI7.size
            replace e1 := Lib.hid e1
            replace e2 := Lib.hid e2
            replace e3 := Lib.hid e3
            replace hr7 := Lib.hid hr7
            go_wp2_with (at_builtin; go_loud (refine wpl_append1 rfl _ _ rfl w5.heap.size av _ s hoa7 rfl rfl (by omega) hB7 ?_))
            intro av2 w8 ho8 b8 hgr8 hal8
            have hr8 := hr7.out.push hfa.out (s : Int) ho8 hgr8 hal8
            have hfb8 : upd f2 (1, 0) (some (rowI av2 (alongW K m (· / N) (ns.take (j + 1)) ++ [(s : Int)]))) (2, 0) = some (rowI bv (alongW K m (· % N) (ns.take (j + 1)))) := by rw [upd_ne _ _ (by simp)]; exact hfb.out
            have hob8 := hr8.ownI hfb8
            have hB8 : w5.heap.size ≤ w8.heap.size := Nat.le_trans hB7 b8.size
            obtain ⟨a2a, a2n, a2c, rfl⟩ := ho8.at.shape
            replace hr8 := Lib.hid hr8
            replace ho8 := Lib.hid ho8
            clear hgr8 hal8 hoa7
            go_wp2_with (at_builtin; go_loud (refine wpl_append1 rfl _ _ rfl w5.heap.size bv _ t hob8 rfl rfl (by omega) hB8 ?_))
            intro bv2 w9 ho9 b9 hgr9 hal9
            have hr9 := hr8.out.push hfb8 (t : Int) ho9 hgr9 hal9
            obtain ⟨b2a, b2n, b2c, rfl⟩ := ho9.at.shape
            replace hr9 := Lib.hid hr9
            replace ho9 := Lib.hid ho9
            replace hfb8 := Lib.hid hfb8
            clear hgr9 hal9 hob8
            go_wp2
            go_roundw
            case measure => have := hjl2.out; simp [intOf]; omega
            case rel =>
              refine ⟨j + 1, _, _, _, by have := hjl2.out; omega, by go_num, rfl, rfl, hr9.out, bI7.trans (b8.trans b9), ?_, ?_, fun i hi => ?_⟩
              · rw [upd_ne _ _ (by simp), upd_same, haS.out]
              · rw [upd_same, hbS.out]
              · by_cases e : i = j
                · subst e; rw [hpj.out, hp.out]; exact hnow
                · exact hfit.out i (by omega)
          · have q3 : (O1 != O2) = true := by rw [bne_iff_ne]; exact e3
            have hnow : ¬ AllFit K N T' ns := fun hA => by
              have := hA j (by have := hll.out; have := hjl2.out; omega)
              rw [hpj.out, hp.out, hstep.out] at this
              exact e3 this.2.2
            replace hnow := Lib.hid hnow
            go_wp2_with fail
            refine (pairs_wrong r _ _ w7 (hg5.out.below bI7) (by decide) (by decide)).mono ?_
            rintro e w8 ⟨x, rfl, b8, he⟩
            replace he := Lib.hid he
            have bE := Below.step (b05.trans (bI7.mono b05.size)) b8
            go_wp2
            go_ret3
            exact ⟨_, _, _, rfl, bE, .inr ⟨hnow.out, rfl, rfl, he.out⟩⟩
        · have q2 : ((X2 : Int) != (v1 : Int)) = true := by rw [bne_iff_ne]; omega
          have hnow : ¬ AllFit K N T' ns := fun hA => by
            have := hA j (by have := hll.out; have := hjl2.out; omega)
            rw [hpj.out, hp.out, hstep.out] at this
            exact e2 this.2.1
          replace hnow := Lib.hid hnow
          go_wp2_with fail
          refine (pairs_wrong r _ _ w7 (hg5.out.below bI7) (by decide) (by decide)).mono ?_
          rintro e w8 ⟨x, rfl, b8, he⟩
          replace he := Lib.hid he
          have bE := Below.step (b05.trans (bI7.mono b05.size)) b8
          go_wp2
          go_ret3
          exact ⟨_, _, _, rfl, bE, .inr ⟨hnow.out, rfl, rfl, he.out⟩⟩
      · have q1 : ((X1 : Int) != (u1 : Int)) = true := by rw [bne_iff_ne]; omega
        have hnow : ¬ AllFit K N T' ns := fun hA => by
          have := hA j (by have := hll.out; have := hjl2.out; omega)
          rw [hpj.out, hp.out, hstep.out] at this
          exact e1 this.1
        replace hnow := Lib.hid hnow
        go_wp2_with fail
        refine (pairs_wrong r _ _ w7 (hg5.out.below bI7) (by decide) (by decide)).mono ?_
        rintro e w8 ⟨x, rfl, b8, he⟩
        replace he := Lib.hid he
        have bE := Below.step (b05.trans (bI7.mono b05.size)) b8
        go_wp2
        go_ret3
        exact ⟨_, _, _, rfl, bE, .inr ⟨hnow.out, rfl, rfl, he.out⟩⟩
    · obtain rfl : j = L1 := by omega
      have hall : ns.take (j + 1) = ns := List.take_of_length_le (by have := hL1.out; omega)
      rw [hall] at hfa hfb
      have hoa := hr.ownI hfa
      have hob := hr.ownI hfb
      have hdis := hr.2 (1, 0) (2, 0) _ _ hfa hfb (by simp)
      have hAll : AllFit K N T' ns := fun i hi => hfit i (by have := hL1.out; omega)
      have hoa' := hoa.mono (B' := w.heap.size) b05.size
      have hob' := hob.mono (B' := w.heap.size) b05.size
      obtain ⟨a2a, a2n, a2c, rfl⟩ := hoa.at.shape
      obtain ⟨b2a, b2n, b2c, rfl⟩ := hob.at.shape
      replace hr := Lib.hid hr
      replace hfa := Lib.hid hfa
      replace hfb := Lib.hid hfb
      replace hoa := Lib.hid hoa
      replace hob := Lib.hid hob
      replace hoa' := Lib.hid hoa'
      replace hob' := Lib.hid hob'
      replace hdis := Lib.hid hdis
      replace hAll := Lib.hid hAll
      replace hfit := Lib.hid hfit
      go_wp2
      go_ret3
      exact ⟨_, _, _, rfl, b0o, .inl ⟨hAll.out, rfl, hoa'.out, hob'.out, hdis.out⟩⟩
end Go.Proofs.YtmhiambkfdkkbaaDoor

namespace Go.Proofs.YtmhiambkfdkkbaaDoor
open Go.RowKit
set_option maxRecDepth 100000

/-- No vertex of G. -/
def outG (G : List (List Int)) (a : Int) : Prop := a < 0 ∨ (G.length : Int) ≤ a
instance (G : List (List Int)) (a : Int) : Decidable (outG G a) := by unfold outG; infer_instance
/-- What Path tells of its arguments. -/
def pathE (G : List (List Int)) (a b : Int) : PErr :=
  match checkG G with
  | some t => some t
  | none => if outG G a then fresh sGraph 1 3 else if outG G b then fresh sGraph 2 3 else none
theorem pathE_none {G : List (List Int)} {a b : Int} (h : pathE G a b = none) : checkG G = none ∧ ∃ x y : Nat, a = x ∧ b = y ∧ x < G.length ∧ y < G.length := by
  unfold pathE at h
  cases hc : checkG G with
  | some t => rw [hc] at h; cases h
  | none =>
    rw [hc] at h
    dsimp only at h
    by_cases ha : outG G a
    · rw [if_pos ha] at h; cases h
    rw [if_neg ha] at h
    by_cases hb : outG G b
    · rw [if_pos hb] at h; cases h
    unfold outG at ha hb
    exact ⟨rfl, a.toNat, b.toNat, by omega, by omega, by omega, by omega⟩
theorem pathE_ok {G : List (List Int)} {x y : Nat} (hc : checkG G = none) (hx : x < G.length) (hy : y < G.length) : pathE G x y = none := by
  unfold pathE
  rw [hc]
  dsimp only
  rw [if_neg (by unfold outG; omega), if_neg (by unfold outG; omega)]
/-- What Path leaves. -/
def PathPost (r : Nat → Addr) (w : World) (G : List (List Int)) (a b : Int) (x y : Value) (w' : World) : Prop :=
  ErrIs r w' (pathE G a b) y ∧ (pathE G a b = none → FirstPost w (adjOf G) a.toNat b.toNat x w') ∧ (pathE G a b ≠ none → x = .slice none 0 0)
theorem FirstPost.step {w1 w2 w3 : World} {adj : Nat → List Nat} {a b : Nat} {x : Value} (h : FirstPost w2 adj a b x w3) (hs : w1.heap.size ≤ w2.heap.size) : FirstPost w1 adj a b x w3 := by
  rcases h with ⟨u, h1, h2⟩ | h
  · exact .inl ⟨u, h1, h2.mono hs⟩
  · exact .inr h
theorem FirstPost.shape {w w' : World} {adj : Nat → List Nat} {a b : Nat} {x : Value} (h : FirstPost w adj a b x w') : ∃ p n c, x = .slice p n c := by
  rcases h with ⟨u, _, h2⟩ | ⟨_, h⟩
  · exact h2.at.shape
  · exact ⟨_, _, _, h⟩

set_option maxHeartbeats 4000000 in
theorem path_any (r : Nat → Addr) (na : Option Addr) (nc : Nat) (G : List (List Int)) (a b : Int) (w : World) (hg : Glob r w) (h : ListsAt w (.slice na G.length nc) G) (hsz : ∀ k, k < G.length → (G.getD k []).length ≤ 17592186044416) :
    Calls Tryd.prog 93 #[.slice na G.length nc, .int .i64 a, .int .i64 b] w (Ret2 (PathPost r w G a b) w) := by
  have hC := graph_check r na nc G w hg h hsz
  cases hck : checkG G with
  | some t =>
    rw [hck] at hC
    have hp : pathE G a b = some t := by unfold pathE; rw [hck]
    replace hp := Lib.hid hp
    replace hck := Lib.hid hck
    replace h := Lib.hid h
    replace hg := Lib.hid hg
    replace hsz := Lib.hid hsz
    go_enter Tryd.func93, Tryd.ntmps93
    go_wp2_with fail
    refine hC.mono ?_
    rintro e w1 ⟨y, rfl, b1, he⟩
    obtain ⟨T, p, rfl⟩ := he.some_shape
    replace he := Lib.hid he
    go_wp2
    go_ret2
    exact ⟨_, _, rfl, b1, ⟨by rw [hp.out]; exact he.out, ⟨fun q => (by rw [hp.out] at q; cases q), fun _ => rfl⟩⟩⟩
  | none =>
    rw [hck] at hC
    obtain ⟨hn, harr, hok⟩ := checkG_none hck
    by_cases ha : outG G a
    · have hp : pathE G a b = fresh sGraph 1 3 := by unfold pathE; rw [hck]; dsimp only; rw [if_pos ha]
      replace hp := Lib.hid hp
      replace hck := Lib.hid hck
      replace h := Lib.hid h
      replace hg := Lib.hid hg
      replace hsz := Lib.hid hsz
      replace hok := Lib.hid hok
      rcases ha with ha | ha
      · go_enter Tryd.func93, Tryd.ntmps93
        go_wp2_with fail
        refine hC.mono ?_
        rintro e w1 ⟨y, rfl, b1, he⟩
        obtain rfl := he.none_eq
        clear he hC
        go_wp2_with fail
        refine (graph_wrong r _ _ _ (hg.out.below b1) (by decide) (by decide)).mono ?_
        rintro e w2 ⟨y, rfl, b2, he⟩
        replace he := Lib.hid he
        go_wp2
        go_ret2
        exact ⟨_, _, rfl, Below.step b1 b2, ⟨by rw [hp.out]; exact he.out, ⟨fun q => (by rw [hp.out] at q; cases q), fun _ => rfl⟩⟩⟩
      · have ha0 : ¬ a < 0 := by omega
        go_enter Tryd.func93, Tryd.ntmps93
        go_wp2_with fail
        refine hC.mono ?_
        rintro e w1 ⟨y, rfl, b1, he⟩
        obtain rfl := he.none_eq
        clear he hC
        go_wp2_with fail
        refine (graph_wrong r _ _ _ (hg.out.below b1) (by decide) (by decide)).mono ?_
        rintro e w2 ⟨y, rfl, b2, he⟩
        replace he := Lib.hid he
        go_wp2
        go_ret2
        exact ⟨_, _, rfl, Below.step b1 b2, ⟨by rw [hp.out]; exact he.out, ⟨fun q => (by rw [hp.out] at q; cases q), fun _ => rfl⟩⟩⟩
    · have ha1 : 0 ≤ a ∧ a < G.length := by unfold outG at ha; omega
      obtain ⟨ha1, ha2⟩ := ha1
      by_cases hb : outG G b
      · have hp : pathE G a b = fresh sGraph 2 3 := by unfold pathE; rw [hck]; dsimp only; rw [if_neg ha, if_pos hb]
        replace hp := Lib.hid hp
        replace hck := Lib.hid hck
        replace h := Lib.hid h
        replace hg := Lib.hid hg
        replace hsz := Lib.hid hsz
        replace hok := Lib.hid hok
        clear ha
        rcases hb with hb | hb
        · go_enter Tryd.func93, Tryd.ntmps93
          go_wp2_with fail
          refine hC.mono ?_
          rintro e w1 ⟨y, rfl, b1, he⟩
          obtain rfl := he.none_eq
          clear he hC
          go_wp2_with fail
          refine (graph_wrong r _ _ _ (hg.out.below b1) (by decide) (by decide)).mono ?_
          rintro e w2 ⟨y, rfl, b2, he⟩
          replace he := Lib.hid he
          go_wp2
          go_ret2
          exact ⟨_, _, rfl, Below.step b1 b2, ⟨by rw [hp.out]; exact he.out, ⟨fun q => (by rw [hp.out] at q; cases q), fun _ => rfl⟩⟩⟩
        · have hb0 : ¬ b < 0 := by omega
          go_enter Tryd.func93, Tryd.ntmps93
          go_wp2_with fail
          refine hC.mono ?_
          rintro e w1 ⟨y, rfl, b1, he⟩
          obtain rfl := he.none_eq
          clear he hC
          go_wp2_with fail
          refine (graph_wrong r _ _ _ (hg.out.below b1) (by decide) (by decide)).mono ?_
          rintro e w2 ⟨y, rfl, b2, he⟩
          replace he := Lib.hid he
          go_wp2
          go_ret2
          exact ⟨_, _, rfl, Below.step b1 b2, ⟨by rw [hp.out]; exact he.out, ⟨fun q => (by rw [hp.out] at q; cases q), fun _ => rfl⟩⟩⟩
      · have hb1 : 0 ≤ b ∧ b < G.length := by unfold outG at hb; omega
        obtain ⟨hb1, hb2⟩ := hb1
        have hp : pathE G a b = none := by unfold pathE; rw [hck]; dsimp only; rw [if_neg ha, if_neg hb]
        obtain ⟨x, rfl⟩ := Int.eq_ofNat_of_zero_le ha1
        obtain ⟨y, rfl⟩ := Int.eq_ofNat_of_zero_le hb1
        have hx : x < G.length := by omega
        have hy : y < G.length := by omega
        clear ha hb ha1 hb1 ha2 hb2
        replace hp := Lib.hid hp
        replace hck := Lib.hid hck
        replace h := Lib.hid h
        replace hg := Lib.hid hg
        replace hsz := Lib.hid hsz
        replace hok := Lib.hid hok
        go_enter Tryd.func93, Tryd.ntmps93
        go_wp2_with fail
        refine hC.mono ?_
        rintro e w1 ⟨y', rfl, b1, he⟩
        obtain rfl := he.none_eq
        clear he hC
        go_wp2_with fail
        refine (first_any na nc G x y _ (h.out.below b1) hok.out (by omega) hx hy hsz.out).mono ?_
        rintro e w2 ⟨z, rfl, b2, hz⟩
        obtain ⟨zp, zn, zc, rfl⟩ := hz.shape
        replace hz := Lib.hid hz
        go_wp2
        go_ret2
        exact ⟨_, _, rfl, Below.step b1 b2, ⟨by rw [hp.out]; rfl, ⟨fun _ => by rw [Int.toNat_natCast, Int.toNat_natCast]; exact hz.out.step b1.size, fun q => absurd hp.out q⟩⟩⟩
end Go.Proofs.YtmhiambkfdkkbaaDoor

namespace Go.Proofs.YtmhiambkfdkkbaaDoor
open Go.RowKit
set_option maxRecDepth 100000

/-- Arrows to v now lead to n. -/
def mapW (v n : Nat) (l : List Int) : List Int := l.map fun t => if t = (v : Int) then (n : Int) else t
theorem mapW_len (v n : Nat) (l : List Int) : (mapW v n l).length = l.length := by simp [mapW]
/-- The lists behind the first k. -/
def wideTo (G : List (List Int)) (v k : Nat) : Nat → List Int := fun u => if u < k then mapW v G.length (G.getD u []) else []
def wideG (G : List (List Int)) (v : Nat) : List (List Int) := rowsOf (G.length + 1) (wideTo G v G.length)
/-- Within a list: the first j. -/
def midW (v n : Nat) (l : List Int) (j : Nat) : List Int := mapW v n (l.take j) ++ l.drop j
theorem midW_zero (v n : Nat) (l : List Int) : midW v n l 0 = l := by simp [midW, mapW]
theorem midW_full (v n : Nat) (l : List Int) : midW v n l l.length = mapW v n l := by simp [midW]
theorem midW_len (v n : Nat) (l : List Int) (j : Nat) (hj : j ≤ l.length) : (midW v n l j).length = l.length := by simp [midW, mapW_len]; omega
theorem mapW_append (v n : Nat) (a b : List Int) : mapW v n (a ++ b) = mapW v n a ++ mapW v n b := by unfold mapW; exact List.map_append
theorem midW_next (v n : Nat) (l : List Int) (j : Nat) (hj : j < l.length) : midW v n l (j + 1) = mapW v n (l.take j) ++ (if l[j] = (v : Int) then (n : Int) else l[j]) :: l.drop (j + 1) := by
  unfold midW
  rw [take_snoc l j hj, mapW_append, List.append_assoc]
  rfl
theorem midW_now (v n : Nat) (l : List Int) (j : Nat) (hj : j < l.length) : midW v n l j = mapW v n (l.take j) ++ l[j] :: l.drop (j + 1) := by
  unfold midW
  rw [← List.drop_eq_getElem_cons hj]
theorem midW_step (v n : Nat) (l : List Int) (j : Nat) (hj : j < l.length) : midW v n l (j + 1) = (midW v n l j).set j (if l[j] = (v : Int) then (n : Int) else l[j]) := by
  have hl : (mapW v n (l.take j)).length = j := by rw [mapW_len, List.length_take]; omega
  rw [midW_next v n l j hj, midW_now v n l j hj, List.set_append_right _ _ (by omega), hl, Nat.sub_self, List.set_cons_zero]
theorem midW_same (v n : Nat) (l : List Int) (j : Nat) (hj : j < l.length) (he : l[j] ≠ (v : Int)) : midW v n l (j + 1) = midW v n l j := by
  rw [midW_next v n l j hj, midW_now v n l j hj, if_neg he]
theorem updN_updN {α : Type} (f : Nat → α) (k : Nat) (a b : α) : updN (updN f k a) k b = updN f k b := by
  funext x
  by_cases e : x = k
  · subst e; rw [updN_same, updN_same]
  · rw [updN_other _ _ _ e, updN_other _ _ _ e, updN_other _ _ _ e]
theorem wideTo_succ (G : List (List Int)) (v k : Nat) : updN (wideTo G v k) k (mapW v G.length (G.getD k [])) = wideTo G v (k + 1) := by
  funext u
  unfold wideTo
  by_cases e : u = k
  · subst e; rw [updN_same, if_pos (by omega)]
  · rw [updN_other _ _ _ e]
    by_cases q : u < k
    · rw [if_pos q, if_pos (by omega)]
    · rw [if_neg q, if_neg (by omega)]
theorem wideG_len (G : List (List Int)) (v : Nat) : (wideG G v).length = G.length + 1 := rowsOf_len _ _
theorem wideG_row (G : List (List Int)) (v u : Nat) (hu : u < G.length) : (wideG G v).getD u [] = mapW v G.length (G.getD u []) := by
  unfold wideG
  rw [rowsOf_get _ _ _ (by omega)]
  exact if_pos hu
theorem wideG_last (G : List (List Int)) (v : Nat) : (wideG G v).getD G.length [] = [] := by
  unfold wideG
  rw [rowsOf_get _ _ _ (by omega)]
  exact if_neg (by omega)
theorem wideG_ok {G : List (List Int)} (hok : GraphOk G) (v : Nat) : GraphOk (wideG G v) := by
  intro u hu t ht
  rw [wideG_len] at hu ⊢
  by_cases e : u < G.length
  · rw [wideG_row G v u e] at ht
    obtain ⟨x, hx, rfl⟩ := List.mem_map.1 ht
    have := hok u e x hx
    split <;> omega
  · obtain rfl : u = G.length := by omega
    rw [wideG_last] at ht; cases ht
theorem wide_adj {G : List (List Int)} (hok : GraphOk G) (v : Nat) {u : Nat} (hu : u < G.length) (t : Nat) : t ∈ adjOf (wideG G v) u ↔ (t ≠ v ∧ t ∈ adjOf G u ∧ t < G.length) ∨ (t = G.length ∧ v ∈ adjOf G u) := by
  unfold adjOf
  rw [wideG_row G v u hu]
  simp only [List.mem_map, mapW]
  constructor
  · rintro ⟨y, ⟨x, hx, rfl⟩, rfl⟩
    have := hok u hu x hx
    by_cases e : x = (v : Int)
    · rw [if_pos e]; exact .inr ⟨by simp, x, hx, by rw [e]; simp⟩
    · rw [if_neg e]; exact .inl ⟨by omega, ⟨x, hx, rfl⟩, by omega⟩
  · rintro (⟨h1, ⟨x, hx, rfl⟩, _⟩ | ⟨rfl, x, hx, he⟩)
    · have := hok u hu x hx
      exact ⟨x, ⟨x, hx, if_neg (by omega)⟩, rfl⟩
    · have := hok u hu x hx
      exact ⟨(G.length : Int), ⟨x, hx, if_pos (by omega)⟩, by simp⟩
theorem wide_end (G : List (List Int)) (v : Nat) : adjOf (wideG G v) G.length = [] := by unfold adjOf; rw [wideG_last]; rfl
/-- What Loop tells of its arguments. -/
def loopE (G : List (List Int)) (a : Int) : PErr :=
  match checkG G with
  | some t => some t
  | none => if outG G a then fresh sGraph 1 3 else none
theorem loopE_ok {G : List (List Int)} {x : Nat} (hc : checkG G = none) (hx : x < G.length) : loopE G x = none := by
  unfold loopE
  rw [hc]
  dsimp only
  rw [if_neg (by unfold outG; omega)]
def LoopWay (w : World) (G : List (List Int)) (v : Nat) (x : Value) (w' : World) : Prop :=
  (∃ u, IsFirst (adjOf (wideG G v)) v G.length u ∧ OwnI w.heap.size w' x (castI u.dropLast)) ∨ (¬ Goes (adjOf (wideG G v)) v G.length ∧ x = .slice none 0 0)
/-- What Loop leaves. -/
def LoopPost (r : Nat → Addr) (w : World) (G : List (List Int)) (a : Int) (x y : Value) (w' : World) : Prop :=
  ErrIs r w' (loopE G a) y ∧ (loopE G a = none → LoopWay w G a.toNat x w') ∧ (loopE G a ≠ none → x = .slice none 0 0)
/-- One's own slice, cut at its end. -/
theorem OwnI.cut {B : Nat} {w : World} {g m c : Nat} {xs : List Int} (h : OwnI B w (.slice (some ⟨g, 0, none⟩) (m + 1) c) xs) (hl : xs.length = m + 1) : OwnI B w (.slice (some ⟨g, 0, none⟩) m c) (xs.take m) := by
  rcases h.2 with ⟨e, _⟩ | ⟨g', cap', cur, e, hB, hg, hn, hm, hs, ht⟩
  · cases e
  · injection e with e1 e2 e3
    injection e1 with e1
    injection e1 with e1
    subst e1; subst e3
    have hml : (xs.take m).length = m := by simp; omega
    refine ⟨by simp, .inr ⟨g, c, cur, by rw [hml], hB, hg, by rw [hml]; omega, hm, hs, ?_⟩⟩
    rw [hml]
    rw [hl] at ht
    have := congrArg (List.take m) ht
    rw [List.take_take] at this
    simp only [Nat.mul_one] at this ⊢
    rw [Nat.min_eq_left (by omega)] at this
    rw [this, List.map_take]

set_option maxHeartbeats 1000000 in
theorem loopG_any (r : Nat → Addr) (na : Option Addr) (nc : Nat) (G : List (List Int)) (a : Int) (w : World) (hg : Glob r w) (h : ListsAt w (.slice na G.length nc) G) (hsz : ∀ k, k < G.length → (G.getD k []).length ≤ 17592186044416) :
    Calls Tryd.prog 92 #[.slice na G.length nc, .int .i64 a] w (Ret2 (LoopPost r w G a) w) := by
  have hC := graph_check r na nc G w hg h hsz
  cases hck : checkG G with
  | some t =>
    rw [hck] at hC
    have hp : loopE G a = some t := by unfold loopE; rw [hck]
    replace hp := Lib.hid hp
    replace hck := Lib.hid hck
    replace h := Lib.hid h
    replace hg := Lib.hid hg
    replace hsz := Lib.hid hsz
    go_enter Tryd.func92, Tryd.ntmps92
    go_wp2_with fail
    refine hC.mono ?_
    rintro e w1 ⟨y, rfl, b1, he⟩
    obtain ⟨T, p, rfl⟩ := he.some_shape
    replace he := Lib.hid he
    go_wp2
    go_ret2
    exact ⟨_, _, rfl, b1, ⟨by rw [hp.out]; exact he.out, ⟨fun q => (by rw [hp.out] at q; cases q), fun _ => rfl⟩⟩⟩
  | none =>
    rw [hck] at hC
    obtain ⟨hn, harr, hok⟩ := checkG_none hck
    by_cases ha : outG G a
    · have hp : loopE G a = fresh sGraph 1 3 := by unfold loopE; rw [hck]; dsimp only; rw [if_pos ha]
      replace hp := Lib.hid hp
      replace hck := Lib.hid hck
      replace h := Lib.hid h
      replace hg := Lib.hid hg
      replace hsz := Lib.hid hsz
      replace hok := Lib.hid hok
      rcases ha with ha | ha
      · go_enter Tryd.func92, Tryd.ntmps92
        go_wp2_with fail
        refine hC.mono ?_
        rintro e w1 ⟨y, rfl, b1, he⟩
        obtain rfl := he.none_eq
        clear he hC
        go_wp2_with fail
        refine (graph_wrong r _ _ _ (hg.out.below b1) (by decide) (by decide)).mono ?_
        rintro e w2 ⟨y, rfl, b2, he⟩
        replace he := Lib.hid he
        go_wp2
        go_ret2
        exact ⟨_, _, rfl, Below.step b1 b2, ⟨by rw [hp.out]; exact he.out, ⟨fun q => (by rw [hp.out] at q; cases q), fun _ => rfl⟩⟩⟩
      · have ha0 : ¬ a < 0 := by omega
        go_enter Tryd.func92, Tryd.ntmps92
        go_wp2_with fail
        refine hC.mono ?_
        rintro e w1 ⟨y, rfl, b1, he⟩
        obtain rfl := he.none_eq
        clear he hC
        go_wp2_with fail
        refine (graph_wrong r _ _ _ (hg.out.below b1) (by decide) (by decide)).mono ?_
        rintro e w2 ⟨y, rfl, b2, he⟩
        replace he := Lib.hid he
        go_wp2
        go_ret2
        exact ⟨_, _, rfl, Below.step b1 b2, ⟨by rw [hp.out]; exact he.out, ⟨fun q => (by rw [hp.out] at q; cases q), fun _ => rfl⟩⟩⟩
    · have ha1 : 0 ≤ a ∧ a < G.length := by unfold outG at ha; omega
      obtain ⟨ha1, ha2⟩ := ha1
      obtain ⟨v, rfl⟩ := Int.eq_ofNat_of_zero_le ha1
      have hv : v < G.length := by omega
      have hp : loopE G (v : Int) = none := loopE_ok hck hv
      have hd1 : decide ((v : Int) < 0) = false := by simp
      have hd2 : decide (G.length ≤ v) = false := by simp; omega
      clear ha ha1 ha2
      replace hp := Lib.hid hp
      replace hck := Lib.hid hck
      replace h := Lib.hid h
      replace hg := Lib.hid hg
      replace hsz := Lib.hid hsz
      replace hok := Lib.hid hok
      go_enter Tryd.func92, Tryd.ntmps92
      go_wp2_with fail
      refine hC.mono ?_
      rintro e w1 ⟨y', rfl, b1, he⟩
      obtain rfl := he.none_eq
      clear he hC
      obtain ⟨ov, w2, mk, ho, hb2⟩ := run_makeW oneLists ((G.length : Int) + 1) (G.length + 1) w1 (by omega) (by omega)
      obtain ⟨f1, hr1, h1⟩ := WN.made (G.length + 1) hb2 (Nat.le_refl _) ho
      have h1 : WN f1 ov (List.replicate (G.length + 1) (.slice none 0 0)) (G.length + 1) (wideTo G v 0) := by
        have : (fun _ : Nat => ([] : List Int)) = wideTo G v 0 := by funext u; unfold wideTo; rw [if_neg (by omega)]
        rw [← this]; exact h1
      obtain ⟨oa, on, oc, rfl⟩ := ho.shape
      replace ho := Lib.hid ho
      replace hr1 := Lib.hid hr1
      go_wp2_with fail
      clear mk
      go_loopw [35] (fun kv wr => ∃ (k : Nat) (f : Names) (vals : List Value), k ≤ G.length ∧ kv = .int .i64 k ∧ Rows w1.heap.size wr f ∧ Below w1.heap.size w1 wr ∧ WN f (.slice oa on oc) vals (G.length + 1) (wideTo G v k)) (fun kv _ => G.length - (intOf kv).toNat)
      case atStart => exact ⟨0, f1, _, by omega, rfl, hr1.out, hb2, h1⟩
      case round =>
        clear h1 ho hr1
        obtain ⟨k, f2, vals, hk, rfl, hr2, b2, h2⟩ := hrel
        obtain ⟨wo, rfl⟩ : ∃ wo : World, wo = wr := ⟨_, rfl⟩
        by_cases hlt : k < G.length
        · obtain ⟨mv, iR, cR0, hM0⟩ := h.out.row k hlt
          have hbw : Below w.heap.size w wo := b1.trans (b2.mono b1.size)
          have cR := (hbw.cell (World.block_lt_of_cell? _ _ cR0)).trans cR0
          have hM := hM0.below hbw
          have hglen := hsz.out k hlt
          have hsucc := wideTo_succ G v k
          generalize G.getD k [] = gk at *
          have hcl := clone_any mv gk wo hM hglen
          have hOV := (hr2.ownV h2.outer).at
          have iO := fun w' => hOV.idx oneLists k (by rw [h2.len]; omega) w'
          have hput := fun (w1' : World) (v' : Value) (xs : List Int) => h2.put (B := w1.heap.size) (w1 := w1') (u := k) (by omega) (v' := v') (xs := xs)
          have hnew := fun (w1' : World) (v' : Value) (xs : List Int) => h2.new (B := w1.heap.size) hr2 (w1 := w1') k (v' := v') (xs := xs)
          have hBo := b2.size
          generalize valAt (.slice na G.length nc) k = ra at *
          obtain ⟨ua, hua⟩ : ∃ ua, valAt (.slice oa on oc) k = ua := ⟨_, rfl⟩
          rw [hua] at iO
          simp only [hua] at hput
          replace hua := Lib.hid hua
          replace hput := Lib.hid hput
          replace hnew := Lib.hid hnew
          replace hOV := Lib.hid hOV
          replace hr2 := Lib.hid hr2
          replace hM := Lib.hid hM
          replace hM0 := Lib.hid hM0
          replace hcl := Lib.hid hcl
          replace hsucc := Lib.hid hsucc
          go_wp2_with fail
          clear cR cR0 iR hbw
          refine hcl.out.mono ?_
          rintro e w3 ⟨cv, rfl, b3, hcv⟩
          have hR3 := hnew.out w3 cv gk b3 hBo hcv
          obtain ⟨y1, y2, y3, f4, hr4, h4, _⟩ := hput.out w3 cv gk hR3
          obtain ⟨va, vn, vc, rfl⟩ := hcv.at.shape
          have b4 : Below w1.heap.size w1 (w3.setCell ua (.slice va vn vc)) := (b2.trans (b3.mono hBo)).setCell y3 _
          have h4 : WN f4 (.slice oa on oc) (vals.set k (.slice va vn vc)) (G.length + 1) (updN (wideTo G v k) k (midW v G.length gk 0)) := by rw [midW_zero]; exact h4
          have lM := (hM0.out.below (b1.trans (b4.mono b1.size))).len
          obtain ⟨W4, hW4⟩ : ∃ W4 : World, W4 = w3.setCell ua (.slice va vn vc) := ⟨_, rfl⟩
          rw [← hW4] at hr4 b4
          replace hr4 := Lib.hid hr4
          replace hR3 := Lib.hid hR3
          replace hcv := Lib.hid hcv
          clear hcl
          go_upto_region 12 with fail
          rw [← hW4]
          clear hW4 y1 y2 iO
          go_wp2_with fail
          clear lM
          generalize vals.set k (.slice va vn vc) = vals at *
          go_loopw [47] (fun jv wr => ∃ (j : Nat) (f : Names) (vals : List Value), j ≤ gk.length ∧ jv = .int .i64 j ∧ Rows w1.heap.size wr f ∧ Below w1.heap.size w1 wr ∧ WN f (.slice oa on oc) vals (G.length + 1) (updN (wideTo G v k) k (midW v G.length gk j))) (fun jv _ => gk.length - (intOf jv).toNat)
          case atStart => exact ⟨0, f4, _, by omega, rfl, hr4.out, b4, h4⟩
          case round =>
            clear hr4 h4 b4 hR3 hcv hM hr2 hnew hput hOV y3
            obtain ⟨j, f5, vals, hj, rfl, hr5, b5, h5⟩ := hrel
            obtain ⟨wo, rfl⟩ : ∃ wo : World, wo = wr := ⟨_, rfl⟩
            by_cases hjl : j < gk.length
            · have hMj := hM0.out.below (b1.trans (b5.mono b1.size))
              have iJ := fun w' => hMj.idx j hjl w'
              have cJ := hMj.cell j hjl
              generalize valAt mv j = ja at *
              have hstep := midW_step v G.length gk j hjl
              have hsame := midW_same v G.length gk j hjl
              obtain ⟨t, ht⟩ : ∃ t, gk[j] = t := ⟨_, rfl⟩
              rw [ht] at cJ hstep hsame
              replace hMj := Lib.hid hMj
              replace ht := Lib.hid ht
              by_cases htv : t = (v : Int)
              · have hq : (t == (v : Int)) = true := by simp [htv]
                rw [if_pos htv] at hstep
                have hOV := (hr5.ownV h5.outer).at
                have iO := fun w' => hOV.idx oneLists k (by rw [h5.len]; omega) w'
                have cO := hOV.cellV k (by rw [h5.len]; omega)
                have hrow := hr5.ownI (h5.rows k (by omega))
                rw [updN_same] at hrow
                have hml : (midW v G.length gk j).length = gk.length := midW_len _ _ _ _ hj
                have iE := fun w' => hrow.at.idx j (by rw [hml]; exact hjl) w'
                have cE := hrow.at.cellD j (by rw [hml]; exact hjl)
                have fE := hrow.frz j (by rw [hml]; exact hjl)
                have kE := (hrow.toV.blkB j (by rw [List.length_map, hml]; exact hjl)).2
                obtain ⟨f6, hr6, h6⟩ := h5.elem hr5 k (by omega) j (by rw [updN_same, hml]; exact hjl) (G.length : Int)
                rw [updN_same, ← hstep, updN_updN] at h6
                have b6 : Below w1.heap.size w1 (wo.setCell (valAt (vAt vals k) j) (.int .i64 (G.length : Int))) := b5.setCell kE _
                generalize valAt (vAt vals k) j = ea at *
                generalize vAt vals k = ev at *
                generalize valAt (.slice oa on oc) k = ua at *
                generalize (midW v G.length gk j).getD j 0 = eo at *
                subst htv
                replace hr6 := Lib.hid hr6
                replace hr5 := Lib.hid hr5
                replace hOV := Lib.hid hOV
                replace hrow := Lib.hid hrow
                replace hstep := Lib.hid hstep
                replace hsame := Lib.hid hsame
                replace hml := Lib.hid hml
                go_wp2
                go_roundw
                case measure => simp [intOf]; omega
                case rel => exact ⟨j + 1, f6, vals, by omega, by go_num, hr6.out, b6, h6⟩
              · have hq : (t == (v : Int)) = false := by simp [htv]
                have h6 := h5
                rw [← hsame htv] at h6
                replace hr5 := Lib.hid hr5
                replace hstep := Lib.hid hstep
                replace hsame := Lib.hid hsame
                go_wp2
                go_roundw
                case measure => simp [intOf]; omega
                case rel => exact ⟨j + 1, f5, vals, by omega, by go_num, hr5.out, b5, h6⟩
            · obtain rfl : j = gk.length := by omega
              rw [midW_full, hsucc.out] at h5
              replace hr5 := Lib.hid hr5
              go_wp2
              go_roundw
              case measure => simp [intOf]; omega
              case rel => exact ⟨k + 1, f5, vals, by omega, by go_num, hr5.out, b5, h5⟩
        · obtain rfl : k = G.length := by omega
          have hWL := h2.lists hr2
          have hWL : ListsAt wo (.slice oa on oc) (wideG G v) := hWL
          obtain ⟨oa', oc', he⟩ := hWL.shape
          injection he with he1 he2 he3
          clear he1 he3
          rw [he2] at hWL
          have hF := first_any oa oc (wideG G v) v G.length wo hWL (wideG_ok hok.out v) (by rw [wideG_len]; omega) (by rw [wideG_len]; omega) (by rw [wideG_len]; omega) (fun u hu => by
            rw [wideG_len] at hu
            by_cases e : u < G.length
            · rw [wideG_row G v u e, mapW_len]; exact hsz.out u e
            · obtain rfl : u = G.length := by omega
              rw [wideG_last]; exact Nat.zero_le _)
          rw [← he2] at hF
          replace hF := Lib.hid hF
          replace he2 := Lib.hid he2
          replace hWL := Lib.hid hWL
          replace hr2 := Lib.hid hr2
          go_wp2_with fail
          refine hF.out.mono ?_
          rintro e w5 ⟨xv, rfl, b5, hx⟩
          have hbw : Below w.heap.size w wo := b1.trans (b2.mono b1.size)
          rcases hx with ⟨u, hu, hxo⟩ | ⟨hno, rfl⟩
          · have hul := hu.way.pos
            obtain ⟨g, c, e1, e2⟩ := row_shape (show w5.ownsRow wo.heap.size 3 1 xv (castI u).length ((castI u).map (Value.int .i64)) from hxo) (by rw [castI_len]; exact hul)
            obtain ⟨m, hm⟩ : ∃ m, u.length = m + 1 := ⟨u.length - 1, by omega⟩
            rw [castI_len, hm] at e1 e2
            subst e1
            have hcut := hxo.cut (by rw [castI_len, hm])
            have hdl : (castI u).take m = castI u.dropLast := by
              unfold castI
              rw [List.dropLast_eq_take, hm, ← List.map_take]; rfl
            rw [hdl] at hcut
            have hmb : m ≤ 9223372036854775806 := by
              have := hxo.at.len_le
              rw [castI_len, hm] at this; omega
            have hwr : IntKind.i64.wrap (m : Int) = m := wrapK (by omega) (by omega)
            have hsl : (0 ≤ (m : Int) ∧ (m : Int) ≤ (c : Int)) := ⟨by omega, by omega⟩
            have hne : (((m : Int) + 1) == 0) = false := by rw [beq_eq_false_iff_ne]; omega
            replace hcut := Lib.hid hcut
            replace hxo := Lib.hid hxo
            replace hdl := Lib.hid hdl
            replace hm := Lib.hid hm
            go_wp2
            go_ret2
            exact ⟨_, _, rfl, Below.step hbw b5, ⟨by rw [hp.out]; rfl, ⟨fun _ => by rw [Int.toNat_natCast]; exact .inl ⟨u, hu, hcut.out.mono hbw.size⟩, fun q => absurd hp.out q⟩⟩⟩
          · replace hno := Lib.hid hno
            go_wp2
            go_ret2
            exact ⟨_, _, rfl, Below.step hbw b5, ⟨by rw [hp.out]; rfl, ⟨fun _ => by rw [Int.toNat_natCast]; exact .inr ⟨hno.out, rfl⟩, fun q => absurd hp.out q⟩⟩⟩
end Go.Proofs.YtmhiambkfdkkbaaDoor

namespace Go.Proofs.YtmhiambkfdkkbaaDoor
open Go.RowKit
set_option maxRecDepth 100000

def sixG : List (List Int) := [[1], [2], [1, 3], [4], [4], [0]]
theorem six_check : checkG sixG = none := by rfl
theorem six_ok : GraphOk sixG := (checkG_none six_check).2.2
theorem six_sz : ∀ k, k < sixG.length → (sixG.getD k []).length ≤ 17592186044416 := by
  intro k hk
  have : k < 6 := hk
  match k, this with
  | 0, _ => decide
  | 1, _ => decide
  | 2, _ => decide
  | 3, _ => decide
  | 4, _ => decide
  | 5, _ => decide
/-- A number for each vertex that no arrow lowers. -/
def rk6 (v : Nat) : Nat := [1, 2, 2, 3, 4, 0].getD v 9
theorem adj6 (v : Nat) : adjOf sixG v = [[1], [2], [1, 3], [4], [4], [0]].getD v [] := by
  match v with
  | 0 => rfl
  | 1 => rfl
  | 2 => rfl
  | 3 => rfl
  | 4 => rfl
  | 5 => rfl
  | n + 6 => rfl
theorem rk6_step {x t : Nat} (ht : t ∈ adjOf sixG x) : rk6 x ≤ rk6 t := by
  rw [adj6] at ht
  match x, ht with
  | 0, ht => simp at ht; subst ht; decide
  | 1, ht => simp at ht; subst ht; decide
  | 2, ht => simp at ht; rcases ht with rfl | rfl <;> decide
  | 3, ht => simp at ht; subst ht; decide
  | 4, ht => simp at ht; subst ht; decide
  | 5, ht => simp at ht; subst ht; decide
  | n + 6, ht => simp at ht
theorem rk6_goes {x y : Nat} (h : Goes (adjOf sixG) x y) : rk6 x ≤ rk6 y := by
  induction h with
  | refl => exact Nat.le_refl _
  | step _ hz ih => exact Nat.le_trans ih (rk6_step hz)
theorem g01 : Goes (adjOf sixG) 0 1 := .one (by rw [adj6]; decide)
theorem g12 : Goes (adjOf sixG) 1 2 := .one (by rw [adj6]; decide)
theorem g21 : Goes (adjOf sixG) 2 1 := .one (by rw [adj6]; decide)
theorem g23 : Goes (adjOf sixG) 2 3 := .one (by rw [adj6]; decide)
theorem g34 : Goes (adjOf sixG) 3 4 := .one (by rw [adj6]; decide)
theorem six_parts {ps : List Int} (h : PartsOf sixG.length (adjOf sixG) ps) : ps = [0, 1, 1, 2, 3, 4] := by
  obtain ⟨p, hp, rfl⟩ := h
  have ne : ∀ x y, x < 6 → y < 6 → rk6 x ≠ rk6 y → p x ≠ p y := fun x y hx hy hr he => by
    obtain ⟨a, b⟩ := (hp x y hx hy).1 he
    have := rk6_goes a
    have := rk6_goes b
    omega
  have e12 : p 2 = p 1 := (hp 2 1 (by decide) (by decide)).2 ⟨g21, g12⟩
  have h10 := ne 1 0 (by decide) (by decide) (by decide)
  have h30 := ne 3 0 (by decide) (by decide) (by decide)
  have h31 := ne 3 1 (by decide) (by decide) (by decide)
  have h40 := ne 4 0 (by decide) (by decide) (by decide)
  have h41 := ne 4 1 (by decide) (by decide) (by decide)
  have h43 := ne 4 3 (by decide) (by decide) (by decide)
  have h50 := ne 5 0 (by decide) (by decide) (by decide)
  have h51 := ne 5 1 (by decide) (by decide) (by decide)
  have h53 := ne 5 3 (by decide) (by decide) (by decide)
  have h54 := ne 5 4 (by decide) (by decide) (by decide)
  have o0 : numO p 0 = 0 := by simp [numO, numM, updM]
  have o1 : numO p 1 = 1 := by simp [numO, numM, updM, h10]
  have o2 : numO p 2 = 1 := by rw [(numO_eq p 2 1).2 e12]; exact o1
  have m2 : numM p 3 = numM p 2 := by
    show (if _ then _ else _) = _
    rw [if_pos]
    rw [e12]
    have := numM_own p 1
    rw [this]; rfl
  have m2s : (numM p 2).2 = 2 := by simp [numM, updM, h10]
  have m2n : ∀ q, q ≠ p 0 → q ≠ p 1 → (numM p 2).1 q = none := fun q h0 h1 => by simp [numM, updM, h10, h0, h1]
  have m3 : numM p 4 = (updM (numM p 2).1 (p 3) 2, 3) := by
    show (if ((numM p 3).1 (p 3)).isSome then _ else _) = _
    rw [m2, m2n _ h30 h31, m2s]; rfl
  have o3 : numO p 3 = 2 := by unfold numO; rw [m3]; simp [updM]
  have m4 : numM p 5 = (updM (updM (numM p 2).1 (p 3) 2) (p 4) 3, 4) := by
    have e : (updM (numM p 2).1 (p 3) 2) (p 4) = none := by unfold updM; rw [if_neg h43]; exact m2n _ h40 h41
    show (if ((numM p 4).1 (p 4)).isSome then _ else _) = _
    rw [if_neg (by rw [m3]; show ¬ ((updM (numM p 2).1 (p 3) 2) (p 4)).isSome = true; rw [e]; decide), m3]; rfl
  have o4 : numO p 4 = 3 := by unfold numO; rw [m4]; simp [updM]
  have m5 : numM p 6 = (updM (updM (updM (numM p 2).1 (p 3) 2) (p 4) 3) (p 5) 4, 5) := by
    have e : (updM (updM (numM p 2).1 (p 3) 2) (p 4) 3) (p 5) = none := by unfold updM; rw [if_neg h54, if_neg h53]; exact m2n _ h50 h51
    show (if ((numM p 5).1 (p 5)).isSome then _ else _) = _
    rw [if_neg (by rw [m4]; show ¬ ((updM (updM (numM p 2).1 (p 3) 2) (p 4) 3) (p 5)).isSome = true; rw [e]; decide), m4]; rfl
  have o5 : numO p 5 = 4 := by unfold numO; rw [m5]; simp [updM]
  show [numO p 0, numO p 1, numO p 2, numO p 3, numO p 4, numO p 5] = _
  rw [o0, o1, o2, o3, o4, o5]
theorem six_live {L : List Nat} (h : LiveList sixG.length (adjOf sixG) L) : L = [1, 2, 3, 4] := by
  refine h.unique ⟨by decide, fun v => ?_⟩
  have l1 : OnLoop (adjOf sixG) 1 := ⟨2, by rw [adj6]; decide, g21⟩
  have l4 : OnLoop (adjOf sixG) 4 := ⟨4, by rw [adj6]; decide, .refl 4⟩
  have onl : ∀ u, OnLoop (adjOf sixG) u → u < 6 → 2 ≤ rk6 u := fun u ⟨t, ht, hg⟩ hu => by
    rw [adj6] at ht
    match u, ht, hu with
    | 0, ht, _ => simp at ht; subst ht; have := rk6_goes hg; exact absurd this (by decide)
    | 1, _, _ => decide
    | 2, _, _ => decide
    | 3, _, _ => decide
    | 4, _, _ => decide
    | 5, ht, _ => simp at ht; subst ht; have := rk6_goes hg; exact absurd this (by decide)
    | n + 6, _, hu => omega
  constructor
  · intro hv
    simp at hv
    rcases hv with rfl | rfl | rfl | rfl
    · exact ⟨by decide, ⟨1, by decide, l1, .refl 1⟩, 4, by decide, l4, g12.trans (g23.trans g34)⟩
    · exact ⟨by decide, ⟨1, by decide, l1, g12⟩, 4, by decide, l4, g23.trans g34⟩
    · exact ⟨by decide, ⟨1, by decide, l1, g12.trans g23⟩, 4, by decide, l4, g34⟩
    · exact ⟨by decide, ⟨1, by decide, l1, g12.trans (g23.trans g34)⟩, 4, by decide, l4, .refl 4⟩
  · rintro ⟨hv, ⟨u, hu, h1, h2⟩, _⟩
    have a := onl u h1 hu
    have b := rk6_goes h2
    have hv : v < 6 := hv
    match v, hv, b with
    | 0, _, b => exact absurd (Nat.le_trans a b) (by decide)
    | 1, _, _ => decide
    | 2, _, _ => decide
    | 3, _, _ => decide
    | 4, _, _ => decide
    | 5, _, b => exact absurd (Nat.le_trans a b) (by decide)
    | n + 6, hv, _ => omega
/-- How many arrows to 4, at the least. -/
def ds6 (v : Nat) : Nat := [4, 3, 2, 1, 0, 5].getD v 9
theorem ds6_way {x y : Nat} {w : List Nat} (h : Way (adjOf sixG) x y w) : y = 4 → ds6 x + 1 ≤ w.length := by
  induction h with
  | one x => intro h; subst h; decide
  | @cons x t y w ht h ih =>
    intro hy
    have := ih hy
    have hx : ds6 x ≤ ds6 t + 1 := by
      rw [adj6] at ht
      match x, ht with
      | 0, ht => simp at ht; subst ht; decide
      | 1, ht => simp at ht; subst ht; decide
      | 2, ht => simp at ht; rcases ht with rfl | rfl <;> decide
      | 3, ht => simp at ht; subst ht; decide
      | 4, ht => simp at ht; subst ht; decide
      | 5, ht => simp at ht; subst ht; decide
      | n + 6, ht => simp at ht
    simp only [List.length_cons]; omega
theorem six_path {u : List Nat} (h : IsFirst (adjOf sixG) 0 4 u) : u = [0, 1, 2, 3, 4] := by
  have hw : Way (adjOf sixG) 0 4 [0, 1, 2, 3, 4] := .cons (by rw [adj6]; decide) (.cons (by rw [adj6]; decide) (.cons (by rw [adj6]; decide) (.cons (by rw [adj6]; decide) (.one 4))))
  have h5 := h.short _ hw
  have hu := h.way
  cases hu with
  | cons ht h1 =>
    rw [adj6] at ht; simp at ht; subst ht
    cases h1 with
    | cons ht h2 =>
      rw [adj6] at ht; simp at ht; subst ht
      cases h2 with
      | cons ht h3 =>
        rw [adj6] at ht; simp at ht
        rcases ht with rfl | rfl
        · have := ds6_way h3 rfl
          simp only [List.length_cons] at h5
          have e : ds6 1 = 3 := rfl
          simp at h5
          omega
        · cases h3 with
          | cons ht h4 =>
            rw [adj6] at ht; simp at ht; subst ht
            cases h4 with
            | one => rfl
            | cons ht h6 =>
              have := h6.pos
              simp only [List.length_cons, List.length_nil] at h5
              omega
theorem six_goes : Goes (adjOf sixG) 0 4 := g01.trans (g12.trans (g23.trans g34))

end Go.Proofs.YtmhiambkfdkkbaaDoor

namespace Go.Proofs.YtmhiambkfdkkbaaDoor
open Go.RowKit
set_option maxRecDepth 100000

theorem lit_ints (w : World) (xs : List Int) (cs : Array Value) (hc : cs.toList = xs.map (Value.int .i64)) (hl : xs.length ≤ 10) : IntsAt (w.alloc (.cells cs 3)) (.slice (some ⟨w.heap.size, 0, none⟩) xs.length xs.length) xs :=
  (OwnI.lit w.heap.size w (Nat.le_refl _) xs (by unfold maxLen; omega) cs hc xs.length rfl).at

/-- heavy: what it tells of lists that are not. -/
def HeavyPost (G : List (List Int)) (x : Value) : Prop := ∃ b : Bool, x = .bool b ∧ (b = false → G.length ≤ 300 ∧ arrowsTo G G.length ≤ 4000)
/-- vertex: what it tells where it says yes. -/
def VertexPost (G : List (List Int)) (a : Int) (x : Value) : Prop := ∃ b : Bool, x = .bool b ∧ (b = true → G.length ≤ 300 ∧ arrowsTo G G.length ≤ 4000 ∧ checkG G = none ∧ ∃ v : Nat, a = v ∧ v < G.length)
end Go.Proofs.YtmhiambkfdkkbaaDoor

namespace Go.Proofs.YtmhiambkfdkkbaaDoor
open Go.RowKit
set_option maxRecDepth 100000

def zT : List Int := List.replicate 8 0
theorem zT_ok : RuleOk 2 1 zT := ⟨by decide, by decide, by decide, by decide, fun x hx => by rw [List.eq_of_mem_replicate hx]; decide⟩
theorem zT_two : ∀ p, p < 16 → ∀ q, q < 16 → ∃ t ∈ pairL 2 4 zT p, q ∈ pairL 2 4 zT t := by decide +kernel
theorem zT_goes {p q : Nat} (hp : p < 16) (hq : q < 16) : Goes (adjOf (pairG 2 4 zT)) p q := by
  obtain ⟨t, ht, hqt⟩ := zT_two p hp q hq
  exact (pairG_goes (by decide) (.step (.one ht) hqt) hp).1
theorem zT_loop {p : Nat} (hp : p < 16) : OnLoop (adjOf (pairG 2 4 zT)) p := by
  obtain ⟨t, ht, hqt⟩ := zT_two p hp p hp
  refine ⟨t, by rw [pairG_adj (N := 4) hp]; exact ht, ?_⟩
  have htl : t < 16 := ((mem_pairL (N := 4) (by decide)).1 ht).lt (by decide)
  exact zT_goes htl hp
theorem zT_live {L : List Nat} (h : LiveList 16 (adjOf (pairG 2 4 zT)) L) : L = List.range 16 :=
  h.unique ⟨List.pairwise_lt_range, fun v => by
    rw [List.mem_range]
    exact ⟨fun q => ⟨q, ⟨v, q, zT_loop q, .refl _⟩, ⟨v, q, zT_loop q, .refl _⟩⟩, fun q => q.1⟩⟩
theorem zT_words : AllFit 2 4 zT [1, 6, 13] := by
  intro i hi
  have : i = 0 ∨ i = 1 := by simp at hi; omega
  rcases this with rfl | rfl <;> decide

theorem zT_wkR : wkR 1 = 1 := rfl
theorem zT_wkT : wkT 2 1 zT = zT := rfl
theorem zT_pw : pw 2 (2 * 1) = 4 := by decide
theorem zT_pwords (r : Nat → Addr) (ta : Option Addr) (tn tc : Nat) (u : Value) (w : World) (hg : Glob r w) (h : IntsAt w (.slice ta tn tc) zT) (hu : IntsAt w u [1, 6, 13]) :
    Calls Tryd.prog 20 #[.agg #[.int .i64 2, .int .i64 1, .slice ta tn tc], u] w (Ret3 (fun x y z w' => z = .nilIface ∧ IntsAt w' x [0, 0, 1, 1] ∧ IntsAt w' y [0, 1, 0, 1]) w) := by
  have hc := pwords_way r 2 1 ta tn tc zT u [1, 6, 13] w hg h zT_ok (by decide) hu (by simp)
  rw [zT_wkR, zT_pw] at hc
  refine (hc (by decide) (by decide)).mono ?_
  rintro e w' ⟨x, y, z, rfl, b, hp⟩
  refine ⟨x, y, z, rfl, b, ?_⟩
  unfold WordsPost at hp
  rw [zT_wkT, zT_pw] at hp
  rcases hp with ⟨_, h1, h2, h3, _⟩ | ⟨hno, _⟩
  · have exa : alongW 2 (2 * 1) (· / 4) [1, 6, 13] = [0, 0, 1, 1] := by decide
    have exb : alongW 2 (2 * 1) (· % 4) [1, 6, 13] = [0, 1, 0, 1] := by decide
    rw [exa] at h2
    rw [exb] at h3
    exact ⟨h1, h2.at, h3.at⟩
  · exact absurd zT_words hno
theorem zT_papart (r : Nat → Addr) (ta : Option Addr) (tn tc : Nat) (w : World) (hg : Glob r w) (h : IntsAt w (.slice ta tn tc) zT) :
    Calls Tryd.prog 40 #[.agg #[.int .i64 2, .int .i64 1, .slice ta tn tc]] w (Ret2 (fun x y w' => y = .nilIface ∧ IntsAt w' x [1, 2, 3, 4, 6, 7, 8, 9, 11, 12, 13, 14]) w) := by
  have hc := papart_ok r 2 1 ta tn tc zT w hg h zT_ok (by decide)
  rw [zT_wkR, zT_wkT, zT_pw] at hc
  refine hc.mono ?_
  rintro e w' ⟨x, y, rfl, b, h1, L, hL, ho⟩
  have hLe : L = List.range 16 := zT_live hL
  subst hLe
  refine ⟨x, y, rfl, b, h1, ?_⟩
  have hF : castI ((List.range 16).filter (fun p => !decide (Diag 4 p))) = [1, 2, 3, 4, 6, 7, 8, 9, 11, 12, 13, 14] := by decide
  rw [hF] at ho
  exact ho.at

set_option maxHeartbeats 400000 in
theorem awake13 (r : Nat → Addr) (w : World) (hg : Glob r w) : Calls Tryd.prog 14 #[] w (Ret1 (fun x _ => x = .bool true) w) := by
  obtain ⟨tv, w1, mk, ho, b1⟩ := run_makeI (8 : Int) 8 w rfl (by omega)
  have hT : IntsAt w1 tv zT := ho.at
  obtain ⟨ta, tn, tc, rfl⟩ := ho.at.shape
  have ba := belowAlloc w1 (.cells #[.int .i64 2, .int .i64 1, .slice ta tn tc] 24)
  have q : Box3 (w1.alloc (.cells #[.int .i64 2, .int .i64 1, .slice ta tn tc] 24)) w1.heap.size (.int .i64 2) (.int .i64 1) (.slice ta tn tc) := by simp [Box3, go_sem]
  have b02 := Below.step b1 ba
  have hT2 := hT.below ba
  obtain ⟨W2, hW2⟩ : ∃ W2 : World, W2 = w1.alloc (.cells #[.int .i64 2, .int .i64 1, .slice ta tn tc] 24) := ⟨_, rfl⟩
  rw [← hW2] at b02 hT2 q
  have bl := belowAlloc W2 (.cells #[.int .i64 1, .int .i64 6, .int .i64 13] 3)
  have hlit := lit_ints W2 [1, 6, 13] #[.int .i64 1, .int .i64 6, .int .i64 13] rfl (by decide)
  have b03 := Below.step b02 bl
  replace hg := Lib.hid hg
  replace ho := Lib.hid ho
  replace hT := Lib.hid hT
  replace hT2 := Lib.hid hT2
  replace q := Lib.hid q
  replace hlit := Lib.hid hlit
  go_enter Tryd.func14, Tryd.ntmps14
  go_upto_region 2 with fail
  rw [← hW2]
  replace hW2 := Lib.hid hW2
  obtain ⟨⟨y0, y1, y2⟩, -, -, -⟩ := q.out
  go_wp2_with fail
  clear y0 y1 y2
  refine (zT_pwords r ta tn tc _ _ (hg.out.below b03) (hT2.out.below bl) hlit.out).mono ?_
  rintro e w4 ⟨xa, xb, z, rfl, b4, rfl, hxa, hxb⟩
  have b24 := Below.step bl b4
  have b04 := Below.step b03 b4
  obtain ⟨⟨z0, z1, z2⟩, -, -, -⟩ := q.out.below b24
  replace hxa := Lib.hid hxa
  replace hxb := Lib.hid hxb
  clear mk
  go_wp2_with fail
  refine (zT_papart r ta tn tc w4 (hg.out.below b04) (hT2.out.below b24)).mono ?_
  rintro e w5 ⟨lv, y, rfl, b5, rfl, hlo⟩
  have ll := hlo.len
  have i4 : ∀ w', (Instr.indexAt 22 lv (.int .i64 4)).run Tryd.prog w' = .ok (.pointer (some (valAt lv 4))) w' := fun w' => hlo.idx 4 (by decide) w'
  have c4 := hlo.cellD 4 (by decide)
  rw [show ([1, 2, 3, 4, 6, 7, 8, 9, 11, 12, 13, 14] : List Int).getD 4 0 = 6 by decide] at c4
  rw [show ([1, 2, 3, 4, 6, 7, 8, 9, 11, 12, 13, 14] : List Int).length = 12 by decide] at ll
  clear z0 z1 z2
  generalize valAt lv 4 = la at *
  obtain ⟨l1, l2, l3, rfl⟩ := hlo.shape
  replace hlo := Lib.hid hlo
  have b05 := Below.step b04 b5
  have bl1 := belowAlloc w5 (.cells #[.int .i64 0, .int .i64 0, .int .i64 1, .int .i64 1] 3)
  have hlit1 := lit_ints w5 [0, 0, 1, 1] #[.int .i64 0, .int .i64 0, .int .i64 1, .int .i64 1] rfl (by decide)
  replace hlit1 := Lib.hid hlit1
  go_wp2_with fail
  refine (ints_any xa _ _ _ _ ((hxa.out.below b5).below bl1) hlit1.out).mono ?_
  rintro e w7 h7
  obtain ⟨rfl, b7⟩ := h7.below
  clear h7
  rw [show decide (([0, 0, 1, 1] : List Int) = [0, 0, 1, 1]) = true by decide]
  have b57 := Below.step bl1 b7
  have bl2 := belowAlloc w7 (.cells #[.int .i64 0, .int .i64 1, .int .i64 0, .int .i64 1] 3)
  have hlit2 := lit_ints w7 [0, 1, 0, 1] #[.int .i64 0, .int .i64 1, .int .i64 0, .int .i64 1] rfl (by decide)
  replace hlit2 := Lib.hid hlit2
  go_wp2_with fail
  refine (ints_any xb _ _ _ _ ((hxb.out.below (Below.step b5 b57)).below bl2) hlit2.out).mono ?_
  rintro e w8 h8
  obtain ⟨rfl, b8⟩ := h8.below
  clear h8
  rw [show decide (([0, 1, 0, 1] : List Int) = [0, 1, 0, 1]) = true by decide]
  have b58 := Below.step b57 (Below.step bl2 b8)
  have c8 := (b58.cell (World.block_lt_of_cell? _ _ c4)).trans c4
  go_wp2
  go_ret
  exact ⟨_, rfl, Below.step b05 b58, rfl⟩
end Go.Proofs.YtmhiambkfdkkbaaDoor

namespace Go.Proofs.YtmhiambkfdkkbaaDoor

def swapP (N p : Nat) : Nat := p % N * N + p / N
theorem swapP_lt {N p : Nat} (h : p < N * N) : swapP N p < N * N := by
  have hN : 0 < N := Nat.pos_of_ne_zero (by rintro rfl; simp at h)
  exact pair_lt (Nat.mod_lt _ hN) (div_lt_of h)
theorem swapP_parts {N p : Nat} (h : p < N * N) : swapP N p / N = p % N ∧ swapP N p % N = p / N := ⟨pair_div (div_lt_of h), pair_mod (div_lt_of h)⟩
theorem swapP_swapP {N p : Nat} (h : p < N * N) : swapP N (swapP N p) = p := by
  obtain ⟨h1, h2⟩ := swapP_parts h
  unfold swapP at *
  rw [h1, h2]; exact pair_eq p N
theorem pairL_swap {K N : Nat} {T : List Int} {p t : Nat} (hp : p < N * N) (ht : t ∈ pairL K N T p) : swapP N t ∈ pairL K N T (swapP N p) := by
  have hN : 0 < N := Nat.pos_of_ne_zero (by rintro rfl; simp at hp)
  obtain ⟨h1, h2⟩ := swapP_parts hp
  rw [mem_pairL hN] at ht ⊢
  rw [h1, h2]
  exact ht.swap hN
theorem pairL_swap_le {K N : Nat} {T : List Int} {p : Nat} (hp : p < N * N) : (pairL K N T p).length ≤ (pairL K N T (swapP N p)).length := by
  have hN : 0 < N := Nat.pos_of_ne_zero (by rintro rfl; simp at hp)
  have hlt : ∀ t ∈ pairL K N T p, t < N * N := fun t ht => ((mem_pairL hN).1 ht).lt hN
  rw [← List.length_map (f := swapP N)]
  refine nodup_sub ?_ ?_
  · rw [List.nodup_iff_pairwise_ne, List.pairwise_map]
    refine ((pairL_sorted K N T p).imp fun h => Nat.ne_of_lt h).imp_of_mem fun {a b} ha hb h e => h ?_
    rw [← swapP_swapP (hlt a ha), e, swapP_swapP (hlt b hb)]
  · intro t ht
    obtain ⟨s, hs, rfl⟩ := List.mem_map.1 ht
    exact pairL_swap hp hs
theorem pairL_swap_len {K N : Nat} {T : List Int} {p : Nat} (hp : p < N * N) : (pairL K N T p).length = (pairL K N T (swapP N p)).length := by
  refine Nat.le_antisymm (pairL_swap_le hp) ?_
  have := pairL_swap_le (K := K) (T := T) (swapP_lt hp)
  rwa [swapP_swapP hp] at this
theorem diags_sorted (N : Nat) : (diags N).Pairwise (· < ·) := by
  unfold diags
  rw [List.pairwise_map]
  refine List.pairwise_lt_range.imp fun {a b} h => ?_
  have := Nat.mul_le_mul_right N (show a + 1 ≤ b by omega)
  rw [Nat.add_mul] at this
  omega
theorem diags_len (N : Nat) : (diags N).length = N := by simp [diags]
end Go.Proofs.YtmhiambkfdkkbaaDoor

namespace Go.Proofs.YtmhiambkfdkkbaaDoor

/-- D tells how far it is from s. -/
def FarOf (n : Nat) (adj : Nat → List Nat) (s : Nat) (D : Nat → Int) : Prop :=
  ∀ t, t < n → (D t = -1 ∧ ¬ Goes adj s t) ∨ ∃ w, Way adj s t w ∧ (w.length : Int) = D t + 1 ∧ ∀ u, Way adj s t u → w.length ≤ u.length
/-- D tells how far it is to s. -/
def ToOf (n : Nat) (adj : Nat → List Nat) (s : Nat) (D : Nat → Int) : Prop :=
  ∀ t, t < n → (D t = -1 ∧ ¬ Goes adj t s) ∨ ∃ w, Way adj t s w ∧ (w.length : Int) = D t + 1 ∧ ∀ u, Way adj t s u → w.length ≤ u.length
theorem ToOf.low {n : Nat} {adj : Nat → List Nat} {s : Nat} {D : Nat → Int} (h : ToOf n adj s D) {t : Nat} (ht : t < n) : -1 ≤ D t := by
  rcases h t ht with ⟨h1, _⟩ | ⟨w, h1, h2, _⟩
  · omega
  · have := h1.pos; omega
theorem ToOf.pos {n : Nat} {adj : Nat → List Nat} {s : Nat} {D : Nat → Int} (h : ToOf n adj s D) {t : Nat} (ht : t < n) : 0 ≤ D t ↔ Goes adj t s := by
  rcases h t ht with ⟨h1, h2⟩ | ⟨w, h1, h2, _⟩
  · exact ⟨fun q => by omega, fun q => absurd q h2⟩
  · exact ⟨fun _ => h1.goes, fun _ => by have := h1.pos; omega⟩
theorem ToOf.le {n : Nat} {adj : Nat → List Nat} {s : Nat} {D : Nat → Int} (h : ToOf n adj s D) {t : Nat} (ht : t < n) {u : List Nat} (hu : Way adj t s u) : 0 ≤ D t ∧ D t + 1 ≤ u.length := by
  rcases h t ht with ⟨_, h2⟩ | ⟨w, h1, h2, h3⟩
  · exact absurd hu.goes h2
  · have := h1.pos; have := h3 u hu; omega
theorem ToOf.first {n : Nat} {adj : Nat → List Nat} {s : Nat} {D : Nat → Int} (h : ToOf n adj s D) {t : Nat} (ht : t < n) {u : List Nat} (hu : IsFirst adj t s u) : (u.length : Int) = D t + 1 := by
  rcases h t ht with ⟨_, h2⟩ | ⟨w, h1, h2, h3⟩
  · exact absurd hu.way.goes h2
  · have := h3 u hu.way; have := hu.short w h1; omega
theorem ToOf.self {n : Nat} {adj : Nat → List Nat} {s : Nat} {D : Nat → Int} (h : ToOf n adj s D) (hs : s < n) : D s = 0 := by
  have := h.le hs (.one s)
  simp at this; omega
theorem FarOf.pos {n : Nat} {adj : Nat → List Nat} {s : Nat} {D : Nat → Int} (h : FarOf n adj s D) {t : Nat} (ht : t < n) : 0 ≤ D t ↔ Goes adj s t := by
  rcases h t ht with ⟨h1, h2⟩ | ⟨w, h1, h2, _⟩
  · exact ⟨fun q => by omega, fun q => absurd q h2⟩
  · exact ⟨fun _ => h1.goes, fun _ => by have := h1.pos; omega⟩

/-- Breadth first, how far only. -/
structure FBase (adj : Nat → List Nat) (s : Nat) (D : Nat → Int) (q : List Nat) (b i : Nat) : Prop where
  hd : q[0]? = some s
  nodup : q.Nodup
  there : ∀ x, 0 ≤ D x ↔ x ∈ q
  low : ∀ x, -1 ≤ D x
  d0 : D s = 0
  sound : ∀ x ∈ q, ∃ w, Way adj s x w ∧ (w.length : Int) = D x + 1
  par : ∀ x ∈ q, x = s ∨ ∃ p y, p < b ∧ q[p]? = some y ∧ D x = D y + 1
  mono : ∀ (j k x y : Nat), j ≤ k → q[j]? = some x → q[k]? = some y → D x ≤ D y
  closed : ∀ p x, p < i → q[p]? = some x → ∀ t ∈ adj x, 0 ≤ D t ∧ D t ≤ D x + 1
structure FIn (adj : Nat → List Nat) (s : Nat) (D : Nat → Int) (q : List Nat) (i v : Nat) (l : List Nat) : Prop where
  base : FBase adj s D q (i + 1) i
  cur : q[i]? = some v
  sub : ∀ t ∈ l, t ∈ adj v
  seen : ∀ t ∈ adj v, t ∈ l ∨ (0 ≤ D t ∧ D t ≤ D v + 1)
section
variable {adj : Nat → List Nat} {s : Nat} {D : Nat → Int} {q : List Nat} {i v b : Nat} {l : List Nat}
theorem FBase.init (adj : Nat → List Nat) (s : Nat) : FBase adj s (updN (fun _ => (-1 : Int)) s 0) [s] 0 0 := by
  have hg : ∀ j x, [s][j]? = some x → j = 0 ∧ x = s := fun j x hx => by
    cases j with
    | zero => simp at hx; exact ⟨rfl, hx.symm⟩
    | succ j => simp at hx
  refine ⟨rfl, by simp, fun x => ?_, fun x => ?_, updN_same _ _ _, fun x hx => ?_, fun x hx => ?_, fun j k x y _ hx hy => ?_, fun p x hp => by omega⟩
  · by_cases e : x = s
    · subst e; rw [updN_same]; simp
    · rw [updN_other _ _ _ e]; simp [e]
  · by_cases e : x = s
    · subst e; rw [updN_same]; omega
    · rw [updN_other _ _ _ e]; omega
  · cases List.mem_singleton.1 hx; exact ⟨_, .one _, by rw [updN_same]; simp⟩
  · exact .inl (List.mem_singleton.1 hx)
  · rw [(hg j x hx).2, (hg k y hy).2]; exact Int.le_refl _
theorem FBase.enter (h : FBase adj s D q i i) (hv : q[i]? = some v) : FIn adj s D q i v (adj v) :=
  ⟨⟨h.hd, h.nodup, h.there, h.low, h.d0, h.sound, fun x hx => (h.par x hx).imp id (fun ⟨p, y, h1, h2⟩ => ⟨p, y, by omega, h2⟩), h.mono, h.closed⟩, hv, fun t ht => ht, fun t ht => .inl ht⟩
theorem FIn.leave (h : FIn adj s D q i v []) : FBase adj s D q (i + 1) (i + 1) := by
  refine ⟨h.base.hd, h.base.nodup, h.base.there, h.base.low, h.base.d0, h.base.sound, h.base.par, h.base.mono, fun p x hp hx t ht => ?_⟩
  by_cases e : p = i
  · subst e
    rw [h.cur] at hx; cases hx
    exact (h.seen t ht).resolve_left (by simp)
  · exact h.base.closed p x (by omega) hx t ht
theorem FIn.top (h : FIn adj s D q i v l) : ∀ x ∈ q, D x ≤ D v + 1 := by
  intro x hx
  have hv0 := (h.base.there v).2 (List.mem_of_getElem? h.cur)
  rcases h.base.par x hx with rfl | ⟨p, y, h1, h2, h3⟩
  · have := h.base.d0; omega
  · have := h.base.mono p i y v (by omega) h2 h.cur; omega
theorem FIn.old {t : Nat} (h : FIn adj s D q i v (t :: l)) (ht : 0 ≤ D t) : FIn adj s D q i v l := by
  refine ⟨h.base, h.cur, fun x hx => h.sub x (List.mem_cons_of_mem _ hx), fun x hx => ?_⟩
  rcases h.seen x hx with q1 | q1
  · rcases List.mem_cons.1 q1 with e | e
    · subst e; exact .inr ⟨ht, h.top x ((h.base.there x).1 ht)⟩
    · exact .inl e
  · exact .inr q1
theorem FIn.add {t : Nat} (h : FIn adj s D q i v (t :: l)) (ht : D t < 0) : FIn adj s (updN D t (D v + 1)) (q ++ [t]) i v l := by
  have hB := h.base
  have htq : t ∉ q := fun hm => by have := (hB.there t).2 hm; omega
  have hil := get_of h.cur
  have hvq := List.mem_of_getElem? h.cur
  have hv0 := (hB.there v).2 hvq
  have hga : ∀ j x, (q ++ [t])[j]? = some x → q[j]? = some x ∧ j < q.length ∧ x ≠ t ∨ j = q.length ∧ x = t := fun j x hx => by
    by_cases e : j < q.length
    · rw [List.getElem?_append_left e] at hx
      exact .inl ⟨hx, e, fun e2 => htq (by rw [← e2]; exact List.mem_of_getElem? hx)⟩
    · rw [List.getElem?_append_right (by omega)] at hx
      by_cases e2 : j = q.length
      · rw [e2] at hx; simp at hx; exact .inr ⟨e2, hx.symm⟩
      · rw [List.getElem?_eq_none (by simp; omega)] at hx; cases hx
  have hgo : ∀ {j x}, q[j]? = some x → (q ++ [t])[j]? = some x := fun {j x} hx => by rw [List.getElem?_append_left (get_of hx)]; exact hx
  have hne : ∀ x, x ∈ q → x ≠ t := fun x hx e => htq (by rw [← e]; exact hx)
  have dq : ∀ x, x ∈ q → updN D t (D v + 1) x = D x := fun x hx => updN_other _ _ _ (hne x hx)
  have hsq : s ∈ q := List.mem_of_getElem? hB.hd
  have htop := h.top
  refine ⟨⟨hgo hB.hd, ?_, fun x => ?_, fun x => ?_, ?_, fun x hx => ?_, fun x hx => ?_, fun j k x y hjk hx hy => ?_, fun p x hp hx t' ht' => ?_⟩, hgo h.cur, fun x hx => h.sub x (List.mem_cons_of_mem _ hx), fun x hx => ?_⟩
  · exact List.nodup_append.2 ⟨hB.nodup, by simp, fun x hx y hy => by cases List.mem_singleton.1 hy; exact hne x hx⟩
  · by_cases e : x = t
    · subst e; rw [updN_same]; simp; omega
    · rw [updN_other _ _ _ e, hB.there]; simp [e]
  · by_cases e : x = t
    · subst e; rw [updN_same]; omega
    · rw [updN_other _ _ _ e]; exact hB.low x
  · rw [dq s hsq]; exact hB.d0
  · rcases List.mem_append.1 hx with hx | hx
    · rw [dq x hx]; exact hB.sound x hx
    · cases List.mem_singleton.1 hx
      obtain ⟨w, h1, h2⟩ := hB.sound v hvq
      refine ⟨w ++ [t], h1.snoc (h.sub _ List.mem_cons_self), ?_⟩
      rw [updN_same, List.length_append, List.length_singleton]; omega
  · rcases List.mem_append.1 hx with hx | hx
    · rcases hB.par x hx with e | ⟨p, y, h1, h2, h3⟩
      · exact .inl e
      · exact .inr ⟨p, y, h1, hgo h2, by rw [dq x hx, dq y (List.mem_of_getElem? h2)]; exact h3⟩
    · cases List.mem_singleton.1 hx
      exact .inr ⟨i, v, by omega, hgo h.cur, by rw [updN_same, dq v hvq]⟩
  · rcases hga k y hy with ⟨k1, k2, k3⟩ | ⟨rfl, rfl⟩
    · rcases hga j x hx with ⟨h1, h2, h3⟩ | ⟨rfl, rfl⟩
      · rw [dq x (List.mem_of_getElem? h1), dq y (List.mem_of_getElem? k1)]; exact hB.mono j k x y hjk h1 k1
      · omega
    · rcases hga j x hx with ⟨h1, h2, h3⟩ | ⟨h1, rfl⟩
      · rw [dq x (List.mem_of_getElem? h1), updN_same]; exact htop x (List.mem_of_getElem? h1)
      · exact Int.le_refl _
  · rcases hga p x hx with ⟨h1, h2, h3⟩ | ⟨h1, rfl⟩
    · have := hB.closed p x hp h1 t' ht'
      have e : t' ≠ t := fun e => by subst e; omega
      rw [updN_other _ _ _ e, dq x (List.mem_of_getElem? h1)]
      exact this
    · omega
  · by_cases e : x = t
    · subst e; right; rw [updN_same, dq v hvq]; omega
    · rcases h.seen x hx with q1 | q1
      · exact .inl ((List.mem_cons.1 q1).resolve_left e)
      · right; rw [updN_other _ _ _ e, dq v hvq]; exact q1
theorem FBase.far (h : FBase adj s D q b i) (hi : q.length ≤ i) {x y : Nat} {u : List Nat} (hu : Way adj x y u) (hx : x ∈ q) : y ∈ q ∧ D y + 1 ≤ D x + u.length := by
  induction hu with
  | one => exact ⟨hx, by simp⟩
  | @cons x t y w ht hu ih =>
    obtain ⟨j, hj⟩ := List.mem_iff_getElem?.1 hx
    have := h.closed j x (by have := get_of hj; omega) hj t ht
    have := ih ((h.there t).1 this.1)
    exact ⟨this.1, by simp only [List.length_cons]; omega⟩
theorem FBase.end_ (h : FBase adj s D q b i) (hi : q.length ≤ i) (n : Nat) : FarOf n adj s D := by
  intro t _
  by_cases ht : t ∈ q
  · obtain ⟨w, h1, h2⟩ := h.sound t ht
    refine .inr ⟨w, h1, h2, fun u hu => ?_⟩
    have := (h.far hi hu (List.mem_of_getElem? h.hd)).2
    have := h.d0
    omega
  · refine .inl ⟨?_, fun hg => ?_⟩
    · have := h.low t
      have : ¬ 0 ≤ D t := fun q => ht ((h.there t).1 q)
      omega
    · obtain ⟨u, hu⟩ := hg.way
      exact ht (h.far hi hu (List.mem_of_getElem? h.hd)).1
end

/-- Going down: the least of the neighbours that are nearer by one. -/
theorem step_first {n : Nat} {adj : Nat → List Nat} {s : Nat} {D : Nat → Int} (h : ToOf n adj s D) (hlt : ∀ v, v < n → ∀ t ∈ adj v, t < n) {v best : Nat} (hv : v < n)
    (hb : best ∈ adj v) (hd : D best = D v - 1) (h0 : 0 ≤ D best) (hm : ∀ t ∈ adj v, D t = D v - 1 → best ≤ t) {u : List Nat} (hu : IsFirst adj best s u) : IsFirst adj v s (v :: u) := by
  have hbn := hlt v hv best hb
  have hul := h.first hbn hu
  refine ⟨.cons hb hu.way, fun x hx => ?_, fun x hx hl => ?_⟩
  · have := h.le hv hx
    simp only [List.length_cons]; omega
  · cases hx with
    | one => simp only [List.length_cons, List.length_nil] at hl; have := hu.way.pos; omega
    | @cons _ t _ x' ht hx' =>
      have htn := hlt v hv t ht
      have h1 := h.le htn hx'
      have h2 := h.le hv (.cons ht hx')
      simp only [List.length_cons] at hl h2
      have hdt : D t = D v - 1 := by
        rcases h t htn with ⟨_, q⟩ | ⟨w, w1, w2, w3⟩
        · exact absurd hx'.goes q
        · have := h.le hv (.cons ht w1)
          simp only [List.length_cons] at this
          omega
      have hbt := hm t ht hdt
      refine .inr ⟨rfl, ?_⟩
      by_cases e : best = t
      · subst e; exact hu.least x' hx' (by omega)
      · obtain ⟨_, rfl⟩ := hx'.ne
        obtain ⟨_, rfl⟩ := hu.way.ne
        exact .inl (by omega)
theorem ToOf.next {n : Nat} {adj : Nat → List Nat} {s : Nat} {D : Nat → Int} (h : ToOf n adj s D) (hlt : ∀ v, v < n → ∀ t ∈ adj v, t < n) {v : Nat} (hv : v < n) (hne : v ≠ s) (h0 : 0 ≤ D v) : 1 ≤ D v ∧ ∃ t ∈ adj v, D t = D v - 1 := by
  rcases h v hv with ⟨q, _⟩ | ⟨w, w1, w2, w3⟩
  · omega
  · cases w1 with
    | one => exact absurd rfl hne
    | @cons _ t _ w' ht hw =>
      have htn := hlt v hv t ht
      have := hw.pos
      simp only [List.length_cons] at w2 w3
      refine ⟨by omega, t, ht, ?_⟩
      rcases h t htn with ⟨_, q⟩ | ⟨x, x1, x2, x3⟩
      · exact absurd hw.goes q
      · have := x3 w' hw
        have := w3 _ (.cons ht x1)
        simp only [List.length_cons] at this
        omega
end Go.Proofs.YtmhiambkfdkkbaaDoor

namespace Go.Proofs.YtmhiambkfdkkbaaDoor

/-- The sum of F over the first n. -/
def sumN (F : Nat → Nat) : Nat → Nat
  | 0 => 0
  | n + 1 => sumN F n + F n
theorem sumN_congr {F F' : Nat → Nat} : ∀ {n}, (∀ v, v < n → F v = F' v) → sumN F n = sumN F' n
  | 0, _ => rfl
  | n + 1, h => by
    show sumN F n + F n = sumN F' n + F' n
    rw [sumN_congr (n := n) (fun v hv => h v (by omega)), h n (by omega)]
theorem sumN_pos {F : Nat → Nat} : ∀ {n}, 0 < sumN F n ↔ ∃ v, v < n ∧ 0 < F v
  | 0 => by simp [sumN]
  | n + 1 => by
    show 0 < sumN F n + F n ↔ _
    constructor
    · intro h
      by_cases e : 0 < sumN F n
      · obtain ⟨v, h1, h2⟩ := sumN_pos.1 e; exact ⟨v, by omega, h2⟩
      · exact ⟨n, by omega, by omega⟩
    · rintro ⟨v, h1, h2⟩
      by_cases e : v = n
      · subst e; omega
      · have := sumN_pos.2 ⟨v, show v < n by omega, h2⟩; omega
theorem sumN_upd {F F' : Nat → Nat} {v : Nat} (h : ∀ u, u ≠ v → F' u = F u) : ∀ {n}, v < n → sumN F' n + F v = sumN F n + F' v
  | 0, q => by omega
  | n + 1, q => by
    show sumN F' n + F' n + F v = sumN F n + F n + F' v
    by_cases e : v = n
    · subst e
      rw [sumN_congr (n := v) (fun u hu => h u (by omega))]; omega
    · have := sumN_upd h (n := n) (by omega)
      rw [h n (fun q => e q.symm)]; omega
theorem sumN_zero : ∀ n, sumN (fun _ => 0) n = 0
  | 0 => rfl
  | n + 1 => by show sumN _ n + 0 = 0; rw [sumN_zero n]
theorem sumN_add (F F' : Nat → Nat) : ∀ n, sumN (fun v => F v + F' v) n = sumN F n + sumN F' n
  | 0 => rfl
  | n + 1 => by show sumN _ n + (F n + F' n) = sumN F n + F n + (sumN F' n + F' n); rw [sumN_add F F' n]; omega
theorem sumN_one (x : Nat) : ∀ n, sumN (fun v => if v = x then 1 else 0) n = if x < n then 1 else 0
  | 0 => rfl
  | n + 1 => by
    show sumN _ n + (if n = x then 1 else 0) = _
    rw [sumN_one x n]
    by_cases e : n = x
    · subst e; simp
    · rw [if_neg e]
      by_cases q : x < n
      · rw [if_pos q, if_pos (by omega)]
      · rw [if_neg q, if_neg (by omega)]
/-- A list of numbers below n: its length, counted number by number. -/
theorem length_counts (n : Nat) : ∀ (l : List Nat), (∀ x ∈ l, x < n) → l.length = sumN (fun v => l.count v) n
  | [], _ => by simp [sumN_zero]
  | x :: l, h => by
    have ih := length_counts n l (fun y hy => h y (List.mem_cons_of_mem _ hy))
    have e : (fun v => (x :: l).count v) = fun v => l.count v + if v = x then 1 else 0 := by
      funext v
      rw [List.count_cons]
      by_cases q : x = v
      · simp [q]
      · rw [if_neg (by simpa using q), if_neg (fun r => q r.symm)]
    rw [e, sumN_add, sumN_one, if_pos (h x List.mem_cons_self), ← ih, List.length_cons]

/-- inn tells how many arrows lead to t, of those not gone through: the first c v of v's are. -/
def Deg (n : Nat) (A : Nat → List Nat) (c inn : Nat → Nat) : Prop := ∀ t, t < n → inn t = sumN (fun v => ((A v).drop (c v)).count t) n
theorem Deg.init {n : Nat} {A B : Nat → List Nat} (hB : ∀ t, t < n → ∀ x ∈ B t, x < n) (hc : ∀ v t, v < n → t < n → (B t).count v = (A v).count t) : Deg n A (fun _ => 0) (fun t => (B t).length) := by
  intro t ht
  show (B t).length = _
  rw [length_counts n _ (hB t ht)]
  exact sumN_congr fun v hv => by rw [hc v t hv ht, List.drop_zero]
theorem Deg.step {n : Nat} {A : Nat → List Nat} {c inn : Nat → Nat} {v j t : Nat} (h : Deg n A c inn) (hv : v < n) (hj : c v = j) (ht : (A v)[j]? = some t) (htn : t < n) :
    0 < inn t ∧ Deg n A (updN c v (j + 1)) (updN inn t (inn t - 1)) := by
  have hjl : j < (A v).length := get_of ht
  have hd : (A v).drop j = t :: (A v).drop (j + 1) := by
    rw [List.drop_eq_getElem_cons hjl]
    rw [List.getElem?_eq_getElem hjl] at ht; injection ht with ht; rw [ht]
  have key : ∀ x, sumN (fun u => ((A u).drop (updN c v (j + 1) u)).count x) n + (if x = t then 1 else 0) = sumN (fun u => ((A u).drop (c u)).count x) n := by
    intro x
    have := sumN_upd (F := fun u => ((A u).drop (c u)).count x) (F' := fun u => ((A u).drop (updN c v (j + 1) u)).count x) (v := v) (fun u hu => by simp only [updN_other _ _ _ hu]) hv
    simp only [updN_same, hj, hd, List.count_cons] at this
    by_cases e : x = t
    · subst e; rw [if_pos rfl]; simp at this; omega
    · rw [if_neg e]
      have e2 : (t == x) = false := by simpa using fun q => e q.symm
      rw [e2] at this; simp at this; omega
  have h1 := key t
  rw [if_pos rfl, ← h t htn] at h1
  refine ⟨by omega, fun x hx => ?_⟩
  have h2 := key x
  by_cases e : x = t
  · subst e; rw [updN_same]; omega
  · rw [updN_other _ _ _ e, h x hx]; rw [if_neg e] at h2; omega

/-- The peeling: what has gone stands in the queue; the first i of it have been gone through, and of the next the first j and k arrows. -/
structure Peel (n : Nat) (A B : Nat → List Nat) (inn out : Nat → Nat) (c d : Nat → Nat) (gone : Nat → Bool) (q : List Nat) (lives : Nat → Prop) : Prop where
  deg1 : Deg n A c inn
  deg2 : Deg n B d out
  nodup : q.Nodup
  goneq : ∀ x, gone x = true ↔ x ∈ q
  low : ∀ x ∈ q, x < n
  fresh : ∀ v, v ∉ q → c v = 0 ∧ d v = 0
  keep : ∀ t, t < n → lives t → gone t = false
/-- A live vertex has live neighbours on both sides. -/
structure LiveSet (n : Nat) (A B : Nat → List Nat) (lives : Nat → Prop) : Prop where
  behind : ∀ t, t < n → lives t → ∃ p, p < n ∧ lives p ∧ t ∈ A p
  ahead : ∀ t, t < n → lives t → ∃ p, p < n ∧ lives p ∧ t ∈ B p
section
variable {n : Nat} {A B : Nat → List Nat} {inn out c d : Nat → Nat} {gone : Nat → Bool} {q : List Nat} {lives : Nat → Prop}
theorem Peel.live_in (h : Peel n A B inn out c d gone q lives) (hL : LiveSet n A B lives) {t : Nat} (ht : t < n) (hl : lives t) : 0 < inn t ∧ 0 < out t := by
  have aux : ∀ p, p < n → lives p → c p = 0 ∧ d p = 0 := fun p hp hlp => h.fresh p (fun q => by have := (h.goneq p).2 q; rw [h.keep p hp hlp] at this; cases this)
  refine ⟨?_, ?_⟩
  · obtain ⟨p, hp, hlp, hm⟩ := hL.behind t ht hl
    rw [h.deg1 t ht]
    refine sumN_pos.2 ⟨p, hp, ?_⟩
    rw [(aux p hp hlp).1, List.drop_zero]
    exact List.count_pos_iff.2 hm
  · obtain ⟨p, hp, hlp, hm⟩ := hL.ahead t ht hl
    rw [h.deg2 t ht]
    refine sumN_pos.2 ⟨p, hp, ?_⟩
    rw [(aux p hp hlp).2, List.drop_zero]
    exact List.count_pos_iff.2 hm
/-- A vertex goes. -/
theorem Peel.goes (h : Peel n A B inn out c d gone q lives) (hL : LiveSet n A B lives) {t : Nat} (ht : t < n) (hg : gone t = false) (h0 : inn t = 0 ∨ out t = 0) : Peel n A B inn out c d (updN gone t true) (q ++ [t]) lives := by
  have htq : t ∉ q := fun r => by have := (h.goneq t).2 r; rw [hg] at this; cases this
  refine ⟨h.deg1, h.deg2, ?_, fun x => ?_, fun x hx => ?_, fun v hv => h.fresh v (fun r => hv (List.mem_append_left _ r)), fun x hx hl => ?_⟩
  · exact List.nodup_append.2 ⟨h.nodup, by simp, fun x hx y hy e => by cases List.mem_singleton.1 hy; subst e; exact htq hx⟩
  · by_cases e : x = t
    · subst e; rw [updN_same]; simp
    · rw [updN_other _ _ _ e, h.goneq]; simp [e]
  · rcases List.mem_append.1 hx with hx | hx
    · exact h.low x hx
    · cases List.mem_singleton.1 hx; exact ht
  · by_cases e : x = t
    · subst e
      have := h.live_in hL hx hl; omega
    · rw [updN_other _ _ _ e]; exact h.keep x hx hl
/-- An arrow of a vertex that has gone. -/
theorem Peel.arrow1 (h : Peel n A B inn out c d gone q lives) {v j t : Nat} (hv : v ∈ q) (hj : c v = j) (ht : (A v)[j]? = some t) (htn : t < n) :
    0 < inn t ∧ Peel n A B (updN inn t (inn t - 1)) out (updN c v (j + 1)) d gone q lives := by
  obtain ⟨h1, h2⟩ := h.deg1.step (h.low v hv) hj ht htn
  exact ⟨h1, h2, h.deg2, h.nodup, h.goneq, h.low, fun u hu => by
    have e : u ≠ v := fun e => hu (by rw [e]; exact hv)
    rw [updN_other _ _ _ e]; exact h.fresh u hu, h.keep⟩
theorem Peel.arrow2 (h : Peel n A B inn out c d gone q lives) {v j t : Nat} (hv : v ∈ q) (hj : d v = j) (ht : (B v)[j]? = some t) (htn : t < n) :
    0 < out t ∧ Peel n A B inn (updN out t (out t - 1)) c (updN d v (j + 1)) gone q lives := by
  obtain ⟨h1, h2⟩ := h.deg2.step (h.low v hv) hj ht htn
  exact ⟨h1, h.deg1, h2, h.nodup, h.goneq, h.low, fun u hu => by
    have e : u ≠ v := fun e => hu (by rw [e]; exact hv)
    rw [updN_other _ _ _ e]; exact h.fresh u hu, h.keep⟩
/-- At the end each vertex that is left has neighbours that are left, on both sides. -/
theorem Peel.left (h : Peel n A B inn out c d gone q lives) (hall : ∀ v ∈ q, c v = (A v).length ∧ d v = (B v).length) (hpos : ∀ t, t < n → gone t = false → 0 < inn t ∧ 0 < out t) {t : Nat} (ht : t < n) (hg : gone t = false) :
    (∃ p, p < n ∧ gone p = false ∧ t ∈ A p) ∧ ∃ p, p < n ∧ gone p = false ∧ t ∈ B p := by
  obtain ⟨h1, h2⟩ := hpos t ht hg
  rw [h.deg1 t ht] at h1
  rw [h.deg2 t ht] at h2
  obtain ⟨p, hp, hc⟩ := sumN_pos.1 h1
  obtain ⟨p2, hp2, hc2⟩ := sumN_pos.1 h2
  refine ⟨⟨p, hp, ?_, List.mem_of_mem_drop (List.count_pos_iff.1 hc)⟩, ⟨p2, hp2, ?_, List.mem_of_mem_drop (List.count_pos_iff.1 hc2)⟩⟩
  · cases hgp : gone p with
    | false => rfl
    | true => rw [(hall p ((h.goneq p).1 hgp)).1, List.drop_length] at hc; simp at hc
  · cases hgp : gone p2 with
    | false => rfl
    | true => rw [(hall p2 ((h.goneq p2).1 hgp)).2, List.drop_length] at hc2; simp at hc2
end
/-- From a set that one never has to leave, a loop can be reached. -/
theorem set_loop {n : Nat} {A : Nat → List Nat} {S : Nat → Prop} (hS : ∀ x, S x → x < n) (hs : ∀ x, S x → ∃ t ∈ A x, S t) {x : Nat} (hx : S x) : ∃ u, u < n ∧ (∃ t ∈ A u, Goes A t u) ∧ Goes A x u := by
  apply Classical.byContradiction
  intro hno
  have key : ∀ k, ∃ w y, Way A x y w ∧ w.length = k + 1 ∧ w.Nodup ∧ (∀ z ∈ w, S z) ∧ S y := by
    intro k
    induction k with
    | zero => exact ⟨[x], x, .one x, rfl, by simp, fun z hz => by cases List.mem_singleton.1 hz; exact hx, hx⟩
    | succ k ih =>
      obtain ⟨w, y, h1, h2, h3, h4, h5⟩ := ih
      obtain ⟨t, ht, hst⟩ := hs y h5
      have htw : t ∉ w := fun hm => by
        obtain ⟨u, hu, _⟩ := h1.mem t hm
        exact hno ⟨y, hS y h5, ⟨t, ht, hu.goes⟩, h1.goes⟩
      refine ⟨w ++ [t], t, h1.snoc ht, by simp [h2], List.nodup_append.2 ⟨h3, by simp, fun a ha b hb e => by cases List.mem_singleton.1 hb; subst e; exact htw ha⟩, fun z hz => ?_, hst⟩
      rcases List.mem_append.1 hz with hz | hz
      · exact h4 z hz
      · cases List.mem_singleton.1 hz; exact hst
  obtain ⟨w, y, h1, h2, h3, h4, _⟩ := key n
  have hl : ∀ (n : Nat) (l : List Nat), l.Nodup → (∀ x ∈ l, x < n) → l.length ≤ n := by
    intro n
    induction n with
    | zero => intro l _ h; cases l with
      | nil => simp
      | cons a l => exact absurd (h a List.mem_cons_self) (by omega)
    | succ n ih =>
      intro l hl h
      have h1 := ih (l.erase n) (hl.erase n) (fun x hx => by
        have := h x (List.mem_of_mem_erase hx)
        have : x ≠ n := fun e => by subst e; exact (List.Nodup.not_mem_erase hl) hx
        omega)
      have := List.length_erase (a := n) (l := l)
      split at this <;> omega
  have := hl n w h3 (fun z hz => hS z (h4 z hz))
  omega
end Go.Proofs.YtmhiambkfdkkbaaDoor

namespace Go.Proofs.YtmhiambkfdkkbaaDoor
open Go.RowKit
set_option maxRecDepth 100000

/-- How often what is told stands there. -/
def CntTo (G : List (List Int)) (k j : Nat) (F : Nat → List Int) : Prop :=
  ∀ t, t < G.length → ∀ v : Nat, (F t).count (v : Int) = if v < k then (G.getD v []).count (t : Int) else if v = k then ((G.getD k []).take j).count (t : Int) else 0
theorem CntTo.zero (G : List (List Int)) : CntTo G 0 0 (fun _ => []) := by
  intro t _ v
  rw [if_neg (by omega)]
  split <;> simp
theorem CntTo.next {G : List (List Int)} {k : Nat} {F : Nat → List Int} (h : CntTo G k (G.getD k []).length F) : CntTo G (k + 1) 0 F := by
  intro t ht v
  rw [h t ht v, List.take_length]
  by_cases e : v < k
  · rw [if_pos e, if_pos (by omega)]
  · rw [if_neg e]
    by_cases e2 : v = k
    · subst e2; rw [if_pos rfl, if_pos (by omega)]
    · rw [if_neg e2, if_neg (by omega)]
      split <;> simp
theorem CntTo.add {G : List (List Int)} {k j u : Nat} {F : Nat → List Int} (h : CntTo G k j F) (hj : (G.getD k [])[j]? = some (u : Int)) : CntTo G k (j + 1) (updN F u (F u ++ [(k : Int)])) := by
  have htk : (G.getD k []).take (j + 1) = (G.getD k []).take j ++ [(u : Int)] := by
    rw [List.take_add_one, hj]; rfl
  intro t ht v
  have h1 := h t ht v
  rw [htk, List.count_append]
  by_cases e : t = u
  · subst e
    rw [updN_same, List.count_append, h1]
    by_cases e1 : v < k
    · rw [if_pos e1, if_pos e1]
      have : ([(k : Int)] : List Int).count (v : Int) = 0 := by
        rw [List.count_eq_zero]; simp; omega
      omega
    · rw [if_neg e1, if_neg e1]
      by_cases e2 : v = k
      · subst e2; rw [if_pos rfl, if_pos rfl]; simp
      · rw [if_neg e2, if_neg e2]
        rw [Nat.zero_add, List.count_eq_zero]; simp; omega
  · rw [updN_other _ _ _ e, h1]
    have : ([(u : Int)] : List Int).count (t : Int) = 0 := by
      rw [List.count_eq_zero]; simp; omega
    rw [this, Nat.add_zero]
/-- Turned, with how often. -/
structure TurnedX (G H : List (List Int)) : Prop where
  t : TurnedOf G H
  cnt : ∀ t v, t < G.length → v < G.length → (adjOf H t).count v = (adjOf G v).count t
theorem count_toNat : ∀ (l : List Int) (x : Nat), (∀ y ∈ l, 0 ≤ y) → (l.map Int.toNat).count x = l.count (x : Int)
  | [], _, _ => rfl
  | a :: l, x, h => by
    rw [List.map_cons, List.count_cons, List.count_cons, count_toNat l x (fun y hy => h y (List.mem_cons_of_mem _ hy))]
    have ha := h a List.mem_cons_self
    by_cases e : a = (x : Int)
    · subst e; simp
    · have : ¬ a.toNat = x := by omega
      simp [e, this]
theorem TurnedX.of {G : List (List Int)} {F : Nat → List Int} (hok : GraphOk G) (h : BackTo G G.length 0 F) (hc : CntTo G G.length 0 F) : TurnedX G (rowsOf G.length F) := by
  have hT := h.turned
  refine ⟨hT, fun t v ht hv => ?_⟩
  unfold adjOf
  rw [rowsOf_get _ _ _ ht, count_toNat, count_toNat, hc t ht v, if_pos hv]
  · exact fun y hy => (hok v hv y hy).1
  · intro y hy
    obtain ⟨v, rfl, _⟩ := ((h t ht).2 y).1 hy
    omega

/-- Lists of which all was made from block B on. -/
def ListsFrom (B : Nat) (w : World) (v : Value) (G : List (List Int)) : Prop :=
  ∃ vs : List Value, OwnV 22 B w v vs ∧ vs.length = G.length ∧ ∀ i, i < G.length → OwnI B w (vAt vs i) (G.getD i [])
theorem ListsFrom.at {B : Nat} {w : World} {v : Value} {G : List (List Int)} (h : ListsFrom B w v G) : ListsAt w v G := by
  obtain ⟨vs, h1, h2, h3⟩ := h
  exact ⟨vs, h1.at, h2, fun i hi => (h3 i hi).at⟩
theorem ListsFrom.below {B : Nat} {w w' : World} {v : Value} {G : List (List Int)} (h : ListsFrom B w v G) (hb : Below w.heap.size w w') : ListsFrom B w' v G := by
  obtain ⟨vs, h1, h2, h3⟩ := h
  exact ⟨vs, h1.below hb, h2, fun i hi => (h3 i hi).below hb⟩
theorem ListsFrom.set {B : Nat} {w : World} {v : Value} {G : List (List Int)} (h : ListsFrom B w v G) {a : Addr} (ha : a.block < B) (u : Value) : ListsFrom B (w.setCell a u) v G := by
  obtain ⟨vs, h1, h2, h3⟩ := h
  exact ⟨vs, OwnV.setBelowBase h1 ha u, h2, fun i hi => OwnV.toI (OwnV.setBelowBase (h3 i hi).toV ha u)⟩
theorem WN.from {B : Nat} {w : World} {f : Names} {ov : Value} {vals : List Value} {n : Nat} {F : Nat → List Int} (h : WN f ov vals n F) (hr : Rows B w f) : ListsFrom B w ov (rowsOf n F) :=
  ⟨vals, hr.ownV h.outer, by rw [h.len, rowsOf_len], fun i hi => by
    rw [rowsOf_len] at hi
    rw [rowsOf_get n F i hi]
    exact hr.ownI (h.rows i hi)⟩

end Go.Proofs.YtmhiambkfdkkbaaDoor

namespace Go.Proofs.YtmhiambkfdkkbaaDoor
open Go.RowKit
set_option maxRecDepth 100000

theorem run_makeN (n : Nat) (w : World) (hn : n ≤ 10000) :
    ∃ v w', (Instr.makeSlice 22 (.int .i64 n) (.int .i64 n)).run Tryd.prog w = .ok v w' ∧ OwnI w.heap.size w' v (List.replicate n 0) ∧ Below w.heap.size w w' := by
  obtain ⟨v, w', h1, h2, h3⟩ := run_makeW oneInts (n : Int) n w rfl (by omega)
  exact ⟨v, w', h1, OwnV.toI (by rw [List.map_replicate]; exact h2), h3⟩
theorem tabI_congr {n : Nat} {f g : Nat → Int} (h : ∀ t, t < n → f t = g t) : tabI n f = tabI n g := by
  unfold tabI
  exact List.map_congr_left fun t ht => h t (List.mem_range.1 ht)
theorem tabI_zero (n : Nat) : tabI n (fun _ => 0) = List.replicate n 0 := by
  unfold tabI; apply List.ext_getElem <;> simp
/-- The first i are -1. -/
def negTo (i t : Nat) : Int := if t < i then -1 else 0
theorem negTo_next (i : Nat) : updN (negTo i) i (-1) = negTo (i + 1) := by
  funext t
  unfold negTo
  by_cases e : t = i
  · subst e; rw [updN_same, if_pos (by omega)]
  · rw [updN_other _ _ _ e]
    by_cases q : t < i
    · rw [if_pos q, if_pos (by omega)]
    · rw [if_neg q, if_neg (by omega)]
theorem negTo_zero (n : Nat) : tabI n (negTo 0) = List.replicate n 0 := by
  rw [← tabI_zero]; exact tabI_congr fun t _ => by unfold negTo; rw [if_neg (by omega)]
theorem negTo_all (n : Nat) : tabI n (negTo n) = tabI n (fun _ => -1) := tabI_congr fun t ht => by unfold negTo; rw [if_pos ht]

end Go.Proofs.YtmhiambkfdkkbaaDoor

namespace Go.Proofs.YtmhiambkfdkkbaaDoor
open Go.RowKit
set_option maxRecDepth 100000

theorem turned_way {G H : List (List Int)} (h : TurnedOf G H) (hok : GraphOk G) {x y : Nat} {w : List Nat} (hw : Way (adjOf G) x y w) (hx : x < G.length) : Way (adjOf H) y x w.reverse := by
  induction hw with
  | one => exact .one _
  | @cons x t y w ht hw ih =>
    have htn := hok.lt x hx t ht
    rw [List.reverse_cons]
    exact (ih htn).snoc ((turned_adj h hok htn).2 ⟨hx, ht⟩)
theorem way_turned {G H : List (List Int)} (h : TurnedOf G H) (hok : GraphOk G) {x y : Nat} {w : List Nat} (hw : Way (adjOf H) x y w) (hx : x < G.length) : Way (adjOf G) y x w.reverse := by
  induction hw with
  | one => exact .one _
  | @cons x t y w ht hw ih =>
    obtain ⟨htn, hxt⟩ := (turned_adj h hok hx).1 ht
    rw [List.reverse_cons]
    exact (ih htn).snoc hxt
theorem far_to {G H : List (List Int)} (h : TurnedOf G H) (hok : GraphOk G) {s : Nat} (hs : s < G.length) {D : Nat → Int} (hf : FarOf G.length (adjOf H) s D) : ToOf G.length (adjOf G) s D := by
  intro t ht
  rcases hf t ht with ⟨h1, h2⟩ | ⟨w, h1, h2, h3⟩
  · exact .inl ⟨h1, fun q => h2 (goes_turned h hok q ht)⟩
  · refine .inr ⟨w.reverse, way_turned h hok h1 hs, by simpa using h2, fun u hu => ?_⟩
    have := h3 _ (turned_way h hok hu ht)
    simpa using this

/-- The least of the first k neighbours that are nearer by one. -/
def BestTo (l : List Nat) (D : Nat → Int) (d : Int) (k : Nat) (b : Int) : Prop :=
  (b = -1 ∧ ∀ t ∈ l.take k, D t ≠ d) ∨ ∃ m : Nat, b = m ∧ m ∈ l.take k ∧ D m = d ∧ ∀ t ∈ l.take k, D t = d → m ≤ t
theorem BestTo.zero (l : List Nat) (D : Nat → Int) (d : Int) : BestTo l D d 0 (-1) := .inl ⟨rfl, fun t ht => by simp at ht⟩
theorem BestTo.low {l : List Nat} {D : Nat → Int} {d : Int} {k : Nat} {b : Int} (h : BestTo l D d k b) : -1 ≤ b := by
  rcases h with ⟨h, _⟩ | ⟨m, h, _⟩ <;> omega
theorem take_mem {l : List Nat} {k t : Nat} (ht : l[k]? = some t) (x : Nat) : x ∈ l.take (k + 1) ↔ x ∈ l.take k ∨ x = t := by
  rw [List.take_add_one, ht]; simp
theorem BestTo.skip {l : List Nat} {D : Nat → Int} {d : Int} {k : Nat} {b : Int} (h : BestTo l D d k b) {t : Nat} (ht : l[k]? = some t) (hd : D t ≠ d) : BestTo l D d (k + 1) b := by
  rcases h with ⟨h1, h2⟩ | ⟨m, h1, h2, h3, h4⟩
  · refine .inl ⟨h1, fun x hx => ?_⟩
    rcases (take_mem ht x).1 hx with hx | rfl
    · exact h2 x hx
    · exact hd
  · refine .inr ⟨m, h1, (take_mem ht m).2 (.inl h2), h3, fun x hx hxd => ?_⟩
    rcases (take_mem ht x).1 hx with hx | rfl
    · exact h4 x hx hxd
    · exact absurd hxd hd
theorem BestTo.take {l : List Nat} {D : Nat → Int} {d : Int} {k : Nat} {b : Int} (h : BestTo l D d k b) {t : Nat} (ht : l[k]? = some t) (hd : D t = d) (hb : b < 0 ∨ (t : Int) < b) : BestTo l D d (k + 1) t := by
  refine .inr ⟨t, rfl, (take_mem ht t).2 (.inr rfl), hd, fun x hx hxd => ?_⟩
  rcases (take_mem ht x).1 hx with hx | rfl
  · rcases h with ⟨h1, h2⟩ | ⟨m, h1, h2, h3, h4⟩
    · exact absurd hxd (h2 x hx)
    · have := h4 x hx hxd; omega
  · exact Nat.le_refl _
theorem BestTo.stay {l : List Nat} {D : Nat → Int} {d : Int} {k : Nat} {b : Int} (h : BestTo l D d k b) {t : Nat} (ht : l[k]? = some t) (hb : 0 ≤ b) (hbt : b ≤ t) : BestTo l D d (k + 1) b := by
  rcases h with ⟨h1, h2⟩ | ⟨m, h1, h2, h3, h4⟩
  · omega
  · refine .inr ⟨m, h1, (take_mem ht m).2 (.inl h2), h3, fun x hx hxd => ?_⟩
    rcases (take_mem ht x).1 hx with hx | rfl
    · exact h4 x hx hxd
    · omega

/-- Where the way stands. -/
structure Down (n : Nat) (adj : Nat → List Nat) (x y : Nat) (D : Nat → Int) (out : List Nat) (v : Nat) : Prop where
  low : v < n
  there : 0 ≤ D v
  len : (out.length : Int) + D v = D x + 1
  last : ∃ pre, out = pre ++ [v]
  ext : ∀ u, IsFirst adj v y u → ∀ pre, out = pre ++ [v] → IsFirst adj x y (pre ++ u)
theorem Down.start {n : Nat} {adj : Nat → List Nat} {x y : Nat} {D : Nat → Int} (hx : x < n) (h0 : 0 ≤ D x) : Down n adj x y D [x] x :=
  ⟨hx, h0, by simp; omega, ⟨[], rfl⟩, fun u hu pre hp => by
    cases pre with
    | nil => exact hu
    | cons a pre => simp at hp⟩
theorem Down.next {n : Nat} {adj : Nat → List Nat} {x y : Nat} {D : Nat → Int} {out : List Nat} {v m : Nat} (h : Down n adj x y D out v) (hT : ToOf n adj y D) (hlt : ∀ v, v < n → ∀ t ∈ adj v, t < n) (hm : m ∈ adj v) (hd : D m = D v - 1) (h1 : 1 ≤ D v)
    (hmin : ∀ t ∈ adj v, D t = D v - 1 → m ≤ t) : Down n adj x y D (out ++ [m]) m := by
  refine ⟨hlt v h.low m hm, by omega, by rw [List.length_append, List.length_singleton]; have := h.len; omega, ⟨out, rfl⟩, fun u hu pre hp => ?_⟩
  have hp2 : out = pre := List.append_inj_left' hp rfl
  subst hp2
  obtain ⟨pre, hpre⟩ := h.last
  have := h.ext (v :: u) (step_first hT hlt h.low hm hd (by omega) hmin hu) pre hpre
  rw [hpre, List.append_assoc]
  exact this
theorem IsFirst.one (adj : Nat → List Nat) (y : Nat) : IsFirst adj y y [y] := by
  refine ⟨.one y, fun u hu => hu.pos, fun u hu hl => ?_⟩
  obtain ⟨w, rfl⟩ := hu.ne
  cases w with
  | nil => exact lexLe_refl _
  | cons a w => simp at hl
theorem Down.stop {n : Nat} {adj : Nat → List Nat} {x y : Nat} {D : Nat → Int} {out : List Nat} (h : Down n adj x y D out y) : IsFirst adj x y out := by
  obtain ⟨pre, hpre⟩ := h.last
  rw [hpre]
  exact h.ext [y] (IsFirst.one adj y) pre hpre

theorem row_push {B : Nat} {w w1 : World} {f : Names} {i : Nat × Nat} {qv qv' : Value} {q : List Nat} (hr : Rows B w f) (hf : f i = some (rowI qv (castI q))) (t : Nat) (ho : OwnI B w1 qv' (castI q ++ [(t : Int)]))
    (hal : (roomOf qv' = roomOf qv ∧ w.grownBy w1 qv.ownBlock) ∨ (∃ k, qv'.ownBlock = some k ∧ w.heap.size ≤ k ∧ w.grownBy w1 none)) : Rows B w1 (upd f i (some (rowI qv' (castI (q ++ [t]))))) := by
  have hO := hr.ownI hf
  have hg : w.grownBy w1 qv.ownBlock := grown_via (hal.imp (·.2) (fun ⟨_, _, _, q⟩ => q))
  have hob : qv'.ownBlock = qv.ownBlock ∨ ∃ k, qv'.ownBlock = some k ∧ w.heap.size ≤ k := by
    rcases hal with ⟨q, _⟩ | ⟨k, h1, h2, _⟩
    · obtain ⟨a1, n1, c1, e1⟩ := hO.at.shape
      obtain ⟨a2, n2, c2, e2⟩ := ho.at.shape
      exact .inl (ownBlock_of_room e1 e2 q)
    · exact .inr ⟨k, h1, h2⟩
  have := hr.grown (r' := rowI qv' (castI q ++ [(t : Int)])) hf hg ho hob
  rwa [← castI_snoc] at this

end Go.Proofs.YtmhiambkfdkkbaaDoor

namespace Go.Proofs.YtmhiambkfdkkbaaDoor
open Go.RowKit
set_option maxRecDepth 100000

theorem checkG_num {G : List (List Int)} {n : Int} {l : List (ByteArray × Int)} (h : checkG G = some (n, l)) : (n != 0) = true := by
  unfold checkG at h
  split at h
  · injection h with h; injection h with h; subst h; rfl
  split at h
  · injection h with h; injection h with h; subst h; rfl
  split at h
  · injection h with h; injection h with h; subst h; rfl
  · cases h
theorem OwnI.set3 {B b : Nat} {w : World} {v : Value} {xs : List Int} (h : OwnI B w v xs) (hb : b < B) (x y z : Value) : OwnI B (((w.setCell ⟨b, 0, none⟩ x).setCell ⟨b, 1, none⟩ y).setCell ⟨b, 2, none⟩ z) v xs :=
  OwnV.toI (((h.toV.setBelowBase (a := ⟨b, 0, none⟩) hb x).setBelowBase (a := ⟨b, 1, none⟩) hb y).setBelowBase (a := ⟨b, 2, none⟩) hb z)
theorem FirstPost.set3 {w w3 w4 : World} {adj : Nat → List Nat} {a b : Nat} {v : Value} (h : FirstPost w3 adj a b v w4) {c : Nat} (hb : c < w3.heap.size) (hs : w.heap.size ≤ w3.heap.size) (x y z : Value) : FirstPost w adj a b v (((w4.setCell ⟨c, 0, none⟩ x).setCell ⟨c, 1, none⟩ y).setCell ⟨c, 2, none⟩ z) := by
  rcases h with ⟨u, h1, h2⟩ | h
  · exact .inl ⟨u, h1, (h2.set3 hb x y z).mono hs⟩
  · exact .inr h
/-- What an answer with an error leaves. -/
def RefPost (w : World) (t : PErr) (P : Value → World → Prop) (x y : Value) (w' : World) : Prop :=
  EOwn w.heap.size w' t y ∧ (t = none → P x w') ∧ (t ≠ none → x = .slice none 0 0)
end Go.Proofs.YtmhiambkfdkkbaaDoor

namespace Go.Proofs.YtmhiambkfdkkbaaDoor
theorem Goes.loop {adj : Nat → List Nat} {x y : Nat} (h : Goes adj x y) (ha : x ∈ adj y) : OnLoop adj x := by
  obtain ⟨w, hw⟩ := h.way
  cases hw with
  | one => exact ⟨x, ha, .refl x⟩
  | @cons _ t _ w ht hw => exact ⟨t, ht, .step hw.goes ha⟩
end Go.Proofs.YtmhiambkfdkkbaaDoor

namespace Go.Proofs.YtmhiambkfdkkbaaDoor

theorem Peel.swap {n : Nat} {A B : Nat → List Nat} {inn out c d : Nat → Nat} {gone : Nat → Bool} {q : List Nat} {lives : Nat → Prop} (h : Peel n A B inn out c d gone q lives) : Peel n B A out inn d c gone q lives :=
  ⟨h.deg2, h.deg1, h.nodup, h.goneq, h.low, fun v hv => (h.fresh v hv).symm, h.keep⟩
theorem LiveSet.swap {n : Nat} {A B : Nat → List Nat} {lives : Nat → Prop} (h : LiveSet n A B lives) : LiveSet n B A lives := ⟨h.ahead, h.behind⟩
/-- Between two rounds. -/
structure PS (n : Nat) (A B : Nat → List Nat) (inn out c d : Nat → Nat) (gone : Nat → Bool) (q : List Nat) (lives : Nat → Prop) (i : Nat) : Prop where
  peel : Peel n A B inn out c d gone q lives
  pos : ∀ t, t < n → gone t = false → 0 < inn t ∧ 0 < out t
  done : ∀ j x, j < i → q[j]? = some x → c x = (A x).length ∧ d x = (B x).length
  rest : ∀ j x, i ≤ j → q[j]? = some x → c x = 0 ∧ d x = 0
/-- Within a round. -/
structure Mid (n : Nat) (A B : Nat → List Nat) (inn out c d : Nat → Nat) (gone : Nat → Bool) (q : List Nat) (lives : Nat → Prop) (i v : Nat) : Prop where
  peel : Peel n A B inn out c d gone q lives
  pos : ∀ t, t < n → gone t = false → 0 < inn t ∧ 0 < out t
  cur : q[i]? = some v
  done : ∀ j x, j < i → q[j]? = some x → c x = (A x).length ∧ d x = (B x).length
  rest : ∀ j x, i < j → q[j]? = some x → c x = 0 ∧ d x = 0
section
variable {n : Nat} {A B : Nat → List Nat} {inn out c d : Nat → Nat} {gone : Nat → Bool} {q : List Nat} {lives : Nat → Prop} {i v : Nat}
theorem Mid.swap (h : Mid n A B inn out c d gone q lives i v) : Mid n B A out inn d c gone q lives i v :=
  ⟨h.peel.swap, fun t ht hg => (h.pos t ht hg).symm, h.cur, fun j x hj hx => (h.done j x hj hx).symm, fun j x hj hx => (h.rest j x hj hx).symm⟩
theorem PS.enter (h : PS n A B inn out c d gone q lives i) (hv : q[i]? = some v) : Mid n A B inn out c d gone q lives i v ∧ c v = 0 ∧ d v = 0 ∧ v < n :=
  ⟨⟨h.peel, h.pos, hv, h.done, fun j x hj hx => h.rest j x (by omega) hx⟩, (h.rest i v (Nat.le_refl _) hv).1, (h.rest i v (Nat.le_refl _) hv).2, h.peel.low v (List.mem_of_getElem? hv)⟩
theorem Mid.leave (h : Mid n A B inn out c d gone q lives i v) (hc : c v = (A v).length) (hd : d v = (B v).length) : PS n A B inn out c d gone q lives (i + 1) := by
  refine ⟨h.peel, h.pos, fun j x hj hx => ?_, fun j x hj hx => h.rest j x (by omega) hx⟩
  by_cases e : j = i
  · subst e
    rw [h.cur] at hx; cases hx
    exact ⟨hc, hd⟩
  · exact h.done j x (by omega) hx
/-- An arrow of v is gone through. -/
theorem Mid.step (h : Mid n A B inn out c d gone q lives i v) (hL : LiveSet n A B lives) {k t : Nat} (hk : c v = k) (ht : (A v)[k]? = some t) (htn : t < n) :
    0 < inn t ∧ (inn t = 1 → gone t = false → Mid n A B (updN inn t (inn t - 1)) out (updN c v (k + 1)) d (updN gone t true) (q ++ [t]) lives i v) ∧
    ((inn t = 1 → gone t = true) → Mid n A B (updN inn t (inn t - 1)) out (updN c v (k + 1)) d gone q lives i v) := by
  have hvq := List.mem_of_getElem? h.cur
  obtain ⟨h0, hp⟩ := h.peel.arrow1 hvq hk ht htn
  have hne : ∀ j x, j ≠ i → q[j]? = some x → x ≠ v := fun j x hj hx e => hj (get_inj h.peel.nodup (by rw [hx, e]) h.cur)
  have hdone : ∀ j x, j < i → q[j]? = some x → updN c v (k + 1) x = (A x).length ∧ d x = (B x).length := fun j x hj hx => by
    rw [updN_other _ _ _ (hne j x (by omega) hx)]; exact h.done j x hj hx
  have hrest : ∀ j x, i < j → q[j]? = some x → updN c v (k + 1) x = 0 ∧ d x = 0 := fun j x hj hx => by
    rw [updN_other _ _ _ (hne j x (by omega) hx)]; exact h.rest j x hj hx
  refine ⟨h0, fun h1 hg => ?_, fun h1 => ?_⟩
  · have htq : t ∉ q := fun hm => by have := (h.peel.goneq t).2 hm; rw [hg] at this; cases this
    have htv : t ≠ v := fun e => htq (by rw [e]; exact hvq)
    have hil := get_of h.cur
    have hga : ∀ j x, (q ++ [t])[j]? = some x → q[j]? = some x ∨ j = q.length ∧ x = t := fun j x hx => by
      by_cases e : j < q.length
      · rw [List.getElem?_append_left e] at hx; exact .inl hx
      · rw [List.getElem?_append_right (by omega)] at hx
        by_cases e2 : j = q.length
        · rw [e2] at hx; simp at hx; exact .inr ⟨e2, hx.symm⟩
        · rw [List.getElem?_eq_none (by simp; omega)] at hx; cases hx
    refine ⟨hp.goes hL htn hg (.inl (by rw [updN_same]; omega)), fun x hx hgx => ?_, by rw [List.getElem?_append_left hil]; exact h.cur, fun j x hj hx => ?_, fun j x hj hx => ?_⟩
    · by_cases e : x = t
      · subst e; rw [updN_same] at hgx; cases hgx
      · rw [updN_other _ _ _ e] at hgx ⊢; exact h.pos x hx hgx
    · rcases hga j x hx with hx | ⟨hj2, _⟩
      · exact hdone j x hj hx
      · omega
    · rcases hga j x hx with hx | ⟨_, rfl⟩
      · exact hrest j x hj hx
      · rw [updN_other _ _ _ htv]; exact h.peel.fresh x htq
  · refine ⟨hp, fun x hx hgx => ?_, h.cur, hdone, hrest⟩
    by_cases e : x = t
    · subst e
      rw [updN_same]
      have := (h.pos x hx hgx).2
      have : inn x ≠ 1 := fun e => by have := h1 e; rw [hgx] at this; cases this
      omega
    · rw [updN_other _ _ _ e]; exact h.pos x hx hgx
end
/-- The beginning: the first k have been looked at. -/
structure PStart (n : Nat) (A B : Nat → List Nat) (gone : Nat → Bool) (q : List Nat) (lives : Nat → Prop) (k : Nat) : Prop where
  peel : Peel n A B (fun t => (B t).length) (fun t => (A t).length) (fun _ => 0) (fun _ => 0) gone q lives
  pos : ∀ t, t < k → gone t = false → 0 < (B t).length ∧ 0 < (A t).length
  below : ∀ x ∈ q, x < k
section
variable {n : Nat} {A B : Nat → List Nat} {gone : Nat → Bool} {q : List Nat} {lives : Nat → Prop} {k : Nat}
theorem PStart.zero (hA : ∀ t, t < n → ∀ x ∈ A t, x < n) (hB : ∀ t, t < n → ∀ x ∈ B t, x < n) (hc : ∀ t v, t < n → v < n → (B t).count v = (A v).count t) : PStart n A B (fun _ => false) [] lives 0 :=
  ⟨⟨Deg.init hB (fun v t hv ht => hc t v ht hv), Deg.init hA (fun v t hv ht => (hc v t hv ht).symm), by simp, fun x => by simp, fun x hx => by simp at hx, fun _ _ => ⟨rfl, rfl⟩, fun _ _ _ => rfl⟩, fun t ht => by omega, fun x hx => by simp at hx⟩
theorem PStart.take (h : PStart n A B gone q lives k) (hL : LiveSet n A B lives) (hk : k < n) (h0 : (A k).length = 0 ∨ (B k).length = 0) : PStart n A B (updN gone k true) (q ++ [k]) lives (k + 1) := by
  have hg : gone k = false := by
    cases hgk : gone k with
    | false => rfl
    | true => have := h.below k ((h.peel.goneq k).1 hgk); omega
  refine ⟨h.peel.goes hL hk hg h0.symm, fun t ht hgt => ?_, fun x hx => ?_⟩
  · by_cases e : t = k
    · subst e; rw [updN_same] at hgt; cases hgt
    · rw [updN_other _ _ _ e] at hgt; exact h.pos t (by omega) hgt
  · rcases List.mem_append.1 hx with hx | hx
    · have := h.below x hx; omega
    · cases List.mem_singleton.1 hx; omega
theorem PStart.skip (h : PStart n A B gone q lives k) (hA : (A k).length ≠ 0) (hB : (B k).length ≠ 0) : PStart n A B gone q lives (k + 1) := by
  refine ⟨h.peel, fun t ht hgt => ?_, fun x hx => by have := h.below x hx; omega⟩
  by_cases e : t = k
  · subst e; omega
  · exact h.pos t (by omega) hgt
theorem PStart.all (h : PStart n A B gone q lives n) : PS n A B (fun t => (B t).length) (fun t => (A t).length) (fun _ => 0) (fun _ => 0) gone q lives 0 :=
  ⟨h.peel, h.pos, fun j x hj => by omega, fun _ _ _ _ => ⟨rfl, rfl⟩⟩
end
/-- Live vertices have live neighbours. -/
theorem live_set {G H : List (List Int)} (hT : TurnedOf G H) (hok : GraphOk G) : LiveSet G.length (adjOf G) (adjOf H) (IsLive G.length (adjOf G)) := by
  refine ⟨fun t ht hl => ?_, fun t ht hl => ?_⟩
  · obtain ⟨⟨u, hu, hlu, hgu⟩, w, hw, hlw, hgw⟩ := hl
    cases hgu with
    | refl =>
      obtain ⟨s, hs, hgs⟩ := hlu
      cases hgs with
      | refl => exact ⟨t, ht, ⟨⟨t, hu, ⟨t, hs, .refl t⟩, .refl t⟩, w, hw, hlw, hgw⟩, hs⟩
      | @step p _ hgp htp =>
        have hsn := hok.lt t ht s hs
        have hpn := goes_lt hok hgp hsn
        have hL : OnLoop (adjOf G) t := ⟨s, hs, .step hgp htp⟩
        exact ⟨p, hpn, ⟨⟨t, ht, hL, .trans (.one hs) hgp⟩, t, ht, hL, .one htp⟩, htp⟩
    | @step p _ hgp htp =>
      have hpn := goes_lt hok hgp hu
      exact ⟨p, hpn, ⟨⟨u, hu, hlu, hgp⟩, w, hw, hlw, .trans (.one htp) hgw⟩, htp⟩
  · obtain ⟨⟨u, hu, hlu, hgu⟩, w, hw, hlw, hgw⟩ := hl
    have key : ∀ s, s ∈ adjOf G t → (∃ w, w < G.length ∧ OnLoop (adjOf G) w ∧ Goes (adjOf G) s w) → ∃ p, p < G.length ∧ IsLive G.length (adjOf G) p ∧ t ∈ adjOf H p := fun s hs hw => by
      have hsn := hok.lt t ht s hs
      exact ⟨s, hsn, ⟨⟨u, hu, hlu, .step hgu hs⟩, hw⟩, (turned_adj hT hok hsn).2 ⟨ht, hs⟩⟩
    obtain ⟨wy, hwy⟩ := hgw.way
    cases hwy with
    | one =>
      obtain ⟨s, hs, hgs⟩ := hlw
      exact key s hs ⟨t, hw, ⟨s, hs, hgs⟩, hgs⟩
    | @cons _ s _ _ hs hwy => exact key s hs ⟨w, hw, hlw, hwy.goes⟩
/-- What is left at the end are the live vertices. -/
theorem PS.end_ {G H : List (List Int)} (hT : TurnedOf G H) (hok : GraphOk G) {inn out c d : Nat → Nat} {gone : Nat → Bool} {q : List Nat} (h : PS G.length (adjOf G) (adjOf H) inn out c d gone q (IsLive G.length (adjOf G)) q.length) :
    LiveList G.length (adjOf G) ((List.range G.length).filter fun t => !gone t) := by
  have hall : ∀ v ∈ q, c v = (adjOf G v).length ∧ d v = (adjOf H v).length := fun v hv => by
    obtain ⟨j, hj⟩ := List.mem_iff_getElem?.1 hv
    exact h.done j v (get_of hj) hj
  refine ⟨List.Pairwise.filter _ List.pairwise_lt_range, fun v => ?_⟩
  rw [List.mem_filter, List.mem_range]
  constructor
  · rintro ⟨hv, hg⟩
    have hg : gone v = false := by simpa using hg
    refine ⟨hv, ?_, ?_⟩
    · obtain ⟨u, hu, ⟨t, ht, hgt⟩, hgo⟩ := set_loop (n := G.length) (A := adjOf H) (S := fun x => x < G.length ∧ gone x = false) (fun x hx => hx.1) (fun x hx => by
        obtain ⟨⟨p, hp, hgp, hm⟩, _⟩ := h.peel.left hall h.pos hx.1 hx.2
        exact ⟨p, (turned_adj hT hok hx.1).2 ⟨hp, hm⟩, hp, hgp⟩) ⟨hv, hg⟩
      obtain ⟨htn, hut⟩ := (turned_adj hT hok hu).1 ht
      exact ⟨u, hu, (turned_goes hT hok hgt htn).loop hut, turned_goes hT hok hgo hv⟩
    · obtain ⟨u, hu, hlu, hgo⟩ := set_loop (n := G.length) (A := adjOf G) (S := fun x => x < G.length ∧ gone x = false) (fun x hx => hx.1) (fun x hx => by
        obtain ⟨_, ⟨p, hp, hgp, hm⟩⟩ := h.peel.left hall h.pos hx.1 hx.2
        exact ⟨p, ((turned_adj hT hok hp).1 hm).2, hp, hgp⟩) ⟨hv, hg⟩
      exact ⟨u, hu, hlu, hgo⟩
  · rintro ⟨hv, hl⟩
    exact ⟨hv, by rw [h.peel.keep v hv hl]; rfl⟩
end Go.Proofs.YtmhiambkfdkkbaaDoor

namespace Go.Proofs.YtmhiambkfdkkbaaDoor
open Go.RowKit
set_option maxRecDepth 100000

/-- The memory of the peeling. -/
structure LvN (f : Names) (ov iv gv qv : Value) (n : Nat) (out inn : Nat → Nat) (gone : Nat → Bool) (q : List Nat) : Prop where
  outs : f (1, 0) = some (rowI ov (tab n out))
  inns : f (2, 0) = some (rowI iv (tab n inn))
  gones : f (3, 0) = some (rowV 4 gv (tabB n gone))
  queue : f (4, 0) = some (rowI qv (castI q))
section
variable {B : Nat} {w : World} {f : Names} {ov iv gv qv : Value} {n : Nat} {out inn : Nat → Nat} {gone : Nat → Bool} {q : List Nat}
theorem LvN.setOut (h : LvN f ov iv gv qv n out inn gone q) (hr : Rows B w f) (t : Nat) (ht : t < n) (a : Nat) : ∃ f', Rows B (w.setCell (valAt ov t) (.int .i64 (a : Int))) f' ∧ LvN f' ov iv gv qv n (updN out t a) inn gone q := by
  have hs := hr.setI h.outs t (by rw [tab_len]; exact ht) (a : Int)
  rw [tab_upd] at hs
  exact ⟨_, hs, ⟨upd_same _ _ _, by rw [upd_ne _ _ (by simp)]; exact h.inns, by rw [upd_ne _ _ (by simp)]; exact h.gones, by rw [upd_ne _ _ (by simp)]; exact h.queue⟩⟩
theorem LvN.setInn (h : LvN f ov iv gv qv n out inn gone q) (hr : Rows B w f) (t : Nat) (ht : t < n) (a : Nat) : ∃ f', Rows B (w.setCell (valAt iv t) (.int .i64 (a : Int))) f' ∧ LvN f' ov iv gv qv n out (updN inn t a) gone q := by
  have hs := hr.setI h.inns t (by rw [tab_len]; exact ht) (a : Int)
  rw [tab_upd] at hs
  exact ⟨_, hs, ⟨by rw [upd_ne _ _ (by simp)]; exact h.outs, upd_same _ _ _, by rw [upd_ne _ _ (by simp)]; exact h.gones, by rw [upd_ne _ _ (by simp)]; exact h.queue⟩⟩
theorem LvN.mark (h : LvN f ov iv gv qv n out inn gone q) (hr : Rows B w f) (t : Nat) (ht : t < n) : ∃ f', Rows B (w.setCell (valAt gv t) (.bool true)) f' ∧ LvN f' ov iv gv qv n out inn (updN gone t true) q := by
  have hs := hr.setV h.gones t (by rw [tabB_len]; exact ht) (.bool true)
  rw [tabB_upd] at hs
  exact ⟨_, hs, ⟨by rw [upd_ne _ _ (by simp)]; exact h.outs, by rw [upd_ne _ _ (by simp)]; exact h.inns, upd_same _ _ _, by rw [upd_ne _ _ (by simp)]; exact h.queue⟩⟩
theorem LvN.push (h : LvN f ov iv gv qv n out inn gone q) (hr : Rows B w f) {w1 : World} {qv' : Value} (t : Nat) (ho : OwnI B w1 qv' (castI q ++ [(t : Int)]))
    (hal : (roomOf qv' = roomOf qv ∧ w.grownBy w1 qv.ownBlock) ∨ (∃ k, qv'.ownBlock = some k ∧ w.heap.size ≤ k ∧ w.grownBy w1 none)) : ∃ f', Rows B w1 f' ∧ LvN f' ov iv gv qv' n out inn gone (q ++ [t]) :=
  ⟨_, row_push hr h.queue t ho hal, ⟨by rw [upd_ne _ _ (by simp)]; exact h.outs, by rw [upd_ne _ _ (by simp)]; exact h.inns, by rw [upd_ne _ _ (by simp)]; exact h.gones, upd_same _ _ _⟩⟩
/-- A number's cell. -/
theorem tab_cell (hr : Rows B w f) {i : Nat × Nat} {v : Value} {F : Nat → Nat} (hf : f i = some (rowI v (tab n F))) (t : Nat) (ht : t < n) :
    (∀ w', (Instr.indexAt 22 v (.int .i64 (t : Int))).run Tryd.prog w' = .ok (.pointer (some (valAt v t))) w') ∧ w.cell? (valAt v t) = some (.int .i64 (F t : Int)) ∧ w.frozen? (valAt v t) = false ∧ B ≤ (valAt v t).block := by
  have hO := hr.ownI hf
  refine ⟨fun w' => hO.at.idx t (by rw [tab_len]; exact ht) w', ?_, hO.frz t (by rw [tab_len]; exact ht), (hO.toV.blkB t (by rw [List.length_map, tab_len]; exact ht)).2⟩
  rw [hO.at.cellD t (by rw [tab_len]; exact ht), tab_get _ _ _ ht]
/-- A mark's cell. -/
theorem mark_cell (hr : Rows B w f) {i : Nat × Nat} {v : Value} {F : Nat → Bool} (hf : f i = some (rowV 4 v (tabB n F))) (t : Nat) (ht : t < n) :
    (∀ w', (Instr.indexAt 117 v (.int .i64 (t : Int))).run Tryd.prog w' = .ok (.pointer (some (valAt v t))) w') ∧ w.cell? (valAt v t) = some (.bool (F t)) ∧ w.frozen? (valAt v t) = false ∧ B ≤ (valAt v t).block := by
  have hO := hr.ownV hf
  refine ⟨fun w' => hO.at.idx oneBoolG t (by rw [tabB_len]; exact ht) w', ?_, hO.frz t (by rw [tabB_len]; exact ht), (hO.blkB t (by rw [tabB_len]; exact ht)).2⟩
  rw [hO.at.cellV t (by rw [tabB_len]; exact ht), tabB_get _ _ _ ht]
end
/-- The first k are F's. -/
def fillTo (F : Nat → Nat) (k t : Nat) : Nat := if t < k then F t else 0
theorem fillTo_next (F : Nat → Nat) (k : Nat) : updN (fillTo F k) k (F k) = fillTo F (k + 1) := by
  funext t
  unfold fillTo
  by_cases e : t = k
  · subst e; rw [updN_same, if_pos (by omega)]
  · rw [updN_other _ _ _ e]
    by_cases q : t < k
    · rw [if_pos q, if_pos (by omega)]
    · rw [if_neg q, if_neg (by omega)]
theorem tab_congr {n : Nat} {f g : Nat → Nat} (h : ∀ t, t < n → f t = g t) : tab n f = tab n g := by
  unfold tab
  exact List.map_congr_left fun t ht => by rw [h t (List.mem_range.1 ht)]
theorem fillTo_all (F : Nat → Nat) (n : Nat) : tab n (fillTo F n) = tab n F := tab_congr fun t ht => by unfold fillTo; rw [if_pos ht]
theorem fillTo_zero (F : Nat → Nat) (n : Nat) : tab n (fillTo F 0) = List.replicate n 0 := by
  unfold tab
  apply List.ext_getElem
  · simp
  · intro i h1 h2; simp [fillTo]
theorem tabB_none (n : Nat) : tabB n (fun _ => false) = List.replicate n (.bool false) := by
  unfold tabB; apply List.ext_getElem <;> simp
theorem filter_next (p : Nat → Bool) (k : Nat) : (List.range (k + 1)).filter p = (List.range k).filter p ++ if p k = true then [k] else [] := by
  rw [List.range_succ, List.filter_append]
  by_cases h : p k = true
  · rw [if_pos h, List.filter_cons_of_pos h]; rfl
  · rw [if_neg h, List.filter_cons_of_neg h]; rfl
theorem castI_snoc' (l : List Nat) (k : Nat) : castI l ++ [(k : Int)] = castI (l ++ [k]) := (castI_snoc l k).symm
/-- Box3 below another block. -/
theorem Box3.keep {B : Nat} {w w' : World} {b : Nat} {x0 x1 x2 : Value} (h : Box3 w b x0 x1 x2) (hb : Below B w w') (hlt : b < B) : Box3 w' b x0 x1 x2 := h.belowB hb hlt

end Go.Proofs.YtmhiambkfdkkbaaDoor

namespace Go.Proofs.YtmhiambkfdkkbaaDoor
open Go.RowKit
set_option maxRecDepth 100000

/-- Vertices, each led to by an arrow from the one ahead. -/
def ChainOk (G : List (List Int)) (u : List Nat) : Prop := ∀ i x, u[i]? = some x → x < G.length ∧ ∀ j y, i = j + 1 → u[j]? = some y → (x : Int) ∈ G.getD y []
theorem adj_mem {G : List (List Int)} (hok : GraphOk G) {y x : Nat} (hy : y < G.length) (h : x ∈ adjOf G y) : (x : Int) ∈ G.getD y [] := by
  obtain ⟨z, hz, rfl⟩ := List.mem_map.1 h
  have := hok y hy z hz
  rwa [Int.toNat_of_nonneg this.1]
theorem way_chain {G : List (List Int)} (hok : GraphOk G) {x y : Nat} {w : List Nat} (h : Way (adjOf G) x y w) (hx : x < G.length) : ChainOk G w := by
  induction h with
  | one x =>
    intro i z hz
    have hi := get_of hz
    simp only [List.length_cons, List.length_nil] at hi
    obtain rfl : i = 0 := by omega
    injection hz with hz; subst hz
    exact ⟨hx, fun j y e => by omega⟩
  | @cons x t y w ht h ih =>
    have htn := hok.lt x hx t ht
    have ih := ih htn
    intro i z hz
    cases i with
    | zero => injection hz with hz; subst hz; exact ⟨hx, fun j y e => by omega⟩
    | succ i =>
      have hz' : w[i]? = some z := hz
      refine ⟨(ih i z hz').1, fun j y e hy => ?_⟩
      have e : j = i := by omega
      subst e
      cases j with
      | zero =>
        injection hy with hy; subst hy
        obtain ⟨w', rfl⟩ := h.ne
        injection hz' with hz'; subst hz'
        exact adj_mem hok hx ht
      | succ j => exact (ih (j + 1) z hz').2 j y rfl hy
theorem ChainOk.dropLast {G : List (List Int)} {u : List Nat} (h : ChainOk G u) : ChainOk G u.dropLast := by
  have up : ∀ i x, u.dropLast[i]? = some x → u[i]? = some x := fun i x hx => by
    rw [List.getElem?_dropLast] at hx
    split at hx
    · exact hx
    · cases hx
  intro i x hx
  exact ⟨(h i x (up i x hx)).1, fun j y e hy => (h i x (up i x hx)).2 j y e (up j y hy)⟩
theorem ChainOk.nil (G : List (List Int)) : ChainOk G [] := fun i x hx => by simp at hx

end Go.Proofs.YtmhiambkfdkkbaaDoor
