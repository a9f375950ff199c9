/-
  Walks: edenref13.Odd, Graph, Apart.
  pairs.Graph, pairs.Apart, edenref13.Graph, edenref13.Apart at any rule: one name for what both answer.
  Walk: edenraw.Lists at equal lists.
  Walks: the two functions within pairs.Words.
  Walk: pairs.Words.
  Walk: pairs.Words along a list of vertices.
  Walk: graph.Path.
  Walk: graph.Loop.
  The chapter's graph: its parts, its live vertices, its way from 0 to 4, as plain mathematics; the walk that makes it.
  Walks: the helpers of edenlaw12: awake, heavy, vertex, leads, goes.
  Walk: edenlaw13.awake.
  Walks: edenraw.LentRule, KeptRule.
-/
import Derived.Test.YtmhiambkfdkkbaaGreatDoorMPg8
import Derived.Deep.DeepCutAuto
import Derived.Deep.RegionHeld3
namespace Go.Proofs.YtmhiambkfdkkbaaGreatDoor
open Go.RowKit
set_option maxRecDepth 100000

theorem sorted_len9 : ∀ {L : List Nat} {lo n : Nat}, L.Pairwise (· < ·) → (∀ v ∈ L, lo ≤ v ∧ v < n) → L.length ≤ n - lo
  | [], _, _, _, _ => by simp
  | a :: L, lo, n, h, k => by
    have h1 := k a (by simp)
    have h2 := List.pairwise_cons.1 h
    have := sorted_len9 (lo := a + 1) (n := n) h2.2 (fun v hv => ⟨h2.1 v hv, (k v (by simp [hv])).2⟩)
    simp; omega
theorem live_len9 {n : Nat} {adj : Nat → List Nat} {L : List Nat} (h : LiveList n adj L) : L.length ≤ n :=
  Nat.le_trans (sorted_len9 (lo := 0) (n := n) h.sorted (fun v hv => ⟨Nat.zero_le _, ((h.mem v).1 hv).1⟩)) (by omega)
theorem ListsFrom.shape {B : Nat} {w : World} {v : Value} {G : List (List Int)} (h : ListsFrom B w v G) : ∃ a c, v = .slice a G.length c := h.at.shape
theorem ListsFrom.mono {B B' : Nat} {w : World} {v : Value} {G : List (List Int)} (h : ListsFrom B w v G) (hB : B' ≤ B) : ListsFrom B' w v G := by
  obtain ⟨vs, h1, h2, h3⟩ := h
  exact ⟨vs, h1.mono hB, h2, fun i hi => (h3 i hi).mono hB⟩
theorem ListsFrom.set3 {B b : Nat} {w : World} {v : Value} {G : List (List Int)} (h : ListsFrom B w v G) (hb : b < B) (x y z : Value) : ListsFrom B (((w.setCell ⟨b, 0, none⟩ x).setCell ⟨b, 1, none⟩ y).setCell ⟨b, 2, none⟩ z) v G :=
  ((h.set (a := ⟨b, 0, none⟩) hb x).set (a := ⟨b, 1, none⟩) hb y).set (a := ⟨b, 2, none⟩) hb z
theorem diag_bne (N p : Nat) : (((p / N : Nat) : Int) != ((p % N : Nat) : Int)) = !decide (Diag N p) := by
  by_cases e : p / N = p % N
  · rw [decide_eq_true (show Diag N p from e), e]; simp
  · rw [decide_eq_false (show ¬ Diag N p from e)]
    generalize p / N = a at *
    generalize p % N = b at *
    simp only [Bool.not_false, bne_iff_ne]
    omega
theorem dm9 (p N : Nat) (hp : p ≤ 100000000) : (p : Int).tdiv (N : Int) = ((p / N : Nat) : Int) ∧ (p : Int).tmod (N : Int) = ((p % N : Nat) : Int) ∧ (p : Int) / (N : Int) = ((p / N : Nat) : Int) ∧ (p : Int) % (N : Int) = ((p % N : Nat) : Int) ∧
    IntKind.i64.wrap ((p / N : Nat) : Int) = ((p / N : Nat) : Int) ∧ IntKind.i64.wrap ((p % N : Nat) : Int) = ((p % N : Nat) : Int) := by
  have h1 : p / N ≤ p := Nat.div_le_self _ _
  have h2 : p % N ≤ p := Nat.mod_le _ _
  refine ⟨by rw [Int.tdiv_eq_ediv_of_nonneg (by omega)]; simp, by rw [Int.tmod_eq_emod_of_nonneg (by omega)]; simp, by simp, by simp, ?_, ?_⟩
  · generalize p / N = a at *; exact wrapK (by omega) (by omega)
  · generalize p % N = a at *; exact wrapK (by omega) (by omega)
theorem pairG_small {K N : Nat} {T : List Int} (hk4 : K ≤ 4) : ∀ k, k < (pairG K N T).length → ((pairG K N T).getD k []).length ≤ 17592186044416 := fun k hk => by
  rw [pairG_len] at hk
  rw [pairG_row hk, castI_len]
  have := pairL_len K N T k
  have := Nat.mul_le_mul hk4 hk4
  omega

set_option maxHeartbeats 4000000 in
theorem ref_odd (K R : Nat) (va : Option Addr) (vn vc : Nat) (T : List Int) (w : World) (h : IntsAt w (.slice va vn vc) T) (hr : RuleOk K R T) (hR : 1 ≤ R) (hl : T.length ≤ 256) :
    Calls Tryz.prog 70 #[.agg #[.int .i64 K, .int .i64 R, .slice va vn vc]] w (Ret1 (fun x w' => ∃ L, LiveList (pw K (2 * R) * pw K (2 * R)) (adjOf (pairG K (pw K (2 * R)) T)) L ∧ OwnI w.heap.size w' x (castI (L.filter fun p => !decide (Diag (pw K (2 * R)) p)))) w) := by
  have b0 := belowAlloc w (.cells #[.int .i64 K, .int .i64 R, .slice va vn vc] 24)
  have q : Box3 (w.alloc (.cells #[.int .i64 K, .int .i64 R, .slice va vn vc] 24)) w.heap.size (.int .i64 K) (.int .i64 R) (.slice va vn vc) := by simp [Box3, go_sem]
  have hk1 := hr.k1
  have hk4 := hr.k4
  have hR3 := hr.r3
  have hN81 := nodes_le hr hR hl
  have hN1 := pw_pos (K := K) (2 * R) hk1
  obtain ⟨hdiv, hlen⟩ := hr.half
  have hNK : pw K (2 * R) * K ≤ 256 := by rw [← hlen]; exact hl
  have hck := pairG_check (K := K) (N := pw K (2 * R)) (T := T) (by omega) hN81 hNK
  have hcnt := fun (w' : World) => ref_count K R va vn vc w' hk1 hk4 hR3
  have hall := fun (w' : World) (h' : IntsAt w' (.slice va vn vc) T) => ref_all K R va vn vc T w' h' hr hR hl
  have hlive := fun (ga : Option Addr) (gc : Nat) (w' : World) (h' : ListsAt w' (.slice ga (pairG K (pw K (2 * R)) T).length gc) (pairG K (pw K (2 * R)) T)) => ref12_live ga gc (pairG K (pw K (2 * R)) T) w' h' (pairG_small hk4)
  have hgl := pairG_len (K := K) (N := pw K (2 * R)) (T := T)
  rw [hck] at hlive
  rw [hgl] at hlive
  generalize hN9 : pw K (2 * R) = N at *
  generalize hG : pairG K N T = G at *
  generalize hM : N * N = M at *
  have hM6 : M ≤ 6561 := by rw [← hM]; exact Nat.mul_le_mul hN81 hN81
  replace h := Lib.hid (h.below b0)
  replace hr := Lib.hid hr
  replace hcnt := Lib.hid hcnt
  replace hall := Lib.hid hall
  replace hlive := Lib.hid hlive
  replace hN9 := Lib.hid hN9
  replace hM := Lib.hid hM
  replace hG := Lib.hid hG
  replace hgl := Lib.hid hgl
  replace hck := Lib.hid hck
  clear hdiv hlen hNK
  have q0 := q
  obtain ⟨⟨z0, z1, z2⟩, -, -, -⟩ := q0
  go_enter Tryz.func70, Tryz.ntmps70
  go_wp2_with fail
  refine (hcnt.out _).mono ?_
  rintro e W1 ⟨_, rfl, b1, rfl⟩
  clear z0 z1 z2
  obtain ⟨⟨z0, z1, z2⟩, -, -, -⟩ := q.below b1
  have b01 := Below.step b0 b1
  go_wp2_with fail
  refine (hall.out W1 (h.out.below b1)).mono ?_
  rintro e W2 ⟨gv, rfl, b2, hgv⟩
  obtain ⟨ga, gc, rfl⟩ := hgv.shape
  replace hgv := hgv.at
  rw [hgl.out] at hgv
  rw [hgl.out]
  have b02 := Below.step b01 b2
  replace hgv := Lib.hid hgv
  clear z0 z1 z2
  go_wp2_with fail
  refine (hlive.out ga gc W2 hgv.out).mono ?_
  rintro e W3 ⟨lv, y, rfl, b3, hE, hL, -⟩
  obtain rfl : y = .agg #[.int .i64 0, .slice none 0 0, .slice none 0 0] := hE
  obtain ⟨L, hLL, hlo⟩ := hL rfl
  have b03 := Below.step b02 b3
  have hlow : ∀ p ∈ L, p < M := fun p hp => ((hLL.mem p).1 hp).1
  have ba := belowAlloc W3 (.cells #[.int .i64 0, .slice none 0 0, .slice none 0 0] 34)
  obtain ⟨W4, hW4⟩ : ∃ W : World, W3.alloc (.cells #[.int .i64 0, .slice none 0 0, .slice none 0 0] 34) = W := ⟨_, rfl⟩
  have hl4 : IntsAt W4 lv (castI L) := by rw [← hW4]; exact hlo.at.below ba
  have b04 : Below w.heap.size w W4 := by rw [← hW4]; exact Below.step b03 ba
  have lL := hl4.len
  rw [castI_len] at lL
  have hLs : L.length ≤ 100000 := by
    have := live_len9 hLL
    omega
  obtain ⟨la, ln, lc, rfl⟩ := hl4.shape
  replace hLL := Lib.hid hLL
  replace hlow := Lib.hid hlow
  replace hl4 := Lib.hid hl4
  replace hW4 := Lib.hid hW4
  clear hlo ba
  go_upto_region 3 with fail
  rw [hW4.out]
  go_wp2_with fail
  go_loopw [6, 7] (fun ov iv wr => ∃ (i : Nat) (ow : Value), ow = ov ∧ iv = .int .i64 i ∧ i ≤ L.length ∧ OwnI W4.heap.size wr ow (castI ((L.take i).filter fun p => !decide (Diag N p))) ∧ Below W4.heap.size W4 wr) (fun _ iv _ => L.length - (intOf iv).toNat)
  case atStart => exact ⟨0, _, rfl, rfl, Nat.zero_le _, OwnI.nil _ _, Below.refl _ _⟩
  case round =>
    obtain ⟨i, ow, rfl, rfl, hi, hO, hB⟩ := hrel
    obtain ⟨wo, rfl⟩ : ∃ wo : World, wo = wr := ⟨_, rfl⟩
    by_cases hil : i < L.length
    · have diL : decide ((i : Int) < (L.length : Int)) = true := decide_eq_true (by omega)
      obtain ⟨p, hp⟩ : ∃ p, L[i]? = some p := ⟨_, List.getElem?_eq_getElem hil⟩
      have hpM := hlow.out p (List.mem_of_getElem? hp)
      obtain ⟨V, hV⟩ : ∃ V : World, wo.drew = V := ⟨_, rfl⟩
      have hBV : Below W4.heap.size W4 V := by rw [← hV]; exact hB.drew
      have hOV : OwnI W4.heap.size V ow (castI ((L.take i).filter fun p => !decide (Diag N p))) := by rw [← hV]; exact hO
      have hlV := hl4.out.below hBV
      have iL := fun w' => hlV.idx i (by rw [castI_len]; exact hil) w'
      have cL := hlV.cellD i (by rw [castI_len]; exact hil)
      rw [castI_get hp] at cL
      have htk : L.take (i + 1) = L.take i ++ [p] := by rw [List.take_add_one, hp]; rfl
      have hfl : ((L.take i).filter fun p => !decide (Diag N p)).length ≤ i := Nat.le_trans (List.length_filter_le _ _) (by rw [List.length_take]; omega)
      obtain ⟨e1, e2, e3, e4, e5, e6⟩ := dm9 p N (by omega)
      have hN3 : ¬ N = 0 := by omega
      have hN4 : ((N : Int) == 0) = false := by rw [beq_eq_false_iff_ne]; omega
      have hne := diag_bne N p
      have bVs := hBV.size
      generalize valAt (.slice la ln lc) i = xa at *
      have hS : V.cell? xa = some (.int .i64 p) := cL
      generalize p / N = pd at *
      generalize p % N = pm at *
      replace hV := Lib.hid hV
      replace hOV := Lib.hid hOV
      replace hO := Lib.hid hO
      replace hlV := Lib.hid hlV
      replace hp := Lib.hid hp
      replace htk := Lib.hid htk
      replace hne := Lib.hid hne
      go_upto_region 7 with fail
      refine wp_region_plan (fun w' => w'.cell? xa = some (.int .i64 p)) 12 [(0, true), (1, true), (2, true), (3, true), (4, true), (5, true), (6, true), (7, true), (8, true), (9, true), (10, true), (11, true)] (by kernel_rfl) (by kernel_rfl) ?_
      rw [hV.out]
      refine headY (v := ?_) (some 22) rfl rfl (Or.inl ⟨by rfl, ?_⟩) hS ?_
      rotate_left
      · rintro W' s0; go_simp; try with_reducible rfl
      simp only [Act.put, List.setIfInBounds_toArray, List.set_cons_zero, List.set_cons_succ]
      refine headY (v := ?_) (some 23) rfl rfl (Or.inl ⟨by rfl, ?_⟩) hS ?_
      rotate_left
      · rintro W' s0; go_simp; try with_reducible rfl
      simp only [Act.put, List.setIfInBounds_toArray, List.set_cons_zero, List.set_cons_succ]
      refine headY (v := ?_) (some 24) rfl rfl (Or.inl ⟨by rfl, ?_⟩) hS ?_
      rotate_left
      · rintro W' s0; go_simp; try with_reducible rfl
      simp only [Act.put, List.setIfInBounds_toArray, List.set_cons_zero, List.set_cons_succ]
      refine headY (v := ?_) (some 25) rfl rfl (Or.inl ⟨by rfl, ?_⟩) hS ?_
      rotate_left
      · rintro W' s0; go_simp; try with_reducible rfl
      simp only [Act.put, List.setIfInBounds_toArray, List.set_cons_zero, List.set_cons_succ]
      refine headY (v := ?_) (some 26) rfl rfl (Or.inl ⟨by rfl, ?_⟩) hS ?_
      rotate_left
      · rintro W' s0; go_simp; try with_reducible rfl
      simp only [Act.put, List.setIfInBounds_toArray, List.set_cons_zero, List.set_cons_succ]
      refine headY (v := ?_) (some 27) rfl rfl (Or.inl ⟨by rfl, ?_⟩) hS ?_
      rotate_left
      · rintro W' s0; go_simp; try with_reducible rfl
      simp only [Act.put, List.setIfInBounds_toArray, List.set_cons_zero, List.set_cons_succ]
      refine headY (v := ?_) (some 28) rfl rfl (Or.inl ⟨by rfl, ?_⟩) hS ?_
      rotate_left
      · rintro W' s0; go_simp; try with_reducible rfl
      simp only [Act.put, List.setIfInBounds_toArray, List.set_cons_zero, List.set_cons_succ]
      refine headY (v := ?_) (some 29) rfl rfl (Or.inl ⟨by rfl, ?_⟩) hS ?_
      rotate_left
      · rintro W' s0; go_simp; try with_reducible rfl
      simp only [Act.put, List.setIfInBounds_toArray, List.set_cons_zero, List.set_cons_succ]
      refine headY (v := ?_) (some 30) rfl rfl (Or.inl ⟨by rfl, ?_⟩) hS ?_
      rotate_left
      · rintro W' s0; go_simp; try with_reducible rfl
      simp only [Act.put, List.setIfInBounds_toArray, List.set_cons_zero, List.set_cons_succ]
      refine headY (v := ?_) (some 31) rfl rfl (Or.inl ⟨by rfl, ?_⟩) hS ?_
      rotate_left
      · rintro W' s0; go_simp; try with_reducible rfl
      simp only [Act.put, List.setIfInBounds_toArray, List.set_cons_zero, List.set_cons_succ]
      refine headY (v := ?_) (some 32) rfl rfl (Or.inl ⟨by rfl, ?_⟩) hS ?_
      rotate_left
      · rintro W' s0; go_simp; try with_reducible rfl
      simp only [Act.put, List.setIfInBounds_toArray, List.set_cons_zero, List.set_cons_succ]
      refine headY (v := ?_) (some 33) rfl rfl (Or.inl ⟨by rfl, ?_⟩) hS ?_
      rotate_left
      · rintro W' s0; go_simp; try with_reducible rfl
      simp only [Act.put, List.setIfInBounds_toArray, List.set_cons_zero, List.set_cons_succ]
      refine head0 ?_
      simp only [List.drop_succ_cons, List.drop_zero]
      clear hS
      by_cases hd : Diag N p
      · have hne2 := hne.out
        rw [decide_eq_true hd] at hne2
        replace hne2 : ((pd : Int) != (pm : Int)) = false := hne2
        have hO2 := hOV.out
        have : ((L.take (i + 1)).filter fun p => !decide (Diag N p)) = (L.take i).filter fun p => !decide (Diag N p) := by rw [htk.out, List.filter_append]; simp [hd]
        rw [← this] at hO2
        replace this := Lib.hid this
        replace hO2 := Lib.hid hO2
        replace hd := Lib.hid hd
        go_wp2
        refine NoPanic.normal ?_
        go_wp2
        go_roundw
        case measure => simp [intOf]; omega
        case rel => exact ⟨i + 1, _, rfl, by go_num, by omega, hO2.out, hBV⟩
      · have hne2 := hne.out
        rw [decide_eq_false hd] at hne2
        replace hne2 : ((pd : Int) != (pm : Int)) = true := hne2
        have : castI ((L.take i).filter fun p => !decide (Diag N p)) ++ [(p : Int)] = castI ((L.take (i + 1)).filter fun p => !decide (Diag N p)) := by rw [htk.out, List.filter_append]; simp [hd, castI]
        replace this := Lib.hid this
        replace hd := Lib.hid hd
        go_wp2
        refine NoPanic.normal ?_
        go_wp2_with (at_builtin; refine wpl_app1 rfl _ _ rfl W4.heap.size ow _ p hOV.out rfl rfl (by rw [castI_len]; omega) bVs ?_)
        intro v' w7 ho7 b7 _
        rw [this.out] at ho7
        obtain ⟨v7a, v7b, v7c, rfl⟩ := ho7.at.shape
        replace ho7 := Lib.hid ho7
        go_wp2
        go_roundw
        case measure => simp [intOf]; omega
        case rel => exact ⟨i + 1, _, rfl, by go_num, by omega, ho7.out, hBV.trans b7⟩
    · obtain rfl : i = L.length := by omega
      have diL : decide ((L.length : Int) < (L.length : Int)) = false := decide_eq_false (by omega)
      rw [List.take_length] at hO
      obtain ⟨oa, on, oc, rfl⟩ := hO.at.shape
      have bE := b04.trans (hB.mono b04.size)
      replace hO := Lib.hid hO
      go_wp2
      go_ret
      exact ⟨_, rfl, bE, L, hLL.out, hO.out.mono b04.size⟩


set_option maxHeartbeats 2000000 in
theorem ref13_graph_bad (k R : Int) (va : Option Addr) (vn vc : Nat) (T : List Int) (t : Int × List (ByteArray × Int)) (w : World) (h : IntsAt w (.slice va vn vc) T) (hc : smallP k R T = some t) :
    Calls Tryz.prog 23 #[.agg #[.int .i64 k, .int .i64 R, .slice va vn vc]] w (Ret2 (fun x y w' => x = .slice none 0 0 ∧ EOwn w.heap.size w' (under sPairs 0 (some t)) y) w) := by
  have bA := Below.step (belowAlloc w (.cells #[.int .i64 k, .int .i64 R, .slice va vn vc] 24)) (belowAlloc _ (.cells #[.int .i64 0, .slice none 0 0, .slice none 0 0] 34))
  have qA : Box3 ((w.alloc (.cells #[.int .i64 k, .int .i64 R, .slice va vn vc] 24)).alloc (.cells #[.int .i64 0, .slice none 0 0, .slice none 0 0] 34)) w.heap.size (.int .i64 k) (.int .i64 R) (.slice va vn vc) := by simp [Box3, go_sem]
  have q4 : Box3 ((w.alloc (.cells #[.int .i64 k, .int .i64 R, .slice va vn vc] 24)).alloc (.cells #[.int .i64 0, .slice none 0 0, .slice none 0 0] 34)) (w.heap.size + 1) (.int .i64 0) (.slice none 0 0) (.slice none 0 0) := by simp [Box3, go_sem]
  have s0 : ((w.alloc (.cells #[.int .i64 k, .int .i64 R, .slice va vn vc] 24)).alloc (.cells #[.int .i64 0, .slice none 0 0, .slice none 0 0] 34)).heap.size = w.heap.size + 2 := by simp
  obtain ⟨WA, hWA⟩ : ∃ W : World, ((w.alloc (.cells #[.int .i64 k, .int .i64 R, .slice va vn vc] 24)).alloc (.cells #[.int .i64 0, .slice none 0 0, .slice none 0 0] 34)) = W := ⟨_, rfl⟩
  replace h := h.below bA
  rw [hWA] at h bA qA q4 s0
  replace h := Lib.hid h
  replace s0 := Lib.hid s0
  replace hWA := Lib.hid hWA
  have qA0 := qA
  obtain ⟨⟨z0, z1, z2⟩, -, -, -⟩ := qA0
  replace hc := Lib.hid hc
  go_enter Tryz.func23, Tryz.ntmps23
  go_upto_region 1 with fail
  rw [hWA.out]
  go_wp2_with fail
  refine (ref08_fault _ k R va vn vc T WA h.out).mono ?_
  rintro e w1 ⟨x, rfl, b1, he⟩
  rw [hc.out] at he
  obtain ⟨n, l⟩ := t
  have hn := smallP_num hc.out
  have he' := he
  obtain ⟨a1, n1, c1, a2, n2, c2, rfl, _, _⟩ := he'
  obtain ⟨be, ⟨⟨y0, y1, y2⟩, -, -, -⟩⟩ := err_box8 w1 (.int .i64 n) (.slice a1 n1 c1) (.slice a2 n2 c2)
  have c1e := Below.step b1 be
  have hs1 := b1.size
  rw [s0.out] at hs1
  have hn0 : (n != 0) = true := by rw [bne_iff_ne]; omega
  have heb := he.below be
  obtain ⟨W2, hW2⟩ : ∃ W2 : World, w1.alloc (.cells #[.int .i64 n, .slice a1 n1 c1, .slice a2 n2 c2] 34) = W2 := ⟨_, rfl⟩
  rw [hW2] at be c1e heb y0 y1 y2
  replace hW2 := Lib.hid hW2
  replace he := Lib.hid he
  replace heb := Lib.hid heb
  clear z0 z1 z2
  go_upto_region 2 with fail
  rw [hW2.out]
  go_wp2_with fail
  refine (err_bad _ _ _ _ _ _ _ W2).mono ?_
  rintro e w3 ⟨_, rfl, b3, rfl⟩
  rw [hn0]
  have hey := heb.out.below b3
  have c3 := Below.step c1e b3
  obtain ⟨W, hW⟩ : ∃ W : World, w3.drew = W := ⟨_, rfl⟩
  have c4 : Below WA.heap.size WA W := by rw [← hW]; exact c3.drew
  have heW : EOwn WA.heap.size W (under sPairs 0 (some (n, l))) (.agg #[.int .i64 n, .slice a1 n1 c1, .slice a2 n2 c2]) := by rw [← hW]; exact hey.drew
  have hS : W.cell? ⟨w1.heap.size, 0, none⟩ = some (.int .i64 n) ∧ W.cell? ⟨w1.heap.size, 1, none⟩ = some (.slice a1 n1 c1) ∧ W.cell? ⟨w1.heap.size, 2, none⟩ = some (.slice a2 n2 c2) := by
    rw [← hW]
    exact ⟨(b3.cell (World.block_lt_of_cell? _ _ y0)).trans y0, (b3.cell (World.block_lt_of_cell? _ _ y1)).trans y1, (b3.cell (World.block_lt_of_cell? _ _ y2)).trans y2⟩
  obtain ⟨⟨u0, u1, u2⟩, f0, f1, f2⟩ := q4.below c4
  have sW := c4.size
  rw [s0.out] at sW
  replace hW := Lib.hid hW
  replace hey := Lib.hid hey
  replace heW := Lib.hid heW
  clear y0 y1 y2
  go_upto_region 3 with fail
  refine wp_region_plan (fun w' => w'.cell? ⟨w1.heap.size, 0, none⟩ = some (.int .i64 n) ∧ w'.cell? ⟨w1.heap.size, 1, none⟩ = some (.slice a1 n1 c1) ∧ w'.cell? ⟨w1.heap.size, 2, none⟩ = some (.slice a2 n2 c2)) 2 [(0, true), (1, true)] (by kernel_rfl) (by kernel_rfl) ?_
  rw [hW.out]
  refine headY (v := ?_) (some 9) rfl rfl (Or.inl ⟨by rfl, ?_⟩) hS ?_
  rotate_left
  · rintro W' ⟨s0, s1, s2⟩; go_simp; try with_reducible rfl
  simp only [Act.put, List.setIfInBounds_toArray, List.set_cons_zero, List.set_cons_succ]
  refine headY (v := ?_) (some 2) rfl rfl (Or.inl ⟨by rfl, ?_⟩) hS ?_
  rotate_left
  · rintro W' ⟨s0, s1, s2⟩; go_simp; try with_reducible rfl
  simp only [Act.put, List.setIfInBounds_toArray, List.set_cons_zero, List.set_cons_succ]
  refine head0 ?_
  simp only [List.drop_succ_cons, List.drop_zero]
  clear hS
  go_wp2
  refine NoPanic.normal ?_
  go_wp2
  (try simp only [Exit.inBlock, Exit.then])
  refine bodyPost_ret (v := .tuple #[.slice none 0 0, .agg #[.int .i64 n, .slice a1 n1 c1, .slice a2 n2 c2]]) (by simp [results, Tryz.results23, go_sem, u0, u1, u2]) rfl ⟨_, _, rfl, below_set3 (Below.step bA c4) (by omega) _ _ _, rfl, ?_⟩
  have := s0.out
  exact (heW.out.set3 (by omega) _ _ _).mono (by omega)

set_option maxHeartbeats 2000000 in
theorem ref13_graph_ok (K R : Nat) (va : Option Addr) (vn vc : Nat) (T : List Int) (w : World) (h : IntsAt w (.slice va vn vc) T) (hr : RuleOk K R T) (hl : T.length ≤ 256) :
    Calls Tryz.prog 23 #[.agg #[.int .i64 K, .int .i64 R, .slice va vn vc]] w (Ret2 (fun x y w' => y = .agg #[.int .i64 0, .slice none 0 0, .slice none 0 0] ∧ ListsFrom w.heap.size w' x (pairG K (pw K (2 * wkR R)) (wkT K R T))) w) := by
  have bA := Below.step (belowAlloc w (.cells #[.int .i64 K, .int .i64 R, .slice va vn vc] 24)) (belowAlloc _ (.cells #[.int .i64 0, .slice none 0 0, .slice none 0 0] 34))
  have qA : Box3 ((w.alloc (.cells #[.int .i64 K, .int .i64 R, .slice va vn vc] 24)).alloc (.cells #[.int .i64 0, .slice none 0 0, .slice none 0 0] 34)) w.heap.size (.int .i64 K) (.int .i64 R) (.slice va vn vc) := by simp [Box3, go_sem]
  have q4 : Box3 ((w.alloc (.cells #[.int .i64 K, .int .i64 R, .slice va vn vc] 24)).alloc (.cells #[.int .i64 0, .slice none 0 0, .slice none 0 0] 34)) (w.heap.size + 1) (.int .i64 0) (.slice none 0 0) (.slice none 0 0) := by simp [Box3, go_sem]
  have s0 : ((w.alloc (.cells #[.int .i64 K, .int .i64 R, .slice va vn vc] 24)).alloc (.cells #[.int .i64 0, .slice none 0 0, .slice none 0 0] 34)).heap.size = w.heap.size + 2 := by simp
  obtain ⟨WA, hWA⟩ : ∃ W : World, ((w.alloc (.cells #[.int .i64 K, .int .i64 R, .slice va vn vc] 24)).alloc (.cells #[.int .i64 0, .slice none 0 0, .slice none 0 0] 34)) = W := ⟨_, rfl⟩
  replace h := h.below bA
  rw [hWA] at h bA qA q4 s0
  replace h := Lib.hid h
  replace s0 := Lib.hid s0
  replace hWA := Lib.hid hWA
  have qA0 := qA
  obtain ⟨⟨z0, z1, z2⟩, -, -, -⟩ := qA0
  have hsm : smallP K R T = none := by rw [smallP_ok hr, if_neg (by omega)]
  have hwork := fun (w' : World) (h' : IntsAt w' (.slice va vn vc) T) => ref_working K R va vn vc T w' h' hr
  have hcall := fun (a : Option Addr) (n c : Nat) (w' : World) (h' : IntsAt w' (.slice a n c) (wkT K R T)) => ref_all K (wkR R) a n c (wkT K R T) w' h' (wk_ok hr) (wk_pos R) (wk_small hr hl)
  replace hsm := Lib.hid hsm
  replace hwork := Lib.hid hwork
  replace hcall := Lib.hid hcall
  replace hr := Lib.hid hr
  go_enter Tryz.func23, Tryz.ntmps23
  go_upto_region 1 with fail
  rw [hWA.out]
  go_wp2_with fail
  refine (ref08_fault _ K R va vn vc T WA h.out).mono ?_
  rintro e w1 ⟨x, rfl, b1, he⟩
  rw [hsm.out] at he
  obtain rfl : x = .agg #[.int .i64 0, .slice none 0 0, .slice none 0 0] := he
  obtain ⟨be, ⟨⟨y0, y1, y2⟩, -, -, -⟩⟩ := err_box8 w1 (.int .i64 0) (.slice none 0 0) (.slice none 0 0)
  have c1e := Below.step b1 be
  obtain ⟨W2, hW2⟩ : ∃ W2 : World, w1.alloc (.cells #[.int .i64 0, .slice none 0 0, .slice none 0 0] 34) = W2 := ⟨_, rfl⟩
  rw [hW2] at be c1e y0 y1 y2
  replace hW2 := Lib.hid hW2
  clear z0 z1 z2
  go_upto_region 2 with fail
  rw [hW2.out]
  go_wp2_with fail
  refine (err_bad _ _ _ _ _ _ _ W2).mono ?_
  rintro e w3 ⟨_, rfl, b3, rfl⟩
  rw [show ((0 : Int) != 0) = false from rfl]
  have c3 := Below.step c1e b3
  clear y0 y1 y2
  obtain ⟨⟨z0, z1, z2⟩, -, -, -⟩ := qA.below c3
  go_wp2_with fail
  refine (hwork.out w3 (h.out.below c3)).mono ?_
  rintro e w4 ⟨_, rfl, b4, a, n, c, rfl, hT⟩
  have c4 := Below.step c3 b4
  replace hT := Lib.hid hT
  clear z0 z1 z2
  go_wp2_with fail
  refine (hcall.out a n c w4 hT.out).mono ?_
  rintro e w5 ⟨x, rfl, b5, hx⟩
  have c5 := Below.step c4 b5
  obtain ⟨⟨u0, u1, u2⟩, f0, f1, f2⟩ := q4.below c5
  have sW := c5.size
  rw [s0.out] at sW
  obtain ⟨xa, xc, rfl⟩ := hx.shape
  have sE := c4.size
  rw [s0.out] at sE
  have hx9 := (hx.set3 (b := w.heap.size + 1) (by omega) (.int .i64 0) (.slice none 0 0) (.slice none 0 0)).mono (B' := w.heap.size) (by omega)
  replace hx := Lib.hid hx
  replace hx9 := Lib.hid hx9
  go_wp2
  (try simp only [Exit.inBlock, Exit.then])
  refine bodyPost_ret (v := .tuple #[.slice xa (pairG K (pw K (2 * wkR R)) (wkT K R T)).length xc, .agg #[.int .i64 0, .slice none 0 0, .slice none 0 0]]) (by simp [results, Tryz.results23, go_sem, u0, u1, u2]) rfl ⟨_, _, rfl, below_set3 (Below.step bA c5) (by omega) _ _ _, rfl, hx9.out⟩

set_option maxHeartbeats 2000000 in
theorem ref13_apart_bad (k R : Int) (va : Option Addr) (vn vc : Nat) (T : List Int) (t : Int × List (ByteArray × Int)) (w : World) (h : IntsAt w (.slice va vn vc) T) (hc : smallP k R T = some t) :
    Calls Tryz.prog 25 #[.agg #[.int .i64 k, .int .i64 R, .slice va vn vc]] w (Ret2 (fun x y w' => x = .slice none 0 0 ∧ EOwn w.heap.size w' (under sPairs 0 (some t)) y) w) := by
  have bA := Below.step (belowAlloc w (.cells #[.int .i64 k, .int .i64 R, .slice va vn vc] 24)) (belowAlloc _ (.cells #[.int .i64 0, .slice none 0 0, .slice none 0 0] 34))
  have qA : Box3 ((w.alloc (.cells #[.int .i64 k, .int .i64 R, .slice va vn vc] 24)).alloc (.cells #[.int .i64 0, .slice none 0 0, .slice none 0 0] 34)) w.heap.size (.int .i64 k) (.int .i64 R) (.slice va vn vc) := by simp [Box3, go_sem]
  have q4 : Box3 ((w.alloc (.cells #[.int .i64 k, .int .i64 R, .slice va vn vc] 24)).alloc (.cells #[.int .i64 0, .slice none 0 0, .slice none 0 0] 34)) (w.heap.size + 1) (.int .i64 0) (.slice none 0 0) (.slice none 0 0) := by simp [Box3, go_sem]
  have s0 : ((w.alloc (.cells #[.int .i64 k, .int .i64 R, .slice va vn vc] 24)).alloc (.cells #[.int .i64 0, .slice none 0 0, .slice none 0 0] 34)).heap.size = w.heap.size + 2 := by simp
  obtain ⟨WA, hWA⟩ : ∃ W : World, ((w.alloc (.cells #[.int .i64 k, .int .i64 R, .slice va vn vc] 24)).alloc (.cells #[.int .i64 0, .slice none 0 0, .slice none 0 0] 34)) = W := ⟨_, rfl⟩
  replace h := h.below bA
  rw [hWA] at h bA qA q4 s0
  replace h := Lib.hid h
  replace s0 := Lib.hid s0
  replace hWA := Lib.hid hWA
  have qA0 := qA
  obtain ⟨⟨z0, z1, z2⟩, -, -, -⟩ := qA0
  replace hc := Lib.hid hc
  go_enter Tryz.func25, Tryz.ntmps25
  go_upto_region 1 with fail
  rw [hWA.out]
  go_wp2_with fail
  refine (ref08_fault _ k R va vn vc T WA h.out).mono ?_
  rintro e w1 ⟨x, rfl, b1, he⟩
  rw [hc.out] at he
  obtain ⟨n, l⟩ := t
  have hn := smallP_num hc.out
  have he' := he
  obtain ⟨a1, n1, c1, a2, n2, c2, rfl, _, _⟩ := he'
  obtain ⟨be, ⟨⟨y0, y1, y2⟩, -, -, -⟩⟩ := err_box8 w1 (.int .i64 n) (.slice a1 n1 c1) (.slice a2 n2 c2)
  have c1e := Below.step b1 be
  have hs1 := b1.size
  rw [s0.out] at hs1
  have hn0 : (n != 0) = true := by rw [bne_iff_ne]; omega
  have heb := he.below be
  obtain ⟨W2, hW2⟩ : ∃ W2 : World, w1.alloc (.cells #[.int .i64 n, .slice a1 n1 c1, .slice a2 n2 c2] 34) = W2 := ⟨_, rfl⟩
  rw [hW2] at be c1e heb y0 y1 y2
  replace hW2 := Lib.hid hW2
  replace he := Lib.hid he
  replace heb := Lib.hid heb
  clear z0 z1 z2
  go_upto_region 2 with fail
  rw [hW2.out]
  go_wp2_with fail
  refine (err_bad _ _ _ _ _ _ _ W2).mono ?_
  rintro e w3 ⟨_, rfl, b3, rfl⟩
  rw [hn0]
  have hey := heb.out.below b3
  have c3 := Below.step c1e b3
  obtain ⟨W, hW⟩ : ∃ W : World, w3.drew = W := ⟨_, rfl⟩
  have c4 : Below WA.heap.size WA W := by rw [← hW]; exact c3.drew
  have heW : EOwn WA.heap.size W (under sPairs 0 (some (n, l))) (.agg #[.int .i64 n, .slice a1 n1 c1, .slice a2 n2 c2]) := by rw [← hW]; exact hey.drew
  have hS : W.cell? ⟨w1.heap.size, 0, none⟩ = some (.int .i64 n) ∧ W.cell? ⟨w1.heap.size, 1, none⟩ = some (.slice a1 n1 c1) ∧ W.cell? ⟨w1.heap.size, 2, none⟩ = some (.slice a2 n2 c2) := by
    rw [← hW]
    exact ⟨(b3.cell (World.block_lt_of_cell? _ _ y0)).trans y0, (b3.cell (World.block_lt_of_cell? _ _ y1)).trans y1, (b3.cell (World.block_lt_of_cell? _ _ y2)).trans y2⟩
  obtain ⟨⟨u0, u1, u2⟩, f0, f1, f2⟩ := q4.below c4
  have sW := c4.size
  rw [s0.out] at sW
  replace hW := Lib.hid hW
  replace hey := Lib.hid hey
  replace heW := Lib.hid heW
  clear y0 y1 y2
  go_upto_region 3 with fail
  refine wp_region_plan (fun w' => w'.cell? ⟨w1.heap.size, 0, none⟩ = some (.int .i64 n) ∧ w'.cell? ⟨w1.heap.size, 1, none⟩ = some (.slice a1 n1 c1) ∧ w'.cell? ⟨w1.heap.size, 2, none⟩ = some (.slice a2 n2 c2)) 2 [(0, true), (1, true)] (by kernel_rfl) (by kernel_rfl) ?_
  rw [hW.out]
  refine headY (v := ?_) (some 9) rfl rfl (Or.inl ⟨by rfl, ?_⟩) hS ?_
  rotate_left
  · rintro W' ⟨s0, s1, s2⟩; go_simp; try with_reducible rfl
  simp only [Act.put, List.setIfInBounds_toArray, List.set_cons_zero, List.set_cons_succ]
  refine headY (v := ?_) (some 2) rfl rfl (Or.inl ⟨by rfl, ?_⟩) hS ?_
  rotate_left
  · rintro W' ⟨s0, s1, s2⟩; go_simp; try with_reducible rfl
  simp only [Act.put, List.setIfInBounds_toArray, List.set_cons_zero, List.set_cons_succ]
  refine head0 ?_
  simp only [List.drop_succ_cons, List.drop_zero]
  clear hS
  go_wp2
  refine NoPanic.normal ?_
  go_wp2
  (try simp only [Exit.inBlock, Exit.then])
  refine bodyPost_ret (v := .tuple #[.slice none 0 0, .agg #[.int .i64 n, .slice a1 n1 c1, .slice a2 n2 c2]]) (by simp [results, Tryz.results25, go_sem, u0, u1, u2]) rfl ⟨_, _, rfl, below_set3 (Below.step bA c4) (by omega) _ _ _, rfl, ?_⟩
  have := s0.out
  exact (heW.out.set3 (by omega) _ _ _).mono (by omega)

set_option maxHeartbeats 2000000 in
theorem ref13_apart_ok (K R : Nat) (va : Option Addr) (vn vc : Nat) (T : List Int) (w : World) (h : IntsAt w (.slice va vn vc) T) (hr : RuleOk K R T) (hl : T.length ≤ 256) :
    Calls Tryz.prog 25 #[.agg #[.int .i64 K, .int .i64 R, .slice va vn vc]] w (Ret2 (fun x y w' => y = .agg #[.int .i64 0, .slice none 0 0, .slice none 0 0] ∧ ∃ L, LiveList (pw K (2 * wkR R) * pw K (2 * wkR R)) (adjOf (pairG K (pw K (2 * wkR R)) (wkT K R T))) L ∧ OwnI w.heap.size w' x (castI (L.filter fun p => !decide (Diag (pw K (2 * wkR R)) p)))) w) := by
  have bA := Below.step (belowAlloc w (.cells #[.int .i64 K, .int .i64 R, .slice va vn vc] 24)) (belowAlloc _ (.cells #[.int .i64 0, .slice none 0 0, .slice none 0 0] 34))
  have qA : Box3 ((w.alloc (.cells #[.int .i64 K, .int .i64 R, .slice va vn vc] 24)).alloc (.cells #[.int .i64 0, .slice none 0 0, .slice none 0 0] 34)) w.heap.size (.int .i64 K) (.int .i64 R) (.slice va vn vc) := by simp [Box3, go_sem]
  have q4 : Box3 ((w.alloc (.cells #[.int .i64 K, .int .i64 R, .slice va vn vc] 24)).alloc (.cells #[.int .i64 0, .slice none 0 0, .slice none 0 0] 34)) (w.heap.size + 1) (.int .i64 0) (.slice none 0 0) (.slice none 0 0) := by simp [Box3, go_sem]
  have s0 : ((w.alloc (.cells #[.int .i64 K, .int .i64 R, .slice va vn vc] 24)).alloc (.cells #[.int .i64 0, .slice none 0 0, .slice none 0 0] 34)).heap.size = w.heap.size + 2 := by simp
  obtain ⟨WA, hWA⟩ : ∃ W : World, ((w.alloc (.cells #[.int .i64 K, .int .i64 R, .slice va vn vc] 24)).alloc (.cells #[.int .i64 0, .slice none 0 0, .slice none 0 0] 34)) = W := ⟨_, rfl⟩
  replace h := h.below bA
  rw [hWA] at h bA qA q4 s0
  replace h := Lib.hid h
  replace s0 := Lib.hid s0
  replace hWA := Lib.hid hWA
  have qA0 := qA
  obtain ⟨⟨z0, z1, z2⟩, -, -, -⟩ := qA0
  have hsm : smallP K R T = none := by rw [smallP_ok hr, if_neg (by omega)]
  have hwork := fun (w' : World) (h' : IntsAt w' (.slice va vn vc) T) => ref_working K R va vn vc T w' h' hr
  have hcall := fun (a : Option Addr) (n c : Nat) (w' : World) (h' : IntsAt w' (.slice a n c) (wkT K R T)) => ref_odd K (wkR R) a n c (wkT K R T) w' h' (wk_ok hr) (wk_pos R) (wk_small hr hl)
  replace hsm := Lib.hid hsm
  replace hwork := Lib.hid hwork
  replace hcall := Lib.hid hcall
  replace hr := Lib.hid hr
  go_enter Tryz.func25, Tryz.ntmps25
  go_upto_region 1 with fail
  rw [hWA.out]
  go_wp2_with fail
  refine (ref08_fault _ K R va vn vc T WA h.out).mono ?_
  rintro e w1 ⟨x, rfl, b1, he⟩
  rw [hsm.out] at he
  obtain rfl : x = .agg #[.int .i64 0, .slice none 0 0, .slice none 0 0] := he
  obtain ⟨be, ⟨⟨y0, y1, y2⟩, -, -, -⟩⟩ := err_box8 w1 (.int .i64 0) (.slice none 0 0) (.slice none 0 0)
  have c1e := Below.step b1 be
  obtain ⟨W2, hW2⟩ : ∃ W2 : World, w1.alloc (.cells #[.int .i64 0, .slice none 0 0, .slice none 0 0] 34) = W2 := ⟨_, rfl⟩
  rw [hW2] at be c1e y0 y1 y2
  replace hW2 := Lib.hid hW2
  clear z0 z1 z2
  go_upto_region 2 with fail
  rw [hW2.out]
  go_wp2_with fail
  refine (err_bad _ _ _ _ _ _ _ W2).mono ?_
  rintro e w3 ⟨_, rfl, b3, rfl⟩
  rw [show ((0 : Int) != 0) = false from rfl]
  have c3 := Below.step c1e b3
  clear y0 y1 y2
  obtain ⟨⟨z0, z1, z2⟩, -, -, -⟩ := qA.below c3
  go_wp2_with fail
  refine (hwork.out w3 (h.out.below c3)).mono ?_
  rintro e w4 ⟨_, rfl, b4, a, n, c, rfl, hT⟩
  have c4 := Below.step c3 b4
  replace hT := Lib.hid hT
  clear z0 z1 z2
  go_wp2_with fail
  refine (hcall.out a n c w4 hT.out).mono ?_
  rintro e w5 ⟨x, rfl, b5, hx⟩
  have c5 := Below.step c4 b5
  obtain ⟨⟨u0, u1, u2⟩, f0, f1, f2⟩ := q4.below c5
  have sW := c5.size
  rw [s0.out] at sW
  obtain ⟨L, hLL, hxI⟩ := hx
  obtain ⟨xa, xn, xc, rfl⟩ := hxI.at.shape
  have sE := c4.size
  rw [s0.out] at sE
  have hx9 := (hxI.set3 (b := w.heap.size + 1) (by omega) (.int .i64 0) (.slice none 0 0) (.slice none 0 0)).mono (B' := w.heap.size) (by omega)
  replace hLL := Lib.hid hLL
  replace hxI := Lib.hid hxI
  replace hx9 := Lib.hid hx9
  go_wp2
  (try simp only [Exit.inBlock, Exit.then])
  refine bodyPost_ret (v := .tuple #[.slice xa xn xc, .agg #[.int .i64 0, .slice none 0 0, .slice none 0 0]]) (by simp [results, Tryz.results25, go_sem, u0, u1, u2]) rfl ⟨_, _, rfl, below_set3 (Below.step bA c5) (by omega) _ _ _, rfl, L, hLL.out, hx9.out⟩
end Go.Proofs.YtmhiambkfdkkbaaGreatDoor

namespace Go.Proofs.YtmhiambkfdkkbaaGreatDoor
open Go.RowKit
set_option maxRecDepth 100000

/-- The error that both answer. -/
def pgE (k R : Int) (T : List Int) : PErr :=
  match smallP k R T with
  | some t => under sPairs 0 (some t)
  | none => none
/-- The graph that both answer. -/
def pgG (k R : Int) (T : List Int) : List (List Int) :=
  match smallP k R T with
  | some _ => []
  | none => pairG k.toNat (pw k.toNat (2 * wkR R.toNat)) (wkT k.toNat R.toNat T)
/-- The pairs that both answer. -/
def pgA (k R : Int) (T : List Int) (xs : List Int) : Prop :=
  match smallP k R T with
  | some _ => xs = []
  | none => ∃ L, LiveList (pw k.toNat (2 * wkR R.toNat) * pw k.toNat (2 * wkR R.toNat)) (adjOf (pairG k.toNat (pw k.toNat (2 * wkR R.toNat)) (wkT k.toNat R.toNat T))) L ∧ xs = castI (L.filter fun p => !decide (Diag (pw k.toNat (2 * wkR R.toNat)) p))
theorem pgA.unique {k R : Int} {T xs ys : List Int} (h : pgA k R T xs) (h' : pgA k R T ys) : xs = ys := by
  unfold pgA at h h'
  cases hc : smallP k R T with
  | some t =>
    rw [hc] at h h'
    exact h.trans h'.symm
  | none =>
    rw [hc] at h h'
    obtain ⟨L, h1, rfl⟩ := h
    obtain ⟨M, h2, rfl⟩ := h'
    rw [h1.unique h2]
theorem pgE_fine (k R : Int) (T : List Int) : (pgE k R T).Fine := by
  unfold pgE
  cases h : smallP k R T with
  | some t =>
    obtain ⟨n, l⟩ := t
    have := smallP_num h
    refine ⟨by omega, by omega, ?_⟩
    simp only [List.length_cons]
    omega
  | none => trivial
theorem lists_nil (w : World) : ListsAt w (.slice none 0 0) [] :=
  (show ListsFrom 0 w (.slice none 0 0) [] from ⟨[], OwnV.nil _ _ _, rfl, fun i hi => absurd hi (Nat.not_lt_zero i)⟩).at

theorem pgraph_any (r : Nat → Addr) (k R : Int) (va : Option Addr) (vn vc : Nat) (T : List Int) (w : World) (hg : Glob r w) (h : IntsAt w (.slice va vn vc) T) :
    Calls Tryz.prog 22 #[.agg #[.int .i64 k, .int .i64 R, .slice va vn vc]] w (Ret2 (fun x y w' => ListsAt w' x (pgG k R T) ∧ ErrIs r w' (pgE k R T) y) w) := by
  unfold pgG pgE
  cases hc : smallP k R T with
  | some t =>
    refine (pgraph_bad r k R va vn vc T t w hg h hc).mono ?_
    rintro e w1 ⟨x, y, rfl, b1, rfl, hy⟩
    exact ⟨_, _, rfl, b1, lists_nil _, hy⟩
  | none =>
    obtain ⟨hck, hl⟩ := smallP_none hc
    obtain ⟨K, Q, rfl, rfl, hr⟩ := checkP_none hck
    refine (pgraph_ok r K Q va vn vc T w hg h hr hl).mono ?_
    rintro e w1 ⟨x, y, rfl, b1, rfl, f, vals, hR, hW⟩
    exact ⟨_, _, rfl, b1, hW.lists hR, rfl⟩
theorem papart_any (r : Nat → Addr) (k R : Int) (va : Option Addr) (vn vc : Nat) (T : List Int) (w : World) (hg : Glob r w) (h : IntsAt w (.slice va vn vc) T) :
    Calls Tryz.prog 24 #[.agg #[.int .i64 k, .int .i64 R, .slice va vn vc]] w (Ret2 (fun x y w' => (∃ xs, pgA k R T xs ∧ IntsAt w' x xs) ∧ ErrIs r w' (pgE k R T) y) w) := by
  unfold pgA pgE
  cases hc : smallP k R T with
  | some t =>
    refine (papart_bad r k R va vn vc T t w hg h hc).mono ?_
    rintro e w1 ⟨x, y, rfl, b1, rfl, hy⟩
    exact ⟨_, _, rfl, b1, ⟨[], rfl, (OwnI.nil 0 _).at⟩, hy⟩
  | none =>
    obtain ⟨hck, hl⟩ := smallP_none hc
    obtain ⟨K, Q, rfl, rfl, hr⟩ := checkP_none hck
    refine (papart_ok r K Q va vn vc T w hg h hr hl).mono ?_
    rintro e w1 ⟨x, y, rfl, b1, rfl, L, hL, ho⟩
    exact ⟨_, _, rfl, b1, ⟨_, ⟨L, hL, rfl⟩, ho.at⟩, rfl⟩
theorem rgraph_any (k R : Int) (va : Option Addr) (vn vc : Nat) (T : List Int) (w : World) (h : IntsAt w (.slice va vn vc) T) :
    Calls Tryz.prog 23 #[.agg #[.int .i64 k, .int .i64 R, .slice va vn vc]] w (Ret2 (fun x y w' => ListsAt w' x (pgG k R T) ∧ EOwn w.heap.size w' (pgE k R T) y) w) := by
  unfold pgG pgE
  cases hc : smallP k R T with
  | some t =>
    refine (ref13_graph_bad k R va vn vc T t w h hc).mono ?_
    rintro e w1 ⟨x, y, rfl, b1, rfl, hy⟩
    exact ⟨_, _, rfl, b1, lists_nil _, hy⟩
  | none =>
    obtain ⟨hck, hl⟩ := smallP_none hc
    obtain ⟨K, Q, rfl, rfl, hr⟩ := checkP_none hck
    refine (ref13_graph_ok K Q va vn vc T w h hr hl).mono ?_
    rintro e w1 ⟨x, y, rfl, b1, rfl, hF⟩
    exact ⟨_, _, rfl, b1, hF.at, rfl⟩
theorem rapart_any (k R : Int) (va : Option Addr) (vn vc : Nat) (T : List Int) (w : World) (h : IntsAt w (.slice va vn vc) T) :
    Calls Tryz.prog 25 #[.agg #[.int .i64 k, .int .i64 R, .slice va vn vc]] w (Ret2 (fun x y w' => (∃ xs, pgA k R T xs ∧ IntsAt w' x xs) ∧ EOwn w.heap.size w' (pgE k R T) y) w) := by
  unfold pgA pgE
  cases hc : smallP k R T with
  | some t =>
    refine (ref13_apart_bad k R va vn vc T t w h hc).mono ?_
    rintro e w1 ⟨x, y, rfl, b1, rfl, hy⟩
    exact ⟨_, _, rfl, b1, ⟨[], rfl, (OwnI.nil 0 _).at⟩, hy⟩
  | none =>
    obtain ⟨hck, hl⟩ := smallP_none hc
    obtain ⟨K, Q, rfl, rfl, hr⟩ := checkP_none hck
    refine (ref13_apart_ok K Q va vn vc T w h hr hl).mono ?_
    rintro e w1 ⟨x, y, rfl, b1, rfl, L, hL, ho⟩
    exact ⟨_, _, rfl, b1, ⟨_, ⟨L, hL, rfl⟩, ho.at⟩, rfl⟩
end Go.Proofs.YtmhiambkfdkkbaaGreatDoor

namespace Go.Proofs.YtmhiambkfdkkbaaGreatDoor
open Go.RowKit
set_option maxRecDepth 100000

set_option maxHeartbeats 1000000 in
theorem lists_eq (v u : Value) (G : List (List Int)) (w : World) (h : ListsAt w v G) (k : ListsAt w u G) :
    Calls Tryz.prog 26 #[v, u] w (RetB true w) := by
  obtain ⟨va, vc, rfl⟩ := h.shape
  obtain ⟨ua, uc, rfl⟩ := k.shape
  have hd : ((G.length : Int) != (G.length : Int)) = false := by simp
  have hm : G.length ≤ 9223372036854775807 := by
    obtain ⟨vs, h1, h2, _⟩ := h
    have := h1.len_le
    omega
  have hrow := fun i hi => h.row i hi
  have krow := fun i hi => k.row i hi
  replace hrow := Lib.hid hrow
  replace krow := Lib.hid krow
  clear h k
  go_enter Tryz.func26, Tryz.ntmps26
  go_wp2
  go_loopw [5] (fun i wr => (∃ j : Nat, j ≤ G.length ∧ i = .int .i64 j) ∧ ∃ n, wr = w.drewN n) (fun i _ => G.length - (intOf i).toNat)
  case atStart => exact ⟨⟨0, by omega, rfl⟩, 0, rfl⟩
  case round =>
    obtain ⟨⟨j, hj, rfl⟩, n, rfl⟩ := hrel
    by_cases hlt : j < G.length
    · have dj : decide ((j : Int) < (G.length : Int)) = true := decide_eq_true (by omega)
      obtain ⟨m1, i1, c1, r1⟩ := hrow.out j hlt
      obtain ⟨m2, i2, c2, r2⟩ := krow.out j hlt
      generalize valAt (.slice va G.length vc) j = xa at *
      generalize valAt (.slice ua G.length uc) j = ya at *
      replace r1 := Lib.hid r1
      replace r2 := Lib.hid r2
      obtain ⟨V, hV⟩ : ∃ V : World, (w.drewN n).drew = V := ⟨_, rfl⟩
      have hS : V.cell? xa = some m1 ∧ V.cell? ya = some m2 := by rw [← hV]; exact ⟨c1, c2⟩
      have q1 : IntsAt V m1 (G.getD j []) := by rw [← hV]; exact r1.out
      have q2 : IntsAt V m2 (G.getD j []) := by rw [← hV]; exact r2.out
      have hdr : ∃ n', V = w.drewN n' := ⟨n + 1, by rw [← hV]; rfl⟩
      replace hdr := Lib.hid hdr
      replace q1 := Lib.hid q1
      replace q2 := Lib.hid q2
      replace hV := Lib.hid hV
      go_upto_region 6 with fail
      refine wp_region_plan (fun w' => w'.cell? xa = some m1 ∧ w'.cell? ya = some m2) 9 [(0, true), (1, true), (2, true), (3, true), (4, true), (5, true), (6, true), (7, true), (8, false)] (by kernel_rfl) (by kernel_rfl) ?_
      rw [hV.out]
      refine headY (v := ?_) (some 17) rfl rfl (Or.inl ⟨by rfl, ?_⟩) hS ?_
      rotate_left
      · rintro W' ⟨s0, s1⟩; go_simp; try with_reducible rfl
      simp only [Act.put, List.setIfInBounds_toArray, List.set_cons_zero, List.set_cons_succ]
      refine headY (v := ?_) (some 18) rfl rfl (Or.inl ⟨by rfl, ?_⟩) hS ?_
      rotate_left
      · rintro W' ⟨s0, s1⟩; go_simp; try with_reducible rfl
      simp only [Act.put, List.setIfInBounds_toArray, List.set_cons_zero, List.set_cons_succ]
      refine headY (v := ?_) (some 19) rfl rfl (Or.inl ⟨by rfl, ?_⟩) hS ?_
      rotate_left
      · rintro W' ⟨s0, s1⟩; go_simp; try with_reducible rfl
      simp only [Act.put, List.setIfInBounds_toArray, List.set_cons_zero, List.set_cons_succ]
      refine headY (v := ?_) (some 20) rfl rfl (Or.inl ⟨by rfl, ?_⟩) hS ?_
      rotate_left
      · rintro W' ⟨s0, s1⟩; go_simp; try with_reducible rfl
      simp only [Act.put, List.setIfInBounds_toArray, List.set_cons_zero, List.set_cons_succ]
      refine headY (v := ?_) (some 21) rfl rfl (Or.inl ⟨by rfl, ?_⟩) hS ?_
      rotate_left
      · rintro W' ⟨s0, s1⟩; go_simp; try with_reducible rfl
      simp only [Act.put, List.setIfInBounds_toArray, List.set_cons_zero, List.set_cons_succ]
      refine headY (v := ?_) (some 22) rfl rfl (Or.inl ⟨by rfl, ?_⟩) hS ?_
      rotate_left
      · rintro W' ⟨s0, s1⟩; go_simp; try with_reducible rfl
      simp only [Act.put, List.setIfInBounds_toArray, List.set_cons_zero, List.set_cons_succ]
      refine headY (v := ?_) (some 23) rfl rfl (Or.inl ⟨by rfl, ?_⟩) hS ?_
      rotate_left
      · rintro W' ⟨s0, s1⟩; go_simp; try with_reducible rfl
      simp only [Act.put, List.setIfInBounds_toArray, List.set_cons_zero, List.set_cons_succ]
      refine headY (v := ?_) (some 24) rfl rfl (Or.inl ⟨by rfl, ?_⟩) hS ?_
      rotate_left
      · rintro W' ⟨s0, s1⟩; go_simp; try with_reducible rfl
      simp only [Act.put, List.setIfInBounds_toArray, List.set_cons_zero, List.set_cons_succ]
      refine headC rfl (fun KK hK => ?_)
      go_simp
      refine (ints_any m1 m2 _ _ V q1.out q2.out).mono ?_
      rintro e w7 ⟨n7, rfl, rfl⟩
      refine hK _ _ hS ?_
      clear hK KK
      refine head0 ?_
      simp only [List.drop_succ_cons, List.drop_zero]
      have hdr2 : ∃ n', V.drewN n7 = w.drewN n' := by
        obtain ⟨n', e⟩ := hdr.out
        rw [e]
        exact ⟨_, World.drewN_drewN ..⟩
      generalize V.drewN n7 = V7 at *
      replace hdr2 := Lib.hid hdr2
      clear hS
      go_wp2
      refine NoPanic.normal ?_
      go_wp2
      go_roundw
      case rel => exact ⟨⟨j + 1, by omega, by go_num⟩, hdr2.out⟩
      case measure => simp [intOf]; omega
    · obtain rfl : j = G.length := by omega
      have dj : decide ((G.length : Int) < (G.length : Int)) = false := decide_eq_false (by omega)
      go_wp2
      go_ret
      exact ⟨_, ret_bool rfl, rfl⟩
end Go.Proofs.YtmhiambkfdkkbaaGreatDoor

namespace Go.Proofs.YtmhiambkfdkkbaaGreatDoor
open Go.RowKit
set_option maxRecDepth 100000

/-- Quotient and rest of small numbers, as the machine reckons them. -/
theorem dm (p N : Nat) (hp : p ≤ 100000000) : (p : Int).tdiv (N : Int) = ((p / N : Nat) : Int) ∧ (p : Int).tmod (N : Int) = ((p % N : Nat) : Int) ∧ (p : Int) / (N : Int) = ((p / N : Nat) : Int) ∧ (p : Int) % (N : Int) = ((p % N : Nat) : Int) ∧
    IntKind.i64.wrap ((p / N : Nat) : Int) = ((p / N : Nat) : Int) ∧ IntKind.i64.wrap ((p % N : Nat) : Int) = ((p % N : Nat) : Int) := by
  have h1 : p / N ≤ p := Nat.div_le_self _ _
  have h2 : p % N ≤ p := Nat.mod_le _ _
  refine ⟨by rw [Int.tdiv_eq_ediv_of_nonneg (by omega)]; simp, by rw [Int.tmod_eq_emod_of_nonneg (by omega)]; simp, by simp, by simp, ?_, ?_⟩
  · generalize p / N = a at *; exact wrapK (by omega) (by omega)
  · generalize p % N = a at *; exact wrapK (by omega) (by omega)

theorem words1_any (x : Int) (b N : Nat) (w : World) (hN : N ≤ 10000) (hb : w.cell? ⟨b, 0, none⟩ = some (.int .i64 N)) :
    Calls Tryz.prog 75 #[.int .i64 x, .pointer (some ⟨b, 0, none⟩)] w fun e w' => e = .returned (.bool (odd1 ((N * N : Nat) : Int) x)) ∧ w = w' := by
  have hM : (N : Int) * (N : Int) = ((N * N : Nat) : Int) := by simp
  have hM2 := Nat.mul_le_mul hN hN
  by_cases h : x < 0
  · have e : odd1 ((N * N : Nat) : Int) x = true := by simp [odd1, h]
    rw [e]
    clear hM hM2
    go_enter Tryz.func75, Tryz.ntmps75
    go_wp2
    go_ret
    exact ⟨rfl, rfl⟩
  · have e : odd1 ((N * N : Nat) : Int) x = decide (((N * N : Nat) : Int) ≤ x) := by simp [odd1, h]
    rw [e]
    generalize N * N = M at *
    clear e
    go_enter Tryz.func75, Tryz.ntmps75
    go_wp2
    go_ret
    exact ⟨ret_bool (by simp), rfl⟩
theorem eg_words1 (args : Array Value) (w : World) : (callFunc 75 args).run Tryz.prog w = .ok (.enter 75 args) w := by kernel_rfl

set_option maxHeartbeats 1000000 in
theorem words2_any (K R x q : Nat) (w : World) (hk1 : 1 ≤ K) (hk4 : K ≤ 4) (hR : R ≤ 3) (hx : x ≤ 100000) (q0 : w.cell? ⟨q, 0, none⟩ = some (.int .i64 K)) (q1 : w.cell? ⟨q, 1, none⟩ = some (.int .i64 R)) :
    Calls Tryz.prog 77 #[.int .i64 x, .pointer (some ⟨q, 0, none⟩)] w (Ret1 (fun y w' => OwnI w.heap.size w' y (digs K (2 * R) x)) w) := by
  obtain ⟨ov, w1, mk, ho, hb1⟩ := run_makeI (2 * (R : Int)) (2 * R) w (by omega) (by omega)
  have lo := ho.at.len
  rw [List.length_replicate] at lo
  obtain ⟨oa, on, oc, rfl⟩ := ho.at.shape
  have hql := World.block_lt_of_cell? _ _ q0
  have hK0 : ((K : Int) == 0) = false := by rw [beq_eq_false_iff_ne]; omega
  have hK1 : ¬ (K : Int) = 0 := by omega
  have hK2 : (0 : Int) < K := by omega
  have hK3 : ¬ K = 0 := by omega
  obtain ⟨N, hN⟩ : ∃ N, 2 * R = N := ⟨_, rfl⟩
  have hN6 : N ≤ 6 := by omega
  rw [hN] at ho lo ⊢
  have hNi : 2 * (R : Int) = (N : Int) := by omega
  have hNw : IntKind.i64.wrap (N : Int) = N := wrapK (by omega) (by omega)
  rw [hNi] at mk
  replace ho := Lib.hid ho
  replace hN := Lib.hid hN
  go_enter Tryz.func77, Tryz.ntmps77
  go_wp2_with fail
  clear mk
  go_loopw [0, 12] (fun xv jv wr => ∃ j : Nat, j ≤ N ∧ jv = .int .i64 j ∧ xv = .int .i64 (x / pw K j : Nat) ∧ OwnI w.heap.size wr (.slice oa on oc) ((List.replicate N (0 : Int)).take (N - j) ++ (digs K N x).drop (N - j)) ∧ Below w.heap.size w wr) (fun _ jv _ => N - (intOf jv).toNat)
  case atStart => exact ⟨0, by omega, rfl, by simp [pw], by rw [Nat.sub_zero, List.drop_of_length_le (by rw [digs_length]; exact Nat.le_refl _), List.append_nil, List.take_of_length_le (by simp)]; exact ho.out, hb1⟩
  case round =>
    obtain ⟨j, hj, rfl, rfl, hO, hbI⟩ := hrel
    obtain ⟨wi, rfl⟩ : ∃ wi : World, wi = wr := ⟨_, rfl⟩
    by_cases hjl : j < N
    · have hXl : ((List.replicate N (0 : Int)).take (N - j) ++ (digs K N x).drop (N - j)).length = N := by simp only [List.length_append, List.length_take, List.length_replicate, List.length_drop, digs_length]; omega
      have i1 : ∀ w', (Instr.indexAt 22 (.slice oa on oc) (.int .i64 ((N : Int) - 1 - (j : Int)))).run Tryz.prog w' = .ok (.pointer (some (valAt (.slice oa on oc) (N - 1 - j)))) w' := by
        intro w'
        have := hO.at.idxI ((N : Int) - 1 - (j : Int)) (by omega) (by rw [hXl]; omega) w'
        rwa [show ((N : Int) - 1 - (j : Int)).toNat = N - 1 - j by omega] at this
      have c1 := hO.at.cellD (N - 1 - j) (by rw [hXl]; omega)
      have f1 := hO.frz (N - 1 - j) (by rw [hXl]; omega)
      have hS := hO.set (N - 1 - j) (by rw [hXl]; omega) ((x / pw K j % K : Nat) : Int)
      have hbS := hO.setBelow hbI (N - 1 - j) (by rw [hXl]; omega) (.int .i64 ((x / pw K j % K : Nat) : Int))
      rw [digs_fill K N x j hjl _ (by simp)] at hS
      have hqd : x / pw K j / K = x / pw K (j + 1) := by rw [Nat.div_div_eq_div_mul, ← pw_succ]
      have hql : x / pw K j ≤ 100000 := Nat.le_trans (Nat.div_le_self _ _) hx
      have y0 := (hbI.cell (p := ⟨q, 0, none⟩) (World.block_lt_of_cell? _ _ q0)).trans q0
      have hbe := hO.blkB (N - 1 - j) (by rw [hXl]; omega)
      generalize ((List.replicate N (0 : Int)).take (N - j) ++ (digs K N x).drop (N - j)).getD (N - 1 - j) 0 = y at c1
      have y0' : (wi.setCell (valAt (.slice oa on oc) (N - 1 - j)) (.int .i64 ((x / pw K j % K : Nat) : Int))).cell? ⟨q, 0, none⟩ = some (.int .i64 K) := (hbS.cell (p := ⟨q, 0, none⟩) (World.block_lt_of_cell? _ _ q0)).trans q0
      have hlen' := lo
      generalize valAt (.slice oa on oc) (N - 1 - j) = ya at *
      generalize x / pw K j = z at *
      obtain ⟨a1, a2, a3, a4, a5, a6⟩ := dm z K (by omega)
      obtain ⟨d, hd⟩ : ∃ d, z % K = d := ⟨_, rfl⟩
      obtain ⟨e, he⟩ : ∃ e, z / K = e := ⟨_, rfl⟩
      rw [hd] at a2 a4 a6 hS hbS y0'
      rw [he] at a1 a3 a5 hqd
      replace hS := Lib.hid hS
      replace hbS := Lib.hid hbS
      replace hqd := Lib.hid hqd
      replace hO := Lib.hid hO
      replace hd := Lib.hid hd
      replace he := Lib.hid he
      clear hXl
      go_wp2
      go_roundw
      case rel => exact ⟨j + 1, by omega, by go_num, by rw [← hqd.out], hS.out, hbS.out⟩
      case measure => simp [intOf]; omega
    · obtain rfl : j = N := by omega
      rw [Nat.sub_self, List.take_zero, List.drop_zero, List.nil_append] at hO
      replace hO := Lib.hid hO
      go_wp2
      go_ret
      exact ⟨_, rfl, hbI, hO.out⟩
theorem eg_words2 (args : Array Value) (w : World) : (callFunc 77 args).run Tryz.prog w = .ok (.enter 77 args) w := by kernel_rfl
end Go.Proofs.YtmhiambkfdkkbaaGreatDoor

namespace Go.Proofs.YtmhiambkfdkkbaaGreatDoor
open Go.RowKit
set_option maxRecDepth 100000

theorem Rows.void (B : Nat) (w : World) : Rows B w (fun _ => Option.none) := by
  refine ⟨?_, ?_⟩
  · intro i r h; cases h
  · intro i j r s h; cases h
theorem Rows.push {B : Nat} {w w1 : World} {f : Names} {i : Nat × Nat} {v v' : Value} {xs : List Int} (h : Rows B w f) (hi : f i = some (rowI v xs)) (x : Int) (ho : OwnI B w1 v' (xs ++ [x]))
    (hg : w.grownBy w1 v.ownBlock) (hal : v'.ownBlock = v.ownBlock ∨ ∃ k, v'.ownBlock = some k ∧ w.heap.size ≤ k) : Rows B w1 (upd f i (some (rowI v' (xs ++ [x])))) :=
  h.grown (r' := rowI v' (xs ++ [x])) hi hg ho hal
theorem alongW_snoc (K m : Nat) (F : Nat → Nat) (l : List Nat) (p : Nat) (hl : l ≠ []) : alongW K m F (l ++ [p]) = alongW K m F l ++ [((F p % K : Nat) : Int)] := by
  cases l with
  | nil => exact absurd rfl hl
  | cons a l => simp [alongW, List.getD]
theorem alongW_one (K m : Nat) (F : Nat → Nat) (p : Nat) : alongW K m F [p] = digs K m (F p) := by simp [alongW, List.getD]

/-- pairs.wrong. -/
theorem pairs_wrong (r : Nat → Addr) (at_ n : Int) (w : World) (hg : Glob r w) (h1 : 1 ≤ n) (h2 : n ≤ 11) :
    Calls Tryz.prog 76 #[.int .i64 at_, .int .i64 n] w (Ret1 (fun v w' => ErrIs r w' (fresh sPairs at_ n) v) w) := by
  go_enter Tryz.func76, Tryz.ntmps76
  go_wp2_with fail
  refine (new_any r _ at_ n w hg h1 h2).mono ?_
  rintro e w' ⟨v, rfl, hb, he⟩
  go_wp2
  go_ret
  exact ⟨_, rfl, hb, he⟩

theorem pwords_bad (r : Nat → Addr) (k R : Int) (va : Option Addr) (vn vc : Nat) (T : List Int) (u : Value) (t : Int × List (ByteArray × Int)) (w : World) (hg : Glob r w) (h : IntsAt w (.slice va vn vc) T) (hc : smallP k R T = some t) :
    Calls Tryz.prog 33 #[.agg #[.int .i64 k, .int .i64 R, .slice va vn vc], u] w (Ret3 (fun x y z w' => x = .slice none 0 0 ∧ y = .slice none 0 0 ∧ ErrIs r w' (under sPairs 0 (some t)) z) w) := by
  have b0 := belowAlloc w (.cells #[.int .i64 k, .int .i64 R, .slice va vn vc] 24)
  replace hg := Lib.hid (hg.below b0)
  replace h := Lib.hid (h.below b0)
  replace hc := Lib.hid hc
  go_enter Tryz.func33, Tryz.ntmps33
  go_wp2_with fail
  refine (working_bad r k R va vn vc T t _ hg.out h.out hc.out).mono ?_
  rintro e w1 ⟨x, y, rfl, b1, rfl, hy⟩
  obtain ⟨T2, a2, rfl⟩ : ∃ T a, y = .iface T (.pointer (some a)) := by
    unfold under at hy
    exact ErrIs.some_shape hy
  have ba := belowAlloc w1 (.cells #[.int .i64 0, .int .i64 0, .slice none 0 0] 24)
  have hy2 := hy.below ba
  replace hy := Lib.hid hy
  replace hy2 := Lib.hid hy2
  go_wp2
  go_ret3
  exact ⟨_, _, _, rfl, Below.step b0 (Below.step b1 ba), rfl, rfl, hy2.out⟩

/-- Is it a list of vertices? -/
def WayOk (N : Nat) (way : List Int) : Prop := way ≠ [] ∧ ∀ p ∈ way, 0 ≤ p ∧ p < ((N * N : Nat) : Int)
def AllFit (K N : Nat) (T : List Int) (ns : List Nat) : Prop := ∀ i, i + 1 < ns.length → StepFits K N T (ns.getD i 0) (ns.getD (i + 1) 0)
theorem WayOk.nat {N : Nat} {way : List Int} (h : WayOk N way) : ∃ ns : List Nat, way = castI ns ∧ ns ≠ [] ∧ ∀ p ∈ ns, p < N * N := by
  refine ⟨way.map Int.toNat, ?_, by simpa using h.1, fun p hp => ?_⟩
  · unfold castI
    rw [List.map_map]
    refine (List.map_id _).symm.trans (List.map_congr_left fun p hp => ?_)
    have := h.2 p hp
    show p = ((p.toNat : Nat) : Int)
    omega
  · obtain ⟨q, hq, rfl⟩ := List.mem_map.1 hp
    have := h.2 q hq
    omega

set_option maxHeartbeats 1000000 in
theorem pwords_odd (r : Nat → Addr) (K R : Nat) (va : Option Addr) (vn vc : Nat) (T : List Int) (u : Value) (way : List Int) (w : World) (hg : Glob r w) (h : IntsAt w (.slice va vn vc) T) (hr : RuleOk K R T) (hl : T.length ≤ 256) (hu : IntsAt w u way) (hno : ¬ WayOk (pw K (2 * wkR R)) way) :
    Calls Tryz.prog 33 #[.agg #[.int .i64 K, .int .i64 R, .slice va vn vc], u] w (Ret3 (fun x y z w' => x = .slice none 0 0 ∧ y = .slice none 0 0 ∧ ErrIs r w' (fresh sPairs 1 3) z) w) := by
  have b0 := belowAlloc w (.cells #[.int .i64 K, .int .i64 R, .slice va vn vc] 24)
  have hk1 := hr.k1
  have hokW := wk_ok hr
  have hlW := wk_small hr hl
  have hRW := wk_pos R
  have hN81 := nodes_le hokW hRW hlW
  obtain ⟨hdiv, hlen⟩ := hokW.half
  have hwork := fun (w' : World) (hgl : Glob r w') (hT : IntsAt w' (.slice va vn vc) T) => working_ok r K R va vn vc T w' hgl hT hr hl
  have hNodes := fun (a : Option Addr) (n c : Nat) (w' : World) (hgl : Glob r w') (hT : IntsAt w' (.slice a n c) (wkT K R T)) => over_Nodes r K (wkR R) a n c (wkT K R T) w' hgl hT hokW hlW
  rw [hdiv] at hNodes
  generalize pw K (2 * wkR R) = N at *
  generalize wkT K R T = T' at *
  generalize wkR R = R' at *
  have lu := hu.len
  obtain ⟨ua, un, uc, rfl⟩ := hu.shape
  replace hwork := Lib.hid hwork
  replace hNodes := Lib.hid hNodes
  replace hg := Lib.hid (hg.below b0)
  replace h := Lib.hid (h.below b0)
  replace hu := Lib.hid (hu.below b0)
  replace hokW := Lib.hid hokW
  replace hr := Lib.hid hr
  replace hdiv := Lib.hid hdiv
  replace hlen := Lib.hid hlen
  go_enter Tryz.func33, Tryz.ntmps33
  go_wp2_with fail
  refine (hwork.out _ hg.out h.out).mono ?_
  rintro e w1 ⟨x, y, rfl, b1, rfl, a, n, c, rfl, hT1⟩
  have ba := belowAlloc w1 (.cells #[.int .i64 K, .int .i64 R', .slice a n c] 24)
  have b12 := Below.step b1 ba
  have hT2 := hT1.below ba
  replace hT1 := Lib.hid hT1
  replace hT2 := Lib.hid hT2
  go_wp2_with fail
  refine (hNodes.out a n c _ (hg.out.below b12) hT2.out).mono ?_
  rintro e w3 ⟨x, y, rfl, b3, rfl, rfl⟩
  have bb := belowAlloc w3 (.cells #[.int .i64 N] 3)
  have b14 := Below.step b12 (Below.step b3 bb)
  have cN : (w3.alloc (.cells #[.int .i64 N] 3)).cell? ⟨w3.heap.size, 0, none⟩ = some (.int .i64 N) := by simp [go_sem]
  have hcf := containsFunc_any (.slice ua un uc) (.pointer (some ⟨w3.heap.size, 0, none⟩)) 75 way (odd1 ((N * N : Nat) : Int)) _ (hu.out.below b14) eg_words1 (fun x _ => words1_any x w3.heap.size N _ (by omega) cN)
  replace hcf := Lib.hid hcf
  replace cN := Lib.hid cN
  have hg4 := hg.out.below b14
  replace hg4 := Lib.hid hg4
  by_cases hw : way = []
  · subst hw
    go_wp2_with fail
    refine (pairs_wrong r _ _ _ hg4.out (by decide) (by decide)).mono ?_
    rintro e w5 ⟨x, rfl, b5, he⟩
    go_wp2
    go_ret3
    exact ⟨_, _, _, rfl, Below.step b0 (Below.step b14 b5), rfl, rfl, he⟩
  · have hl0 : ¬ way.length = 0 := fun e => hw (List.length_eq_zero_iff.1 e)
    have hl1 : ((way.length : Int) == 0) = false := by rw [beq_eq_false_iff_ne]; omega
    have hhit : decide (0 ≤ idxOf (odd1 ((N * N : Nat) : Int)) way) = true := by
      rw [decide_eq_true_iff]
      rcases idxOf_cases (odd1 ((N * N : Nat) : Int)) way with ⟨_, q⟩ | ⟨k, q, _⟩
      · exact absurd ⟨hw, fun p hp => odd1_false.1 (q p hp)⟩ hno
      · rw [q]; omega
    replace hw := Lib.hid hw
    replace hhit := Lib.hid hhit
    go_wp2_with fail
    refine hcf.out.mono ?_
    rintro e w5 ⟨rfl, rfl⟩
    rw [hhit.out]
    go_wp2_with fail
    refine (pairs_wrong r _ _ _ hg4.out (by decide) (by decide)).mono ?_
    rintro e w5 ⟨x, rfl, b5, he⟩
    go_wp2
    go_ret3
    exact ⟨_, _, _, rfl, Below.step b0 (Below.step b14 b5), rfl, rfl, he⟩
end Go.Proofs.YtmhiambkfdkkbaaGreatDoor

namespace Go.Proofs.YtmhiambkfdkkbaaGreatDoor
open Go.RowKit
set_option maxRecDepth 100000

/-- What Words leaves, of a list of vertices. -/
def WordsPost (r : Nat → Addr) (w : World) (K R : Nat) (T : List Int) (ns : List Nat) (x y z : Value) (w' : World) : Prop :=
  (AllFit K (pw K (2 * R)) T ns ∧ z = .nilIface ∧ OwnI w.heap.size w' x (alongW K (2 * R) (· / pw K (2 * R)) ns) ∧ OwnI w.heap.size w' y (alongW K (2 * R) (· % pw K (2 * R)) ns) ∧ (x.ownBlock = none ∨ x.ownBlock ≠ y.ownBlock)) ∨
  (¬ AllFit K (pw K (2 * R)) T ns ∧ x = .slice none 0 0 ∧ y = .slice none 0 0 ∧ ErrIs r w' (fresh sPairs 1 3) z)

set_option maxHeartbeats 4000000 in
theorem pwords_way (r : Nat → Addr) (K R : Nat) (va : Option Addr) (vn vc : Nat) (T : List Int) (u : Value) (ns : List Nat) (w : World) (hg : Glob r w) (h : IntsAt w (.slice va vn vc) T) (hr : RuleOk K R T) (hl : T.length ≤ 256) (hu : IntsAt w u (castI ns)) (hne : ns ≠ []) (hlow : ∀ p ∈ ns, p < pw K (2 * wkR R) * pw K (2 * wkR R)) (hnl : ns.length ≤ 17592186044000) :
    Calls Tryz.prog 33 #[.agg #[.int .i64 K, .int .i64 R, .slice va vn vc], u] w (Ret3 (WordsPost r w K (wkR R) (wkT K R T) ns) w) := by
  have b0 := belowAlloc w (.cells #[.int .i64 K, .int .i64 R, .slice va vn vc] 24)
  have hk1 := hr.k1
  have hk4 := hr.k4
  have hokW := wk_ok hr
  have hlW := wk_small hr hl
  have hRW := wk_pos R
  have hN81 := nodes_le hokW hRW hlW
  obtain ⟨hdiv, hlen⟩ := hokW.half
  have hR3 := hokW.r3
  have hN1 := pw_pos (K := K) (2 * wkR R) hk1
  have hwork := fun (w' : World) (hgl : Glob r w') (hT : IntsAt w' (.slice va vn vc) T) => working_ok r K R va vn vc T w' hgl hT hr hl
  have hNodes := fun (a : Option Addr) (n c : Nat) (w' : World) (hgl : Glob r w') (hT : IntsAt w' (.slice a n c) (wkT K R T)) => over_Nodes r K (wkR R) a n c (wkT K R T) w' hgl hT hokW hlW
  have hEdge := fun (a : Option Addr) (n c u s : Nat) (w' : World) (hgl : Glob r w') (hT : IntsAt w' (.slice a n c) (wkT K R T)) (hu : u < pw K (2 * wkR R)) (hs : s < K) => over_Edge r K (wkR R) a n c (wkT K R T) u s w' hgl hT hokW hlW (by rw [hdiv]; exact hu) hs
  rw [hdiv] at hNodes hEdge
  have hpost := fun (x y z : Value) (w' : World) => @WordsPost r w K (wkR R) (wkT K R T) ns x y z w'
  obtain ⟨m, hm⟩ : ∃ m, 2 * wkR R = m := ⟨_, rfl⟩
  unfold WordsPost
  rw [hm] at hNodes hEdge hlow hN81 hN1 hdiv hlen ⊢
  obtain ⟨N, hN⟩ : ∃ N, pw K m = N := ⟨_, rfl⟩
  rw [hN] at hNodes hEdge hlow hN81 hN1 hdiv hlen ⊢
  generalize wkT K R T = T' at *
  generalize wkR R = R' at *
  clear hpost
  have lu := hu.len
  obtain ⟨up, hup, hupI⟩ := hu.post 1 (by rw [castI_len]; exact List.length_pos_iff.2 hne)
  have lup := hupI.len
  have hcl : (castI ns).length = ns.length := castI_len ns
  have hdl : ((castI ns).drop 1).length = ns.length - 1 := by rw [List.length_drop, castI_len]
  rw [hdl] at lup
  rw [hcl] at lu
  have hnp : 0 < ns.length := List.length_pos_iff.2 hne
  have iU := fun (i : Nat) (hi : i < ns.length) w' => hu.idx i (by rw [castI_len]; exact hi) w'
  have cU := fun (i : Nat) (hi : i < ns.length) => hu.cellD i (by rw [castI_len]; exact hi)
  have iP := fun (i : Nat) (hi : i + 1 < ns.length) w' => hupI.idx i (by rw [hdl]; omega) w'
  have cP := fun (i : Nat) (hi : i + 1 < ns.length) => hupI.cellD i (by rw [hdl]; omega)
  have gU : ∀ i, i < ns.length → (castI ns).getD i 0 = ((ns.getD i 0 : Nat) : Int) := fun i hi => by simp [castI, List.getD, hi]
  have gP : ∀ i, i + 1 < ns.length → ((castI ns).drop 1).getD i 0 = ((ns.getD (i + 1) 0 : Nat) : Int) := fun i hi => by
    rw [List.getD_eq_getElem?_getD, List.getElem?_drop, Nat.add_comm 1 i, ← List.getD_eq_getElem?_getD]; exact gU _ hi
  have cU2 := fun (i : Nat) (hi : i < ns.length) => (cU i hi).trans (by rw [gU i hi])
  have cP2 := fun (i : Nat) (hi : i + 1 < ns.length) => (cP i hi).trans (by rw [gP i hi])
  have hlow2 : ∀ i, i < ns.length → ns.getD i 0 < N * N := fun i hi => by
    simp only [List.getD_eq_getElem?_getD, List.getElem?_eq_getElem hi, Option.getD_some]
    exact hlow _ (List.getElem_mem hi)
  have hM6 : N * N ≤ 6561 := Nat.mul_le_mul hN81 hN81
  have hokway : decide (0 ≤ idxOf (odd1 ((N * N : Nat) : Int)) (castI ns)) = false := by
    rw [decide_eq_false_iff_not, idxOf_neg]
    · omega
    · intro x hx
      obtain ⟨p, hp, rfl⟩ := List.mem_map.1 hx
      have := hlow p hp
      rw [odd1_false]; omega
  have hl0 : ¬ ns.length = 0 := by omega
  have hl1 : ((ns.length : Int) == 0) = false := by rw [beq_eq_false_iff_ne]; omega
  obtain ⟨ua, un, uc, rfl⟩ := hu.shape
  obtain ⟨pa, pn, pc, rfl⟩ := hupI.shape
  replace hwork := Lib.hid hwork
  replace hNodes := Lib.hid hNodes
  replace hEdge := Lib.hid hEdge
  replace hg := Lib.hid (hg.below b0)
  replace h := Lib.hid (h.below b0)
  replace hu := Lib.hid (hu.below b0)
  replace hokW := Lib.hid hokW
  replace hr := Lib.hid hr
  replace hdiv := Lib.hid hdiv
  replace hlen := Lib.hid hlen
  replace hm := Lib.hid hm
  replace hN := Lib.hid hN
  replace iU := Lib.hid iU
  replace iP := Lib.hid iP
  replace cU2 := Lib.hid cU2
  replace cP2 := Lib.hid cP2
  replace hlow2 := Lib.hid hlow2
  replace hlow := Lib.hid hlow
  replace hokway := Lib.hid hokway
  replace hne := Lib.hid hne
  replace hupI := Lib.hid hupI
  clear cU cP gU gP hdl hcl
  go_enter Tryz.func33, Tryz.ntmps33
  go_wp2_with fail
  refine (hwork.out _ hg.out h.out).mono ?_
  rintro e w1 ⟨x, y, rfl, b1, rfl, a, n, c, rfl, hT1⟩
  have ba := belowAlloc w1 (.cells #[.int .i64 K, .int .i64 R', .slice a n c] 24)
  have qw : Box3 (w1.alloc (.cells #[.int .i64 K, .int .i64 R', .slice a n c] 24)) w1.heap.size (.int .i64 K) (.int .i64 R') (.slice a n c) := by simp [Box3, go_sem]
  have b12 := Below.step b1 ba
  have hT2 := hT1.below ba
  replace hT1 := Lib.hid hT1
  replace hT2 := Lib.hid hT2
  replace qw := Lib.hid qw
  go_wp2_with fail
  refine (hNodes.out a n c _ (hg.out.below b12) hT2.out).mono ?_
  rintro e w3 ⟨x, y, rfl, b3, rfl, rfl⟩
  have bb := belowAlloc w3 (.cells #[.int .i64 N] 3)
  have b34 := Below.step b3 bb
  have b14 := Below.step b12 b34
  have cN : (w3.alloc (.cells #[.int .i64 N] 3)).cell? ⟨w3.heap.size, 0, none⟩ = some (.int .i64 N) := by simp [go_sem]
  have hcf := containsFunc_any (.slice ua un uc) (.pointer (some ⟨w3.heap.size, 0, none⟩)) 75 (castI ns) (odd1 ((N * N : Nat) : Int)) _ (hu.out.below b14) eg_words1 (fun x _ => words1_any x w3.heap.size N _ (by omega) cN)
  replace hcf := Lib.hid hcf
  replace cN := Lib.hid cN
  go_wp2_with fail
  refine hcf.out.mono ?_
  rintro e w5 ⟨rfl, hw5⟩
  rw [hokway.out]
  have cN5 := cN.out
  have qw5 := qw.out.below b34
  have hT5 := hT2.out.below b34
  rw [hw5] at b14 cN5 qw5 hT5
  clear hcf cN hw5 bb b34 b3 b12
  have b05 := Below.step b0 b14
  have hg5 := hg.out.below b14
  clear b14
  -- region 8
  obtain ⟨L1, hL1⟩ : ∃ L1, ns.length = L1 + 1 := ⟨ns.length - 1, by omega⟩
  rw [hL1, Nat.add_sub_cancel] at lup
  have hLbig : L1 ≤ 17592186044000 := by omega
  have hup1 : ∀ w', (Instr.slice 22 (.slice ua un uc) (some (.int .i64 1)) none none).run Tryz.prog w' = .ok (.slice pa pn pc) w' := hup
  obtain ⟨p0, hp0⟩ : ∃ p, ns.getD 0 0 = p := ⟨_, rfl⟩
  have hp0l : p0 < N * N := by rw [← hp0]; exact hlow2.out 0 hnp
  have i0 : ∀ w', (Instr.indexAt 22 (.slice ua un uc) (.int .i64 0)).run Tryz.prog w' = .ok (.pointer (some (valAt (.slice ua un uc) 0))) w' := fun w' => iU.out 0 hnp w'
  have c0 := cU2.out 0 hnp
  rw [hp0] at c0
  have c05 := (b05.cell (World.block_lt_of_cell? _ _ c0)).trans c0
  have hN0 : ((N : Int) == 0) = false := by rw [beq_eq_false_iff_ne]; omega
  have hN2 : ¬ (N : Int) = 0 := by omega
  have hN3 : ¬ N = 0 := by omega
  have hK0 : ((K : Int) == 0) = false := by rw [beq_eq_false_iff_ne]; omega
  have hK1 : ¬ (K : Int) = 0 := by omega
  have hK3 : ¬ K = 0 := by omega
  obtain ⟨d1, d2, d3, d4, d5, d6⟩ := dm p0 N (by omega)
  obtain ⟨u0, hu0⟩ : ∃ z, p0 / N = z := ⟨_, rfl⟩
  obtain ⟨v0, hv0⟩ : ∃ z, p0 % N = z := ⟨_, rfl⟩
  rw [hu0] at d1 d3 d5
  rw [hv0] at d2 d4 d6
  have hu0l : u0 < N := by rw [← hu0]; exact div_lt_of hp0l
  have hv0l : v0 < N := by rw [← hv0]; exact Nat.mod_lt _ (by omega)
  clear c0
  generalize valAt (.slice ua un uc) 0 = t0 at *
  replace hL1 := Lib.hid hL1
  replace hp0 := Lib.hid hp0
  replace hu0 := Lib.hid hu0
  replace hv0 := Lib.hid hv0
  replace hT5 := Lib.hid hT5
  replace hg5 := Lib.hid hg5
  go_upto_region 8 with fail
  refine wp_region_plan (fun w' => w'.cell? t0 = some (.int .i64 p0) ∧ w'.cell? ⟨w3.heap.size, 0, none⟩ = some (.int .i64 N)) 15 [(0, true), (1, true), (2, true), (3, true), (4, true), (5, true), (7, true), (8, true), (9, true), (10, true), (11, true), (12, true), (6, false), (13, false), (14, true)] (by kernel_rfl) (by kernel_rfl) ?_
  have hS : w5.drew.cell? t0 = some (.int .i64 p0) ∧ w5.drew.cell? ⟨w3.heap.size, 0, none⟩ = some (.int .i64 N) := ⟨c05, cN5⟩
  refine headY (v := ?_) (some 47) rfl rfl (Or.inl ⟨by rfl, ?_⟩) hS ?_
  rotate_left
  · rintro W' ⟨s0, s1⟩; go_simp; try with_reducible rfl
  simp only [Act.put, List.setIfInBounds_toArray, List.set_cons_zero, List.set_cons_succ]
  refine headY (v := ?_) (some 48) rfl rfl (Or.inl ⟨by rfl, ?_⟩) hS ?_
  rotate_left
  · rintro W' ⟨s0, s1⟩; go_simp; try with_reducible rfl
  simp only [Act.put, List.setIfInBounds_toArray, List.set_cons_zero, List.set_cons_succ]
  refine headY (v := ?_) (some 49) rfl rfl (Or.inl ⟨by rfl, ?_⟩) hS ?_
  rotate_left
  · rintro W' ⟨s0, s1⟩; go_simp; try with_reducible rfl
  simp only [Act.put, List.setIfInBounds_toArray, List.set_cons_zero, List.set_cons_succ]
  refine headY (v := ?_) (some 50) rfl rfl (Or.inl ⟨by rfl, ?_⟩) hS ?_
  rotate_left
  · rintro W' ⟨s0, s1⟩; go_simp; try with_reducible rfl
  simp only [Act.put, List.setIfInBounds_toArray, List.set_cons_zero, List.set_cons_succ]
  refine headY (v := ?_) (some 51) rfl rfl (Or.inl ⟨by rfl, ?_⟩) hS ?_
  rotate_left
  · rintro W' ⟨s0, s1⟩; go_simp; try with_reducible rfl
  simp only [Act.put, List.setIfInBounds_toArray, List.set_cons_zero, List.set_cons_succ]
  refine headY (v := ?_) (some 52) rfl rfl (Or.inl ⟨by rfl, ?_⟩) hS ?_
  rotate_left
  · rintro W' ⟨s0, s1⟩; go_simp; try with_reducible rfl
  simp only [Act.put, List.setIfInBounds_toArray, List.set_cons_zero, List.set_cons_succ]
  refine headY (v := ?_) (some 54) rfl rfl (Or.inl ⟨by rfl, ?_⟩) hS ?_
  rotate_left
  · rintro W' ⟨s0, s1⟩; go_simp; try with_reducible rfl
  simp only [Act.put, List.setIfInBounds_toArray, List.set_cons_zero, List.set_cons_succ]
  refine headY (v := ?_) (some 55) rfl rfl (Or.inl ⟨by rfl, ?_⟩) hS ?_
  rotate_left
  · rintro W' ⟨s0, s1⟩; go_simp; try with_reducible rfl
  simp only [Act.put, List.setIfInBounds_toArray, List.set_cons_zero, List.set_cons_succ]
  refine headY (v := ?_) (some 56) rfl rfl (Or.inl ⟨by rfl, ?_⟩) hS ?_
  rotate_left
  · rintro W' ⟨s0, s1⟩; go_simp; try with_reducible rfl
  simp only [Act.put, List.setIfInBounds_toArray, List.set_cons_zero, List.set_cons_succ]
  refine headY (v := ?_) (some 57) rfl rfl (Or.inl ⟨by rfl, ?_⟩) hS ?_
  rotate_left
  · rintro W' ⟨s0, s1⟩; go_simp; try with_reducible rfl
  simp only [Act.put, List.setIfInBounds_toArray, List.set_cons_zero, List.set_cons_succ]
  refine headY (v := ?_) (some 58) rfl rfl (Or.inl ⟨by rfl, ?_⟩) hS ?_
  rotate_left
  · rintro W' ⟨s0, s1⟩; go_simp; try with_reducible rfl
  simp only [Act.put, List.setIfInBounds_toArray, List.set_cons_zero, List.set_cons_succ]
  refine headY (v := ?_) (some 59) rfl rfl (Or.inl ⟨by rfl, ?_⟩) hS ?_
  rotate_left
  · rintro W' ⟨s0, s1⟩; go_simp; try with_reducible rfl
  simp only [Act.put, List.setIfInBounds_toArray, List.set_cons_zero, List.set_cons_succ]
  refine headC rfl (fun KK hK => ?_)
  go_simp
  refine (words2_any K R' u0 w1.heap.size w5.drew hk1 hk4 hR3 (by omega) qw5.1.1 qw5.1.2.1).mono ?_
  rintro e w6 ⟨av, rfl, b6, ho6⟩
  have hS6 : w6.cell? t0 = some (.int .i64 p0) ∧ w6.cell? ⟨w3.heap.size, 0, none⟩ = some (.int .i64 N) := ⟨(b6.cell (World.block_lt_of_cell? _ _ hS.1)).trans hS.1, cell_keep b6 hS.2⟩
  have qw6 := qw5.below (w' := w6) (Below.trans ((Below.refl _ _).drew) b6)
  refine hK _ _ hS6 ?_
  clear hK KK
  refine headC rfl (fun KK hK => ?_)
  go_simp
  refine (words2_any K R' v0 w1.heap.size w6 hk1 hk4 hR3 (by omega) qw6.1.1 qw6.1.2.1).mono ?_
  rintro e w7 ⟨bv, rfl, b7, ho7⟩
  have hS7 : w7.cell? t0 = some (.int .i64 p0) ∧ w7.cell? ⟨w3.heap.size, 0, none⟩ = some (.int .i64 N) := ⟨(b7.cell (World.block_lt_of_cell? _ _ hS6.1)).trans hS6.1, cell_keep b7 hS6.2⟩
  refine hK _ _ hS7 ?_
  clear hK KK
  refine headY (v := ?_) (some 12) rfl rfl (Or.inl ⟨by rfl, ?_⟩) hS7 ?_
  rotate_left
  · rintro W' ⟨s0, s1⟩; go_simp; try with_reducible rfl
  simp only [Act.put, List.setIfInBounds_toArray, List.set_cons_zero, List.set_cons_succ]
  refine head0 ?_
  simp only [List.drop_succ_cons, List.drop_zero]
  have b56 : Below w5.heap.size w5 w6 := Below.trans ((Below.refl _ _).drew) b6
  have b57 := Below.step b56 b7
  rw [hm.out] at ho6 ho7
  have r1 := (Rows.void w5.heap.size w5).add (i := (1, 0)) (r' := rowI av (digs K m u0)) b56 ho6 (fun k hk => (ho6.lt k hk).1)
  have r2 := r1.add (i := (2, 0)) (r' := rowI bv (digs K m v0)) b7 (ho7.mono b56.size) (fun k hk => (ho7.lt k hk).1)
  obtain ⟨f, hf⟩ : ∃ f, f = upd (upd (fun _ => none) (1, 0) (some (rowI av (digs K m u0)))) (2, 0) (some (rowI bv (digs K m v0))) := ⟨_, rfl⟩
  have hfa : f (1, 0) = some (rowI av (digs K m u0)) := by rw [hf, upd_ne _ _ (by simp), upd_same]
  have hfb : f (2, 0) = some (rowI bv (digs K m v0)) := by rw [hf, upd_same]
  rw [← hf] at r2
  have htk : ns.take 1 = [p0] := by
    cases hns : ns with
    | nil => exact absurd hns hne.out
    | cons a l => have := hp0.out; rw [hns] at this; simp at this; simp [this]
  have ha1 : alongW K m (· / N) (ns.take 1) = digs K m u0 := by rw [htk, alongW_one, hu0.out]
  have hb1 : alongW K m (· % N) (ns.take 1) = digs K m v0 := by rw [htk, alongW_one, hv0.out]
  rw [← ha1] at hfa
  rw [← hb1] at hfb
  clear hS hS6 hS7 ho6 ho7 r1 hf htk ha1 hb1 qw6 i0 c05 d1 d2 d3 d4 d5 d6
  obtain ⟨aa, an, ac, rfl⟩ := (r2.ownI hfa).at.shape
  obtain ⟨ba', bn, bc, rfl⟩ := (r2.ownI hfb).at.shape
  replace r2 := Lib.hid r2
  replace hfa := Lib.hid hfa
  replace hfb := Lib.hid hfb
  replace qw5 := Lib.hid qw5
  replace cN5 := Lib.hid cN5
  go_wp2
  refine NoPanic.normal ?_
  go_wp2_with fail
  clear hup hup1
  go_loopw [12, 13, 64] (fun xa xb jv wr => ∃ (j : Nat) (f : Names) (va' vb' : Value), j ≤ L1 ∧ jv = .int .i64 j ∧ va' = xa ∧ vb' = xb ∧ Rows w5.heap.size wr f ∧ Below w5.heap.size w5 wr ∧ f (1, 0) = some (rowI va' (alongW K m (· / N) (ns.take (j + 1)))) ∧ f (2, 0) = some (rowI vb' (alongW K m (· % N) (ns.take (j + 1)))) ∧ (∀ i, i < j → StepFits K N T' (ns.getD i 0) (ns.getD (i + 1) 0))) (fun _ _ jv _ => L1 - (intOf jv).toNat)
  case atStart => exact ⟨0, f, _, _, by omega, rfl, rfl, rfl, r2.out, b57, hfa.out, hfb.out, fun i hi => by omega⟩
  case round =>
    clear hfa hfb r2 b57 b56 b6 b7
    obtain ⟨j, f2, av, bv, hj, rfl, rfl, rfl, hr, bI, hfa, hfb, hfit⟩ := hrel
    obtain ⟨wo, rfl⟩ : ∃ wo : World, wo = wr := ⟨_, rfl⟩
    have b0o := b05.trans (bI.mono b05.size)
    by_cases hjl : j < L1
    · obtain ⟨p, hp⟩ : ∃ p, ns.getD (j + 1) 0 = p := ⟨_, rfl⟩
      obtain ⟨pj, hpj⟩ : ∃ p, ns.getD j 0 = p := ⟨_, rfl⟩
      have hll := hL1.out
      have hjl2 := Lib.hid hjl
      have hpl : p < N * N := by rw [← hp]; exact hlow2.out (j + 1) (by omega)
      have hpjl : pj < N * N := by rw [← hpj]; exact hlow2.out j (by omega)
      have iJ := fun w' => iP.out j (by omega) w'
      have cJ := cP2.out j (by omega)
      have iI := fun w' => iU.out j (by omega) w'
      have cI := cU2.out j (by omega)
      rw [hp] at cJ
      rw [hpj] at cI
      have cJo := (b0o.cell (World.block_lt_of_cell? _ _ cJ)).trans cJ
      have cIo := (b0o.cell (World.block_lt_of_cell? _ _ cI)).trans cI
      have htk : ns.take (j + 1 + 1) = ns.take (j + 1) ++ [p] := by
        rw [List.take_add_one, List.getElem?_eq_getElem (show j + 1 < ns.length by omega)]
        have : ns[j + 1]'(by omega) = p := by rw [← hp]; simp [List.getD, show j + 1 < ns.length by omega]
        rw [this]; rfl
      have htn : ns.take (j + 1) ≠ [] := by
        intro e
        have := congrArg List.length e
        rw [List.length_take, List.length_nil] at this; omega
      have haS := alongW_snoc K m (· / N) (ns.take (j + 1)) p htn
      have hbS := alongW_snoc K m (· % N) (ns.take (j + 1)) p htn
      rw [← htk] at haS hbS
      obtain ⟨d1, d2, d3, d4, d5, d6⟩ := dm p N (by omega)
      obtain ⟨u1, hu1⟩ : ∃ z, p / N = z := ⟨_, rfl⟩
      obtain ⟨v1, hv1⟩ : ∃ z, p % N = z := ⟨_, rfl⟩
      rw [hu1] at d1 d3 d5 haS
      rw [hv1] at d2 d4 d6 hbS
      have hu1l : u1 < N := by rw [← hu1]; exact div_lt_of hpl
      have hv1l : v1 < N := by rw [← hv1]; exact Nat.mod_lt _ (by omega)
      obtain ⟨g1, g2, g3, g4, g5, g6⟩ := dm pj N (by omega)
      obtain ⟨uj, huj⟩ : ∃ z, pj / N = z := ⟨_, rfl⟩
      obtain ⟨vj, hvj⟩ : ∃ z, pj % N = z := ⟨_, rfl⟩
      rw [huj] at g1 g3 g5
      rw [hvj] at g2 g4 g6
      have hujl : uj < N := by rw [← huj]; exact div_lt_of hpjl
      have hvjl : vj < N := by rw [← hvj]; exact Nat.mod_lt _ (by omega)
      obtain ⟨_, x2, _, x4, _, x6⟩ := dm u1 K (by omega)
      obtain ⟨_, z2, _, z4, _, z6⟩ := dm v1 K (by omega)
      obtain ⟨s, hs⟩ : ∃ z, u1 % K = z := ⟨_, rfl⟩
      obtain ⟨t, ht⟩ : ∃ z, v1 % K = z := ⟨_, rfl⟩
      rw [hs] at x2 x4 x6 haS
      rw [ht] at z2 z4 z6 hbS
      have hsl : s < K := by rw [← hs]; exact Nat.mod_lt _ (by omega)
      have htl : t < K := by rw [← ht]; exact Nat.mod_lt _ (by omega)
      have hstep : StepFits K N T' pj p ↔ toN K N uj s = u1 ∧ toN K N vj t = v1 ∧ labN K T' uj s = labN K T' vj t := by
        unfold StepFits; rw [hu1, hv1, huj, hvj, hs, ht]
      have qwo := qw5.out.below bI
      have cNo := cell_keep bI cN5.out
      clear cJ cI
      generalize valAt (.slice pa pn pc) j = tj at *
      generalize valAt (.slice ua un uc) j = ti at *
      have hoa := hr.ownI hfa
      have hob := hr.ownI hfb
      have hm6 : m ≤ 6 := by have := hm.out; omega
      have hLa : (alongW K m (· / N) (ns.take (j + 1))).length ≤ 17592186044100 := by rw [alongW_len, List.length_take]; omega
      have hLb : (alongW K m (· % N) (ns.take (j + 1))).length ≤ 17592186044100 := by rw [alongW_len, List.length_take]; omega
      replace hp := Lib.hid hp
      replace hpj := Lib.hid hpj
      replace hll := Lib.hid hll
      replace htk := Lib.hid htk
      replace htn := Lib.hid htn
      replace haS := Lib.hid haS
      replace hbS := Lib.hid hbS
      replace hu1 := Lib.hid hu1
      replace hv1 := Lib.hid hv1
      replace huj := Lib.hid huj
      replace hvj := Lib.hid hvj
      replace hs := Lib.hid hs
      replace ht := Lib.hid ht
      replace hstep := Lib.hid hstep
      replace hfit := Lib.hid hfit
      replace hr := Lib.hid hr
      replace hfa := Lib.hid hfa
      replace hfb := Lib.hid hfb
      replace hoa := Lib.hid hoa
      replace hob := Lib.hid hob
      go_upto_region 12 with fail
      refine wp_region_plan (fun w' => w'.cell? ⟨w1.heap.size, 0, none⟩ = some (.int .i64 K) ∧ w'.cell? ⟨w3.heap.size, 0, none⟩ = some (.int .i64 N)) 13 [(0, true), (1, true), (2, true), (3, true), (4, true), (5, true), (6, true), (7, true), (8, true), (9, true), (10, true), (11, true), (12, true)] (by kernel_rfl) (by kernel_rfl) ?_
      have hS : wo.drew.cell? ⟨w1.heap.size, 0, none⟩ = some (.int .i64 K) ∧ wo.drew.cell? ⟨w3.heap.size, 0, none⟩ = some (.int .i64 N) := ⟨qwo.1.1, cNo⟩
      refine headY (v := ?_) (some 69) rfl rfl (Or.inl ⟨by rfl, ?_⟩) hS ?_
      rotate_left
      · rintro W' ⟨s0, s1⟩; go_simp; try with_reducible rfl
      simp only [Act.put, List.setIfInBounds_toArray, List.set_cons_zero, List.set_cons_succ]
      refine headY (v := ?_) (some 70) rfl rfl (Or.inl ⟨by rfl, ?_⟩) hS ?_
      rotate_left
      · rintro W' ⟨s0, s1⟩; go_simp; try with_reducible rfl
      simp only [Act.put, List.setIfInBounds_toArray, List.set_cons_zero, List.set_cons_succ]
      refine headY (v := ?_) (some 71) rfl rfl (Or.inl ⟨by rfl, ?_⟩) hS ?_
      rotate_left
      · rintro W' ⟨s0, s1⟩; go_simp; try with_reducible rfl
      simp only [Act.put, List.setIfInBounds_toArray, List.set_cons_zero, List.set_cons_succ]
      refine headY (v := ?_) (some 72) rfl rfl (Or.inl ⟨by rfl, ?_⟩) hS ?_
      rotate_left
      · rintro W' ⟨s0, s1⟩; go_simp; try with_reducible rfl
      simp only [Act.put, List.setIfInBounds_toArray, List.set_cons_zero, List.set_cons_succ]
      refine headY (v := ?_) (some 73) rfl rfl (Or.inl ⟨by rfl, ?_⟩) hS ?_
      rotate_left
      · rintro W' ⟨s0, s1⟩; go_simp; try with_reducible rfl
      simp only [Act.put, List.setIfInBounds_toArray, List.set_cons_zero, List.set_cons_succ]
      refine headY (v := ?_) (some 74) rfl rfl (Or.inl ⟨by rfl, ?_⟩) hS ?_
      rotate_left
      · rintro W' ⟨s0, s1⟩; go_simp; try with_reducible rfl
      simp only [Act.put, List.setIfInBounds_toArray, List.set_cons_zero, List.set_cons_succ]
      refine headY (v := ?_) (some 75) rfl rfl (Or.inl ⟨by rfl, ?_⟩) hS ?_
      rotate_left
      · rintro W' ⟨s0, s1⟩; go_simp; try with_reducible rfl
      simp only [Act.put, List.setIfInBounds_toArray, List.set_cons_zero, List.set_cons_succ]
      refine headY (v := ?_) (some 76) rfl rfl (Or.inl ⟨by rfl, ?_⟩) hS ?_
      rotate_left
      · rintro W' ⟨s0, s1⟩; go_simp; try with_reducible rfl
      simp only [Act.put, List.setIfInBounds_toArray, List.set_cons_zero, List.set_cons_succ]
      refine headY (v := ?_) (some 77) rfl rfl (Or.inl ⟨by rfl, ?_⟩) hS ?_
      rotate_left
      · rintro W' ⟨s0, s1⟩; go_simp; try with_reducible rfl
      simp only [Act.put, List.setIfInBounds_toArray, List.set_cons_zero, List.set_cons_succ]
      refine headY (v := ?_) (some 78) rfl rfl (Or.inl ⟨by rfl, ?_⟩) hS ?_
      rotate_left
      · rintro W' ⟨s0, s1⟩; go_simp; try with_reducible rfl
      simp only [Act.put, List.setIfInBounds_toArray, List.set_cons_zero, List.set_cons_succ]
      refine headY (v := ?_) (some 79) rfl rfl (Or.inl ⟨by rfl, ?_⟩) hS ?_
      rotate_left
      · rintro W' ⟨s0, s1⟩; go_simp; try with_reducible rfl
      simp only [Act.put, List.setIfInBounds_toArray, List.set_cons_zero, List.set_cons_succ]
      refine headY (v := ?_) (some 80) rfl rfl (Or.inl ⟨by rfl, ?_⟩) hS ?_
      rotate_left
      · rintro W' ⟨s0, s1⟩; go_simp; try with_reducible rfl
      simp only [Act.put, List.setIfInBounds_toArray, List.set_cons_zero, List.set_cons_succ]
      refine headY (v := ?_) (some 16) rfl rfl (Or.inl ⟨by rfl, ?_⟩) hS ?_
      rotate_left
      · rintro W' ⟨s0, s1⟩; go_simp; try with_reducible rfl
      simp only [Act.put, List.setIfInBounds_toArray, List.set_cons_zero, List.set_cons_succ]
      refine head0 ?_
      simp only [List.drop_succ_cons, List.drop_zero]
      clear hS
      go_wp2
      refine NoPanic.normal ?_
      go_upto_region 13 with fail
      refine wp_region_plan (fun w' => w'.cell? ⟨w1.heap.size, 0, none⟩ = some (.int .i64 K) ∧ w'.cell? ⟨w1.heap.size, 1, none⟩ = some (.int .i64 R') ∧ w'.cell? ⟨w1.heap.size, 2, none⟩ = some (.slice a n c) ∧ w'.cell? ⟨w3.heap.size, 0, none⟩ = some (.int .i64 N) ∧ w'.cell? ti = some (.int .i64 pj)) 15 [(0, true), (1, true), (2, true), (3, true), (4, true), (5, true), (6, true), (7, true), (8, false), (9, true), (10, true), (11, true), (12, true), (13, true), (14, true)] (by kernel_rfl) (by kernel_rfl) ?_
      have hS : wo.drew.drew.cell? ⟨w1.heap.size, 0, none⟩ = some (.int .i64 K) ∧ wo.drew.drew.cell? ⟨w1.heap.size, 1, none⟩ = some (.int .i64 R') ∧ wo.drew.drew.cell? ⟨w1.heap.size, 2, none⟩ = some (.slice a n c) ∧ wo.drew.drew.cell? ⟨w3.heap.size, 0, none⟩ = some (.int .i64 N) ∧ wo.drew.drew.cell? ti = some (.int .i64 pj) := ⟨qwo.1.1, qwo.1.2.1, qwo.1.2.2, cNo, cIo⟩
      refine headY (v := ?_) (some 82) rfl rfl (Or.inl ⟨by rfl, ?_⟩) hS ?_
      rotate_left
      · rintro W' ⟨s0, s1, s2, s3, s4⟩; go_simp; try with_reducible rfl
      simp only [Act.put, List.setIfInBounds_toArray, List.set_cons_zero, List.set_cons_succ]
      refine headY (v := ?_) (some 83) rfl rfl (Or.inl ⟨by rfl, ?_⟩) hS ?_
      rotate_left
      · rintro W' ⟨s0, s1, s2, s3, s4⟩; go_simp; try with_reducible rfl
      simp only [Act.put, List.setIfInBounds_toArray, List.set_cons_zero, List.set_cons_succ]
      refine headY (v := ?_) (some 84) rfl rfl (Or.inl ⟨by rfl, ?_⟩) hS ?_
      rotate_left
      · rintro W' ⟨s0, s1, s2, s3, s4⟩; go_simp; try with_reducible rfl
      simp only [Act.put, List.setIfInBounds_toArray, List.set_cons_zero, List.set_cons_succ]
      refine headY (v := ?_) (some 85) rfl rfl (Or.inl ⟨by rfl, ?_⟩) hS ?_
      rotate_left
      · rintro W' ⟨s0, s1, s2, s3, s4⟩; go_simp; try with_reducible rfl
      simp only [Act.put, List.setIfInBounds_toArray, List.set_cons_zero, List.set_cons_succ]
      refine headY (v := ?_) (some 86) rfl rfl (Or.inl ⟨by rfl, ?_⟩) hS ?_
      rotate_left
      · rintro W' ⟨s0, s1, s2, s3, s4⟩; go_simp; try with_reducible rfl
      simp only [Act.put, List.setIfInBounds_toArray, List.set_cons_zero, List.set_cons_succ]
      refine headY (v := ?_) (some 87) rfl rfl (Or.inl ⟨by rfl, ?_⟩) hS ?_
      rotate_left
      · rintro W' ⟨s0, s1, s2, s3, s4⟩; go_simp; try with_reducible rfl
      simp only [Act.put, List.setIfInBounds_toArray, List.set_cons_zero, List.set_cons_succ]
      refine headY (v := ?_) (some 88) rfl rfl (Or.inl ⟨by rfl, ?_⟩) hS ?_
      rotate_left
      · rintro W' ⟨s0, s1, s2, s3, s4⟩; go_simp; try with_reducible rfl
      simp only [Act.put, List.setIfInBounds_toArray, List.set_cons_zero, List.set_cons_succ]
      refine headY (v := ?_) (some 89) rfl rfl (Or.inl ⟨by rfl, ?_⟩) hS ?_
      rotate_left
      · rintro W' ⟨s0, s1, s2, s3, s4⟩; go_simp; try with_reducible rfl
      simp only [Act.put, List.setIfInBounds_toArray, List.set_cons_zero, List.set_cons_succ]
      refine headC rfl (fun KK hK => ?_)
      go_simp
      refine (hEdge.out a n c uj s wo.drew.drew (hg5.out.below bI.drew.drew) (hT5.out.below bI.drew.drew) hujl hsl).mono ?_
      rintro e w6 ⟨x, y, z, rfl, b6, rfl, rfl, rfl⟩
      obtain ⟨X1, hX1⟩ : ∃ X, toN K N uj s = X := ⟨_, rfl⟩
      obtain ⟨O1, hO1⟩ : ∃ X, labN K T' uj s = X := ⟨_, rfl⟩
      rw [hX1, hO1]
      have bo6 : Below wo.heap.size wo w6 := Below.trans ((Below.refl _ _).drew.drew) b6
      have hS6 : w6.cell? ⟨w1.heap.size, 0, none⟩ = some (.int .i64 K) ∧ w6.cell? ⟨w1.heap.size, 1, none⟩ = some (.int .i64 R') ∧ w6.cell? ⟨w1.heap.size, 2, none⟩ = some (.slice a n c) ∧ w6.cell? ⟨w3.heap.size, 0, none⟩ = some (.int .i64 N) ∧ w6.cell? ti = some (.int .i64 pj) := ⟨cell_keep b6 hS.1, cell_keep b6 hS.2.1, cell_keep b6 hS.2.2.1, cell_keep b6 hS.2.2.2.1, (b6.cell (World.block_lt_of_cell? _ _ hS.2.2.2.2)).trans hS.2.2.2.2⟩
      refine hK _ _ hS6 ?_
      clear hK KK
      refine headY (v := ?_) (some 81) rfl rfl (Or.inl ⟨by rfl, ?_⟩) hS6 ?_
      rotate_left
      · rintro W' ⟨s0, s1, s2, s3, s4⟩; go_simp; try with_reducible rfl
      simp only [Act.put, List.setIfInBounds_toArray, List.set_cons_zero, List.set_cons_succ]
      refine headY (v := ?_) (some 91) rfl rfl (Or.inl ⟨by rfl, ?_⟩) hS6 ?_
      rotate_left
      · rintro W' ⟨s0, s1, s2, s3, s4⟩; go_simp; try with_reducible rfl
      simp only [Act.put, List.setIfInBounds_toArray, List.set_cons_zero, List.set_cons_succ]
      refine headY (v := ?_) (some 92) rfl rfl (Or.inl ⟨by rfl, ?_⟩) hS6 ?_
      rotate_left
      · rintro W' ⟨s0, s1, s2, s3, s4⟩; go_simp; try with_reducible rfl
      simp only [Act.put, List.setIfInBounds_toArray, List.set_cons_zero, List.set_cons_succ]
      refine headY (v := ?_) (some 93) rfl rfl (Or.inl ⟨by rfl, ?_⟩) hS6 ?_
      rotate_left
      · rintro W' ⟨s0, s1, s2, s3, s4⟩; go_simp; try with_reducible rfl
      simp only [Act.put, List.setIfInBounds_toArray, List.set_cons_zero, List.set_cons_succ]
      refine headY (v := ?_) (some 18) rfl rfl (Or.inl ⟨by rfl, ?_⟩) hS6 ?_
      rotate_left
      · rintro W' ⟨s0, s1, s2, s3, s4⟩; go_simp; try with_reducible rfl
      simp only [Act.put, List.setIfInBounds_toArray, List.set_cons_zero, List.set_cons_succ]
      refine headY (v := ?_) (some 19) rfl rfl (Or.inl ⟨by rfl, ?_⟩) hS6 ?_
      rotate_left
      · rintro W' ⟨s0, s1, s2, s3, s4⟩; go_simp; try with_reducible rfl
      simp only [Act.put, List.setIfInBounds_toArray, List.set_cons_zero, List.set_cons_succ]
      refine head0 ?_
      simp only [List.drop_succ_cons, List.drop_zero]
      have bI6 := bI.trans (bo6.mono bI.size)
      have hS6' := Lib.hid hS6
      clear hS hS6
      go_wp2
      refine NoPanic.normal ?_
      go_upto_region 14 with fail
      refine wp_region_plan (fun w' => w'.cell? ⟨w1.heap.size, 0, none⟩ = some (.int .i64 K) ∧ w'.cell? ⟨w1.heap.size, 1, none⟩ = some (.int .i64 R') ∧ w'.cell? ⟨w1.heap.size, 2, none⟩ = some (.slice a n c) ∧ w'.cell? ⟨w3.heap.size, 0, none⟩ = some (.int .i64 N) ∧ w'.cell? ti = some (.int .i64 pj)) 15 [(0, true), (1, true), (2, true), (3, true), (4, true), (5, true), (6, true), (7, true), (8, false), (9, true), (10, true), (11, true), (12, true), (13, true), (14, true)] (by kernel_rfl) (by kernel_rfl) ?_
      have hS : w6.drew.cell? ⟨w1.heap.size, 0, none⟩ = some (.int .i64 K) ∧ w6.drew.cell? ⟨w1.heap.size, 1, none⟩ = some (.int .i64 R') ∧ w6.drew.cell? ⟨w1.heap.size, 2, none⟩ = some (.slice a n c) ∧ w6.drew.cell? ⟨w3.heap.size, 0, none⟩ = some (.int .i64 N) ∧ w6.drew.cell? ti = some (.int .i64 pj) := hS6'.out
      refine headY (v := ?_) (some 95) rfl rfl (Or.inl ⟨by rfl, ?_⟩) hS ?_
      rotate_left
      · rintro W' ⟨s0, s1, s2, s3, s4⟩; go_simp; try with_reducible rfl
      simp only [Act.put, List.setIfInBounds_toArray, List.set_cons_zero, List.set_cons_succ]
      refine headY (v := ?_) (some 96) rfl rfl (Or.inl ⟨by rfl, ?_⟩) hS ?_
      rotate_left
      · rintro W' ⟨s0, s1, s2, s3, s4⟩; go_simp; try with_reducible rfl
      simp only [Act.put, List.setIfInBounds_toArray, List.set_cons_zero, List.set_cons_succ]
      refine headY (v := ?_) (some 97) rfl rfl (Or.inl ⟨by rfl, ?_⟩) hS ?_
      rotate_left
      · rintro W' ⟨s0, s1, s2, s3, s4⟩; go_simp; try with_reducible rfl
      simp only [Act.put, List.setIfInBounds_toArray, List.set_cons_zero, List.set_cons_succ]
      refine headY (v := ?_) (some 98) rfl rfl (Or.inl ⟨by rfl, ?_⟩) hS ?_
      rotate_left
      · rintro W' ⟨s0, s1, s2, s3, s4⟩; go_simp; try with_reducible rfl
      simp only [Act.put, List.setIfInBounds_toArray, List.set_cons_zero, List.set_cons_succ]
      refine headY (v := ?_) (some 99) rfl rfl (Or.inl ⟨by rfl, ?_⟩) hS ?_
      rotate_left
      · rintro W' ⟨s0, s1, s2, s3, s4⟩; go_simp; try with_reducible rfl
      simp only [Act.put, List.setIfInBounds_toArray, List.set_cons_zero, List.set_cons_succ]
      refine headY (v := ?_) (some 100) rfl rfl (Or.inl ⟨by rfl, ?_⟩) hS ?_
      rotate_left
      · rintro W' ⟨s0, s1, s2, s3, s4⟩; go_simp; try with_reducible rfl
      simp only [Act.put, List.setIfInBounds_toArray, List.set_cons_zero, List.set_cons_succ]
      refine headY (v := ?_) (some 101) rfl rfl (Or.inl ⟨by rfl, ?_⟩) hS ?_
      rotate_left
      · rintro W' ⟨s0, s1, s2, s3, s4⟩; go_simp; try with_reducible rfl
      simp only [Act.put, List.setIfInBounds_toArray, List.set_cons_zero, List.set_cons_succ]
      refine headY (v := ?_) (some 102) rfl rfl (Or.inl ⟨by rfl, ?_⟩) hS ?_
      rotate_left
      · rintro W' ⟨s0, s1, s2, s3, s4⟩; go_simp; try with_reducible rfl
      simp only [Act.put, List.setIfInBounds_toArray, List.set_cons_zero, List.set_cons_succ]
      refine headC rfl (fun KK hK => ?_)
      go_simp
      refine (hEdge.out a n c vj t w6.drew (hg5.out.below bI6.drew) (hT5.out.below bI6.drew) hvjl htl).mono ?_
      rintro e w7 ⟨x, y, z, rfl, b7, rfl, rfl, rfl⟩
      obtain ⟨X2, hX2⟩ : ∃ X, toN K N vj t = X := ⟨_, rfl⟩
      obtain ⟨O2, hO2⟩ : ∃ X, labN K T' vj t = X := ⟨_, rfl⟩
      rw [hX2, hO2]
      have b67 : Below w6.heap.size w6 w7 := Below.trans ((Below.refl _ _).drew) b7
      have bo7 := Below.step bo6 b67
      have bI7 := bI.trans (bo7.mono bI.size)
      have hS7 : w7.cell? ⟨w1.heap.size, 0, none⟩ = some (.int .i64 K) ∧ w7.cell? ⟨w1.heap.size, 1, none⟩ = some (.int .i64 R') ∧ w7.cell? ⟨w1.heap.size, 2, none⟩ = some (.slice a n c) ∧ w7.cell? ⟨w3.heap.size, 0, none⟩ = some (.int .i64 N) ∧ w7.cell? ti = some (.int .i64 pj) := ⟨cell_keep b7 hS.1, cell_keep b7 hS.2.1, cell_keep b7 hS.2.2.1, cell_keep b7 hS.2.2.2.1, (b7.cell (World.block_lt_of_cell? _ _ hS.2.2.2.2)).trans hS.2.2.2.2⟩
      refine hK _ _ hS7 ?_
      clear hK KK
      refine headY (v := ?_) (some 94) rfl rfl (Or.inl ⟨by rfl, ?_⟩) hS7 ?_
      rotate_left
      · rintro W' ⟨s0, s1, s2, s3, s4⟩; go_simp; try with_reducible rfl
      simp only [Act.put, List.setIfInBounds_toArray, List.set_cons_zero, List.set_cons_succ]
      refine headY (v := ?_) (some 104) rfl rfl (Or.inl ⟨by rfl, ?_⟩) hS7 ?_
      rotate_left
      · rintro W' ⟨s0, s1, s2, s3, s4⟩; go_simp; try with_reducible rfl
      simp only [Act.put, List.setIfInBounds_toArray, List.set_cons_zero, List.set_cons_succ]
      refine headY (v := ?_) (some 105) rfl rfl (Or.inl ⟨by rfl, ?_⟩) hS7 ?_
      rotate_left
      · rintro W' ⟨s0, s1, s2, s3, s4⟩; go_simp; try with_reducible rfl
      simp only [Act.put, List.setIfInBounds_toArray, List.set_cons_zero, List.set_cons_succ]
      refine headY (v := ?_) (some 106) rfl rfl (Or.inl ⟨by rfl, ?_⟩) hS7 ?_
      rotate_left
      · rintro W' ⟨s0, s1, s2, s3, s4⟩; go_simp; try with_reducible rfl
      simp only [Act.put, List.setIfInBounds_toArray, List.set_cons_zero, List.set_cons_succ]
      refine headY (v := ?_) (some 21) rfl rfl (Or.inl ⟨by rfl, ?_⟩) hS7 ?_
      rotate_left
      · rintro W' ⟨s0, s1, s2, s3, s4⟩; go_simp; try with_reducible rfl
      simp only [Act.put, List.setIfInBounds_toArray, List.set_cons_zero, List.set_cons_succ]
      refine headY (v := ?_) (some 22) rfl rfl (Or.inl ⟨by rfl, ?_⟩) hS7 ?_
      rotate_left
      · rintro W' ⟨s0, s1, s2, s3, s4⟩; go_simp; try with_reducible rfl
      simp only [Act.put, List.setIfInBounds_toArray, List.set_cons_zero, List.set_cons_succ]
      refine head0 ?_
      simp only [List.drop_succ_cons, List.drop_zero]
      obtain ⟨k0, k1, k2, k3, k4⟩ := hS7
      clear hS hS6' cIo cJo k0 k1 k2 k4 cNo
      rw [hX1, hO1, hX2, hO2] at hstep
      replace hX1 := Lib.hid hX1
      replace hX2 := Lib.hid hX2
      replace hO1 := Lib.hid hO1
      replace hO2 := Lib.hid hO2
      go_wp2
      refine NoPanic.normal ?_
      by_cases e1 : X1 = u1
      · have q1 : ((X1 : Int) != (u1 : Int)) = false := by rw [bne_eq_false_iff_eq]; omega
        by_cases e2 : X2 = v1
        · have q2 : ((X2 : Int) != (v1 : Int)) = false := by rw [bne_eq_false_iff_eq]; omega
          by_cases e3 : O1 = O2
          · have q3 : (O1 != O2) = false := by rw [bne_eq_false_iff_eq]; exact e3
            have hnow := hstep.out.2 ⟨e1, e2, e3⟩
            have hr7 := hr.out.below bo7
            have hoa7 := hoa.out.below bo7
            have hB7 := bI7.size
            replace e1 := Lib.hid e1
            replace e2 := Lib.hid e2
            replace e3 := Lib.hid e3
            replace hr7 := Lib.hid hr7
            go_wp2_with (at_builtin; go_loud (refine wpl_append1 rfl _ _ rfl w5.heap.size av _ s hoa7 rfl rfl (by omega) hB7 ?_))
            intro av2 w8 ho8 b8 hgr8 hal8
            have hr8 := hr7.out.push hfa.out (s : Int) ho8 hgr8 hal8
            have hfb8 : upd f2 (1, 0) (some (rowI av2 (alongW K m (· / N) (ns.take (j + 1)) ++ [(s : Int)]))) (2, 0) = some (rowI bv (alongW K m (· % N) (ns.take (j + 1)))) := by rw [upd_ne _ _ (by simp)]; exact hfb.out
            have hob8 := hr8.ownI hfb8
            have hB8 : w5.heap.size ≤ w8.heap.size := Nat.le_trans hB7 b8.size
            obtain ⟨a2a, a2n, a2c, rfl⟩ := ho8.at.shape
            replace hr8 := Lib.hid hr8
            replace ho8 := Lib.hid ho8
            clear hgr8 hal8 hoa7
            go_wp2_with (at_builtin; go_loud (refine wpl_append1 rfl _ _ rfl w5.heap.size bv _ t hob8 rfl rfl (by omega) hB8 ?_))
            intro bv2 w9 ho9 b9 hgr9 hal9
            have hr9 := hr8.out.push hfb8 (t : Int) ho9 hgr9 hal9
            obtain ⟨b2a, b2n, b2c, rfl⟩ := ho9.at.shape
            replace hr9 := Lib.hid hr9
            replace ho9 := Lib.hid ho9
            replace hfb8 := Lib.hid hfb8
            clear hgr9 hal9 hob8
            go_wp2
            go_roundw
            case measure => have := hjl2.out; simp [intOf]; omega
            case rel =>
              refine ⟨j + 1, _, _, _, by have := hjl2.out; omega, by go_num, rfl, rfl, hr9.out, bI7.trans (b8.trans b9), ?_, ?_, fun i hi => ?_⟩
              · rw [upd_ne _ _ (by simp), upd_same, haS.out]
              · rw [upd_same, hbS.out]
              · by_cases e : i = j
                · subst e; rw [hpj.out, hp.out]; exact hnow
                · exact hfit.out i (by omega)
          · have q3 : (O1 != O2) = true := by rw [bne_iff_ne]; exact e3
            have hnow : ¬ AllFit K N T' ns := fun hA => by
              have := hA j (by have := hll.out; have := hjl2.out; omega)
              rw [hpj.out, hp.out, hstep.out] at this
              exact e3 this.2.2
            replace hnow := Lib.hid hnow
            go_wp2_with fail
            refine (pairs_wrong r _ _ w7 (hg5.out.below bI7) (by decide) (by decide)).mono ?_
            rintro e w8 ⟨x, rfl, b8, he⟩
            replace he := Lib.hid he
            have bE := Below.step (b05.trans (bI7.mono b05.size)) b8
            go_wp2
            go_ret3
            exact ⟨_, _, _, rfl, bE, .inr ⟨hnow.out, rfl, rfl, he.out⟩⟩
        · have q2 : ((X2 : Int) != (v1 : Int)) = true := by rw [bne_iff_ne]; omega
          have hnow : ¬ AllFit K N T' ns := fun hA => by
            have := hA j (by have := hll.out; have := hjl2.out; omega)
            rw [hpj.out, hp.out, hstep.out] at this
            exact e2 this.2.1
          replace hnow := Lib.hid hnow
          go_wp2_with fail
          refine (pairs_wrong r _ _ w7 (hg5.out.below bI7) (by decide) (by decide)).mono ?_
          rintro e w8 ⟨x, rfl, b8, he⟩
          replace he := Lib.hid he
          have bE := Below.step (b05.trans (bI7.mono b05.size)) b8
          go_wp2
          go_ret3
          exact ⟨_, _, _, rfl, bE, .inr ⟨hnow.out, rfl, rfl, he.out⟩⟩
      · have q1 : ((X1 : Int) != (u1 : Int)) = true := by rw [bne_iff_ne]; omega
        have hnow : ¬ AllFit K N T' ns := fun hA => by
          have := hA j (by have := hll.out; have := hjl2.out; omega)
          rw [hpj.out, hp.out, hstep.out] at this
          exact e1 this.1
        replace hnow := Lib.hid hnow
        go_wp2_with fail
        refine (pairs_wrong r _ _ w7 (hg5.out.below bI7) (by decide) (by decide)).mono ?_
        rintro e w8 ⟨x, rfl, b8, he⟩
        replace he := Lib.hid he
        have bE := Below.step (b05.trans (bI7.mono b05.size)) b8
        go_wp2
        go_ret3
        exact ⟨_, _, _, rfl, bE, .inr ⟨hnow.out, rfl, rfl, he.out⟩⟩
    · obtain rfl : j = L1 := by omega
      have hall : ns.take (j + 1) = ns := List.take_of_length_le (by have := hL1.out; omega)
      rw [hall] at hfa hfb
      have hoa := hr.ownI hfa
      have hob := hr.ownI hfb
      have hdis := hr.2 (1, 0) (2, 0) _ _ hfa hfb (by simp)
      have hAll : AllFit K N T' ns := fun i hi => hfit i (by have := hL1.out; omega)
      have hoa' := hoa.mono (B' := w.heap.size) b05.size
      have hob' := hob.mono (B' := w.heap.size) b05.size
      obtain ⟨a2a, a2n, a2c, rfl⟩ := hoa.at.shape
      obtain ⟨b2a, b2n, b2c, rfl⟩ := hob.at.shape
      replace hr := Lib.hid hr
      replace hfa := Lib.hid hfa
      replace hfb := Lib.hid hfb
      replace hoa := Lib.hid hoa
      replace hob := Lib.hid hob
      replace hoa' := Lib.hid hoa'
      replace hob' := Lib.hid hob'
      replace hdis := Lib.hid hdis
      replace hAll := Lib.hid hAll
      replace hfit := Lib.hid hfit
      go_wp2
      go_ret3
      exact ⟨_, _, _, rfl, b0o, .inl ⟨hAll.out, rfl, hoa'.out, hob'.out, hdis.out⟩⟩
end Go.Proofs.YtmhiambkfdkkbaaGreatDoor

namespace Go.Proofs.YtmhiambkfdkkbaaGreatDoor
open Go.RowKit
set_option maxRecDepth 100000

/-- No vertex of G. -/
def outG (G : List (List Int)) (a : Int) : Prop := a < 0 ∨ (G.length : Int) ≤ a
instance (G : List (List Int)) (a : Int) : Decidable (outG G a) := by unfold outG; infer_instance
/-- What Path tells of its arguments. -/
def pathE (G : List (List Int)) (a b : Int) : PErr :=
  match checkG G with
  | some t => some t
  | none => if outG G a then fresh sGraph 1 3 else if outG G b then fresh sGraph 2 3 else none
theorem pathE_none {G : List (List Int)} {a b : Int} (h : pathE G a b = none) : checkG G = none ∧ ∃ x y : Nat, a = x ∧ b = y ∧ x < G.length ∧ y < G.length := by
  unfold pathE at h
  cases hc : checkG G with
  | some t => rw [hc] at h; cases h
  | none =>
    rw [hc] at h
    dsimp only at h
    by_cases ha : outG G a
    · rw [if_pos ha] at h; cases h
    rw [if_neg ha] at h
    by_cases hb : outG G b
    · rw [if_pos hb] at h; cases h
    unfold outG at ha hb
    exact ⟨rfl, a.toNat, b.toNat, by omega, by omega, by omega, by omega⟩
theorem pathE_ok {G : List (List Int)} {x y : Nat} (hc : checkG G = none) (hx : x < G.length) (hy : y < G.length) : pathE G x y = none := by
  unfold pathE
  rw [hc]
  dsimp only
  rw [if_neg (by unfold outG; omega), if_neg (by unfold outG; omega)]
/-- What Path leaves. -/
def PathPost (r : Nat → Addr) (w : World) (G : List (List Int)) (a b : Int) (x y : Value) (w' : World) : Prop :=
  ErrIs r w' (pathE G a b) y ∧ (pathE G a b = none → FirstPost w (adjOf G) a.toNat b.toNat x w') ∧ (pathE G a b ≠ none → x = .slice none 0 0)
theorem FirstPost.step {w1 w2 w3 : World} {adj : Nat → List Nat} {a b : Nat} {x : Value} (h : FirstPost w2 adj a b x w3) (hs : w1.heap.size ≤ w2.heap.size) : FirstPost w1 adj a b x w3 := by
  rcases h with ⟨u, h1, h2⟩ | h
  · exact .inl ⟨u, h1, h2.mono hs⟩
  · exact .inr h
theorem FirstPost.shape {w w' : World} {adj : Nat → List Nat} {a b : Nat} {x : Value} (h : FirstPost w adj a b x w') : ∃ p n c, x = .slice p n c := by
  rcases h with ⟨u, _, h2⟩ | ⟨_, h⟩
  · exact h2.at.shape
  · exact ⟨_, _, _, h⟩

set_option maxHeartbeats 4000000 in
theorem path_any (r : Nat → Addr) (na : Option Addr) (nc : Nat) (G : List (List Int)) (a b : Int) (w : World) (hg : Glob r w) (h : ListsAt w (.slice na G.length nc) G) (hsz : ∀ k, k < G.length → (G.getD k []).length ≤ 17592186044416) :
    Calls Tryz.prog 122 #[.slice na G.length nc, .int .i64 a, .int .i64 b] w (Ret2 (PathPost r w G a b) w) := by
  have hC := graph_check r na nc G w hg h hsz
  cases hck : checkG G with
  | some t =>
    rw [hck] at hC
    have hp : pathE G a b = some t := by unfold pathE; rw [hck]
    replace hp := Lib.hid hp
    replace hck := Lib.hid hck
    replace h := Lib.hid h
    replace hg := Lib.hid hg
    replace hsz := Lib.hid hsz
    go_enter Tryz.func122, Tryz.ntmps122
    go_wp2_with fail
    refine hC.mono ?_
    rintro e w1 ⟨y, rfl, b1, he⟩
    obtain ⟨T, p, rfl⟩ := he.some_shape
    replace he := Lib.hid he
    go_wp2
    go_ret2
    exact ⟨_, _, rfl, b1, ⟨by rw [hp.out]; exact he.out, ⟨fun q => (by rw [hp.out] at q; cases q), fun _ => rfl⟩⟩⟩
  | none =>
    rw [hck] at hC
    obtain ⟨hn, harr, hok⟩ := checkG_none hck
    by_cases ha : outG G a
    · have hp : pathE G a b = fresh sGraph 1 3 := by unfold pathE; rw [hck]; dsimp only; rw [if_pos ha]
      replace hp := Lib.hid hp
      replace hck := Lib.hid hck
      replace h := Lib.hid h
      replace hg := Lib.hid hg
      replace hsz := Lib.hid hsz
      replace hok := Lib.hid hok
      rcases ha with ha | ha
      · go_enter Tryz.func122, Tryz.ntmps122
        go_wp2_with fail
        refine hC.mono ?_
        rintro e w1 ⟨y, rfl, b1, he⟩
        obtain rfl := he.none_eq
        clear he hC
        go_wp2_with fail
        refine (graph_wrong r _ _ _ (hg.out.below b1) (by decide) (by decide)).mono ?_
        rintro e w2 ⟨y, rfl, b2, he⟩
        replace he := Lib.hid he
        go_wp2
        go_ret2
        exact ⟨_, _, rfl, Below.step b1 b2, ⟨by rw [hp.out]; exact he.out, ⟨fun q => (by rw [hp.out] at q; cases q), fun _ => rfl⟩⟩⟩
      · have ha0 : ¬ a < 0 := by omega
        go_enter Tryz.func122, Tryz.ntmps122
        go_wp2_with fail
        refine hC.mono ?_
        rintro e w1 ⟨y, rfl, b1, he⟩
        obtain rfl := he.none_eq
        clear he hC
        go_wp2_with fail
        refine (graph_wrong r _ _ _ (hg.out.below b1) (by decide) (by decide)).mono ?_
        rintro e w2 ⟨y, rfl, b2, he⟩
        replace he := Lib.hid he
        go_wp2
        go_ret2
        exact ⟨_, _, rfl, Below.step b1 b2, ⟨by rw [hp.out]; exact he.out, ⟨fun q => (by rw [hp.out] at q; cases q), fun _ => rfl⟩⟩⟩
    · have ha1 : 0 ≤ a ∧ a < G.length := by unfold outG at ha; omega
      obtain ⟨ha1, ha2⟩ := ha1
      by_cases hb : outG G b
      · have hp : pathE G a b = fresh sGraph 2 3 := by unfold pathE; rw [hck]; dsimp only; rw [if_neg ha, if_pos hb]
        replace hp := Lib.hid hp
        replace hck := Lib.hid hck
        replace h := Lib.hid h
        replace hg := Lib.hid hg
        replace hsz := Lib.hid hsz
        replace hok := Lib.hid hok
        clear ha
        rcases hb with hb | hb
        · go_enter Tryz.func122, Tryz.ntmps122
          go_wp2_with fail
          refine hC.mono ?_
          rintro e w1 ⟨y, rfl, b1, he⟩
          obtain rfl := he.none_eq
          clear he hC
          go_wp2_with fail
          refine (graph_wrong r _ _ _ (hg.out.below b1) (by decide) (by decide)).mono ?_
          rintro e w2 ⟨y, rfl, b2, he⟩
          replace he := Lib.hid he
          go_wp2
          go_ret2
          exact ⟨_, _, rfl, Below.step b1 b2, ⟨by rw [hp.out]; exact he.out, ⟨fun q => (by rw [hp.out] at q; cases q), fun _ => rfl⟩⟩⟩
        · have hb0 : ¬ b < 0 := by omega
          go_enter Tryz.func122, Tryz.ntmps122
          go_wp2_with fail
          refine hC.mono ?_
          rintro e w1 ⟨y, rfl, b1, he⟩
          obtain rfl := he.none_eq
          clear he hC
          go_wp2_with fail
          refine (graph_wrong r _ _ _ (hg.out.below b1) (by decide) (by decide)).mono ?_
          rintro e w2 ⟨y, rfl, b2, he⟩
          replace he := Lib.hid he
          go_wp2
          go_ret2
          exact ⟨_, _, rfl, Below.step b1 b2, ⟨by rw [hp.out]; exact he.out, ⟨fun q => (by rw [hp.out] at q; cases q), fun _ => rfl⟩⟩⟩
      · have hb1 : 0 ≤ b ∧ b < G.length := by unfold outG at hb; omega
        obtain ⟨hb1, hb2⟩ := hb1
        have hp : pathE G a b = none := by unfold pathE; rw [hck]; dsimp only; rw [if_neg ha, if_neg hb]
        obtain ⟨x, rfl⟩ := Int.eq_ofNat_of_zero_le ha1
        obtain ⟨y, rfl⟩ := Int.eq_ofNat_of_zero_le hb1
        have hx : x < G.length := by omega
        have hy : y < G.length := by omega
        clear ha hb ha1 hb1 ha2 hb2
        replace hp := Lib.hid hp
        replace hck := Lib.hid hck
        replace h := Lib.hid h
        replace hg := Lib.hid hg
        replace hsz := Lib.hid hsz
        replace hok := Lib.hid hok
        go_enter Tryz.func122, Tryz.ntmps122
        go_wp2_with fail
        refine hC.mono ?_
        rintro e w1 ⟨y', rfl, b1, he⟩
        obtain rfl := he.none_eq
        clear he hC
        go_wp2_with fail
        refine (first_any na nc G x y _ (h.out.below b1) hok.out (by omega) hx hy hsz.out).mono ?_
        rintro e w2 ⟨z, rfl, b2, hz⟩
        obtain ⟨zp, zn, zc, rfl⟩ := hz.shape
        replace hz := Lib.hid hz
        go_wp2
        go_ret2
        exact ⟨_, _, rfl, Below.step b1 b2, ⟨by rw [hp.out]; rfl, ⟨fun _ => by rw [Int.toNat_natCast, Int.toNat_natCast]; exact hz.out.step b1.size, fun q => absurd hp.out q⟩⟩⟩
end Go.Proofs.YtmhiambkfdkkbaaGreatDoor

namespace Go.Proofs.YtmhiambkfdkkbaaGreatDoor
open Go.RowKit
set_option maxRecDepth 100000

/-- Arrows to v now lead to n. -/
def mapW (v n : Nat) (l : List Int) : List Int := l.map fun t => if t = (v : Int) then (n : Int) else t
theorem mapW_len (v n : Nat) (l : List Int) : (mapW v n l).length = l.length := by simp [mapW]
/-- The lists behind the first k. -/
def wideTo (G : List (List Int)) (v k : Nat) : Nat → List Int := fun u => if u < k then mapW v G.length (G.getD u []) else []
def wideG (G : List (List Int)) (v : Nat) : List (List Int) := rowsOf (G.length + 1) (wideTo G v G.length)
/-- Within a list: the first j. -/
def midW (v n : Nat) (l : List Int) (j : Nat) : List Int := mapW v n (l.take j) ++ l.drop j
theorem midW_zero (v n : Nat) (l : List Int) : midW v n l 0 = l := by simp [midW, mapW]
theorem midW_full (v n : Nat) (l : List Int) : midW v n l l.length = mapW v n l := by simp [midW]
theorem midW_len (v n : Nat) (l : List Int) (j : Nat) (hj : j ≤ l.length) : (midW v n l j).length = l.length := by simp [midW, mapW_len]; omega
theorem mapW_append (v n : Nat) (a b : List Int) : mapW v n (a ++ b) = mapW v n a ++ mapW v n b := by unfold mapW; exact List.map_append
theorem midW_next (v n : Nat) (l : List Int) (j : Nat) (hj : j < l.length) : midW v n l (j + 1) = mapW v n (l.take j) ++ (if l[j] = (v : Int) then (n : Int) else l[j]) :: l.drop (j + 1) := by
  unfold midW
  rw [take_snoc l j hj, mapW_append, List.append_assoc]
  rfl
theorem midW_now (v n : Nat) (l : List Int) (j : Nat) (hj : j < l.length) : midW v n l j = mapW v n (l.take j) ++ l[j] :: l.drop (j + 1) := by
  unfold midW
  rw [← List.drop_eq_getElem_cons hj]
theorem midW_step (v n : Nat) (l : List Int) (j : Nat) (hj : j < l.length) : midW v n l (j + 1) = (midW v n l j).set j (if l[j] = (v : Int) then (n : Int) else l[j]) := by
  have hl : (mapW v n (l.take j)).length = j := by rw [mapW_len, List.length_take]; omega
  rw [midW_next v n l j hj, midW_now v n l j hj, List.set_append_right _ _ (by omega), hl, Nat.sub_self, List.set_cons_zero]
theorem midW_same (v n : Nat) (l : List Int) (j : Nat) (hj : j < l.length) (he : l[j] ≠ (v : Int)) : midW v n l (j + 1) = midW v n l j := by
  rw [midW_next v n l j hj, midW_now v n l j hj, if_neg he]
theorem updN_updN {α : Type} (f : Nat → α) (k : Nat) (a b : α) : updN (updN f k a) k b = updN f k b := by
  funext x
  by_cases e : x = k
  · subst e; rw [updN_same, updN_same]
  · rw [updN_other _ _ _ e, updN_other _ _ _ e, updN_other _ _ _ e]
theorem wideTo_succ (G : List (List Int)) (v k : Nat) : updN (wideTo G v k) k (mapW v G.length (G.getD k [])) = wideTo G v (k + 1) := by
  funext u
  unfold wideTo
  by_cases e : u = k
  · subst e; rw [updN_same, if_pos (by omega)]
  · rw [updN_other _ _ _ e]
    by_cases q : u < k
    · rw [if_pos q, if_pos (by omega)]
    · rw [if_neg q, if_neg (by omega)]
theorem wideG_len (G : List (List Int)) (v : Nat) : (wideG G v).length = G.length + 1 := rowsOf_len _ _
theorem wideG_row (G : List (List Int)) (v u : Nat) (hu : u < G.length) : (wideG G v).getD u [] = mapW v G.length (G.getD u []) := by
  unfold wideG
  rw [rowsOf_get _ _ _ (by omega)]
  exact if_pos hu
theorem wideG_last (G : List (List Int)) (v : Nat) : (wideG G v).getD G.length [] = [] := by
  unfold wideG
  rw [rowsOf_get _ _ _ (by omega)]
  exact if_neg (by omega)
theorem wideG_ok {G : List (List Int)} (hok : GraphOk G) (v : Nat) : GraphOk (wideG G v) := by
  intro u hu t ht
  rw [wideG_len] at hu ⊢
  by_cases e : u < G.length
  · rw [wideG_row G v u e] at ht
    obtain ⟨x, hx, rfl⟩ := List.mem_map.1 ht
    have := hok u e x hx
    split <;> omega
  · obtain rfl : u = G.length := by omega
    rw [wideG_last] at ht; cases ht
theorem wide_adj {G : List (List Int)} (hok : GraphOk G) (v : Nat) {u : Nat} (hu : u < G.length) (t : Nat) : t ∈ adjOf (wideG G v) u ↔ (t ≠ v ∧ t ∈ adjOf G u ∧ t < G.length) ∨ (t = G.length ∧ v ∈ adjOf G u) := by
  unfold adjOf
  rw [wideG_row G v u hu]
  simp only [List.mem_map, mapW]
  constructor
  · rintro ⟨y, ⟨x, hx, rfl⟩, rfl⟩
    have := hok u hu x hx
    by_cases e : x = (v : Int)
    · rw [if_pos e]; exact .inr ⟨by simp, x, hx, by rw [e]; simp⟩
    · rw [if_neg e]; exact .inl ⟨by omega, ⟨x, hx, rfl⟩, by omega⟩
  · rintro (⟨h1, ⟨x, hx, rfl⟩, _⟩ | ⟨rfl, x, hx, he⟩)
    · have := hok u hu x hx
      exact ⟨x, ⟨x, hx, if_neg (by omega)⟩, rfl⟩
    · have := hok u hu x hx
      exact ⟨(G.length : Int), ⟨x, hx, if_pos (by omega)⟩, by simp⟩
theorem wide_end (G : List (List Int)) (v : Nat) : adjOf (wideG G v) G.length = [] := by unfold adjOf; rw [wideG_last]; rfl
/-- What Loop tells of its arguments. -/
def loopE (G : List (List Int)) (a : Int) : PErr :=
  match checkG G with
  | some t => some t
  | none => if outG G a then fresh sGraph 1 3 else none
theorem loopE_ok {G : List (List Int)} {x : Nat} (hc : checkG G = none) (hx : x < G.length) : loopE G x = none := by
  unfold loopE
  rw [hc]
  dsimp only
  rw [if_neg (by unfold outG; omega)]
def LoopWay (w : World) (G : List (List Int)) (v : Nat) (x : Value) (w' : World) : Prop :=
  (∃ u, IsFirst (adjOf (wideG G v)) v G.length u ∧ OwnI w.heap.size w' x (castI u.dropLast)) ∨ (¬ Goes (adjOf (wideG G v)) v G.length ∧ x = .slice none 0 0)
/-- What Loop leaves. -/
def LoopPost (r : Nat → Addr) (w : World) (G : List (List Int)) (a : Int) (x y : Value) (w' : World) : Prop :=
  ErrIs r w' (loopE G a) y ∧ (loopE G a = none → LoopWay w G a.toNat x w') ∧ (loopE G a ≠ none → x = .slice none 0 0)
/-- One's own slice, cut at its end. -/
theorem OwnI.cut {B : Nat} {w : World} {g m c : Nat} {xs : List Int} (h : OwnI B w (.slice (some ⟨g, 0, none⟩) (m + 1) c) xs) (hl : xs.length = m + 1) : OwnI B w (.slice (some ⟨g, 0, none⟩) m c) (xs.take m) := by
  rcases h.2 with ⟨e, _⟩ | ⟨g', cap', cur, e, hB, hg, hn, hm, hs, ht⟩
  · cases e
  · injection e with e1 e2 e3
    injection e1 with e1
    injection e1 with e1
    subst e1; subst e3
    have hml : (xs.take m).length = m := by simp; omega
    refine ⟨by simp, .inr ⟨g, c, cur, by rw [hml], hB, hg, by rw [hml]; omega, hm, hs, ?_⟩⟩
    rw [hml]
    rw [hl] at ht
    have := congrArg (List.take m) ht
    rw [List.take_take] at this
    simp only [Nat.mul_one] at this ⊢
    rw [Nat.min_eq_left (by omega)] at this
    rw [this, List.map_take]

set_option maxHeartbeats 1000000 in
theorem loopG_any (r : Nat → Addr) (na : Option Addr) (nc : Nat) (G : List (List Int)) (a : Int) (w : World) (hg : Glob r w) (h : ListsAt w (.slice na G.length nc) G) (hsz : ∀ k, k < G.length → (G.getD k []).length ≤ 17592186044416) :
    Calls Tryz.prog 121 #[.slice na G.length nc, .int .i64 a] w (Ret2 (LoopPost r w G a) w) := by
  have hC := graph_check r na nc G w hg h hsz
  cases hck : checkG G with
  | some t =>
    rw [hck] at hC
    have hp : loopE G a = some t := by unfold loopE; rw [hck]
    replace hp := Lib.hid hp
    replace hck := Lib.hid hck
    replace h := Lib.hid h
    replace hg := Lib.hid hg
    replace hsz := Lib.hid hsz
    go_enter Tryz.func121, Tryz.ntmps121
    go_wp2_with fail
    refine hC.mono ?_
    rintro e w1 ⟨y, rfl, b1, he⟩
    obtain ⟨T, p, rfl⟩ := he.some_shape
    replace he := Lib.hid he
    go_wp2
    go_ret2
    exact ⟨_, _, rfl, b1, ⟨by rw [hp.out]; exact he.out, ⟨fun q => (by rw [hp.out] at q; cases q), fun _ => rfl⟩⟩⟩
  | none =>
    rw [hck] at hC
    obtain ⟨hn, harr, hok⟩ := checkG_none hck
    by_cases ha : outG G a
    · have hp : loopE G a = fresh sGraph 1 3 := by unfold loopE; rw [hck]; dsimp only; rw [if_pos ha]
      replace hp := Lib.hid hp
      replace hck := Lib.hid hck
      replace h := Lib.hid h
      replace hg := Lib.hid hg
      replace hsz := Lib.hid hsz
      replace hok := Lib.hid hok
      rcases ha with ha | ha
      · go_enter Tryz.func121, Tryz.ntmps121
        go_wp2_with fail
        refine hC.mono ?_
        rintro e w1 ⟨y, rfl, b1, he⟩
        obtain rfl := he.none_eq
        clear he hC
        go_wp2_with fail
        refine (graph_wrong r _ _ _ (hg.out.below b1) (by decide) (by decide)).mono ?_
        rintro e w2 ⟨y, rfl, b2, he⟩
        replace he := Lib.hid he
        go_wp2
        go_ret2
        exact ⟨_, _, rfl, Below.step b1 b2, ⟨by rw [hp.out]; exact he.out, ⟨fun q => (by rw [hp.out] at q; cases q), fun _ => rfl⟩⟩⟩
      · have ha0 : ¬ a < 0 := by omega
        go_enter Tryz.func121, Tryz.ntmps121
        go_wp2_with fail
        refine hC.mono ?_
        rintro e w1 ⟨y, rfl, b1, he⟩
        obtain rfl := he.none_eq
        clear he hC
        go_wp2_with fail
        refine (graph_wrong r _ _ _ (hg.out.below b1) (by decide) (by decide)).mono ?_
        rintro e w2 ⟨y, rfl, b2, he⟩
        replace he := Lib.hid he
        go_wp2
        go_ret2
        exact ⟨_, _, rfl, Below.step b1 b2, ⟨by rw [hp.out]; exact he.out, ⟨fun q => (by rw [hp.out] at q; cases q), fun _ => rfl⟩⟩⟩
    · have ha1 : 0 ≤ a ∧ a < G.length := by unfold outG at ha; omega
      obtain ⟨ha1, ha2⟩ := ha1
      obtain ⟨v, rfl⟩ := Int.eq_ofNat_of_zero_le ha1
      have hv : v < G.length := by omega
      have hp : loopE G (v : Int) = none := loopE_ok hck hv
      have hd1 : decide ((v : Int) < 0) = false := by simp
      have hd2 : decide (G.length ≤ v) = false := by simp; omega
      clear ha ha1 ha2
      replace hp := Lib.hid hp
      replace hck := Lib.hid hck
      replace h := Lib.hid h
      replace hg := Lib.hid hg
      replace hsz := Lib.hid hsz
      replace hok := Lib.hid hok
      go_enter Tryz.func121, Tryz.ntmps121
      go_wp2_with fail
      refine hC.mono ?_
      rintro e w1 ⟨y', rfl, b1, he⟩
      obtain rfl := he.none_eq
      clear he hC
      obtain ⟨ov, w2, mk, ho, hb2⟩ := run_makeW oneLists ((G.length : Int) + 1) (G.length + 1) w1 (by omega) (by omega)
      obtain ⟨f1, hr1, h1⟩ := WN.made (G.length + 1) hb2 (Nat.le_refl _) ho
      have h1 : WN f1 ov (List.replicate (G.length + 1) (.slice none 0 0)) (G.length + 1) (wideTo G v 0) := by
        have : (fun _ : Nat => ([] : List Int)) = wideTo G v 0 := by funext u; unfold wideTo; rw [if_neg (by omega)]
        rw [← this]; exact h1
      obtain ⟨oa, on, oc, rfl⟩ := ho.shape
      replace ho := Lib.hid ho
      replace hr1 := Lib.hid hr1
      go_wp2_with fail
      clear mk
      go_loopw [35] (fun kv wr => ∃ (k : Nat) (f : Names) (vals : List Value), k ≤ G.length ∧ kv = .int .i64 k ∧ Rows w1.heap.size wr f ∧ Below w1.heap.size w1 wr ∧ WN f (.slice oa on oc) vals (G.length + 1) (wideTo G v k)) (fun kv _ => G.length - (intOf kv).toNat)
      case atStart => exact ⟨0, f1, _, by omega, rfl, hr1.out, hb2, h1⟩
      case round =>
        clear h1 ho hr1
        obtain ⟨k, f2, vals, hk, rfl, hr2, b2, h2⟩ := hrel
        obtain ⟨wo, rfl⟩ : ∃ wo : World, wo = wr := ⟨_, rfl⟩
        by_cases hlt : k < G.length
        · obtain ⟨mv, iR, cR0, hM0⟩ := h.out.row k hlt
          have hbw : Below w.heap.size w wo := b1.trans (b2.mono b1.size)
          have cR := (hbw.cell (World.block_lt_of_cell? _ _ cR0)).trans cR0
          have hM := hM0.below hbw
          have hglen := hsz.out k hlt
          have hsucc := wideTo_succ G v k
          generalize G.getD k [] = gk at *
          have hcl := clone_any mv gk wo hM hglen
          have hOV := (hr2.ownV h2.outer).at
          have iO := fun w' => hOV.idx oneLists k (by rw [h2.len]; omega) w'
          have hput := fun (w1' : World) (v' : Value) (xs : List Int) => h2.put (B := w1.heap.size) (w1 := w1') (u := k) (by omega) (v' := v') (xs := xs)
          have hnew := fun (w1' : World) (v' : Value) (xs : List Int) => h2.new (B := w1.heap.size) hr2 (w1 := w1') k (v' := v') (xs := xs)
          have hBo := b2.size
          generalize valAt (.slice na G.length nc) k = ra at *
          obtain ⟨ua, hua⟩ : ∃ ua, valAt (.slice oa on oc) k = ua := ⟨_, rfl⟩
          rw [hua] at iO
          simp only [hua] at hput
          replace hua := Lib.hid hua
          replace hput := Lib.hid hput
          replace hnew := Lib.hid hnew
          replace hOV := Lib.hid hOV
          replace hr2 := Lib.hid hr2
          replace hM := Lib.hid hM
          replace hM0 := Lib.hid hM0
          replace hcl := Lib.hid hcl
          replace hsucc := Lib.hid hsucc
          go_wp2_with fail
          clear cR cR0 iR hbw
          refine hcl.out.mono ?_
          rintro e w3 ⟨cv, rfl, b3, hcv⟩
          have hR3 := hnew.out w3 cv gk b3 hBo hcv
          obtain ⟨y1, y2, y3, f4, hr4, h4, _⟩ := hput.out w3 cv gk hR3
          obtain ⟨va, vn, vc, rfl⟩ := hcv.at.shape
          have b4 : Below w1.heap.size w1 (w3.setCell ua (.slice va vn vc)) := (b2.trans (b3.mono hBo)).setCell y3 _
          have h4 : WN f4 (.slice oa on oc) (vals.set k (.slice va vn vc)) (G.length + 1) (updN (wideTo G v k) k (midW v G.length gk 0)) := by rw [midW_zero]; exact h4
          have lM := (hM0.out.below (b1.trans (b4.mono b1.size))).len
          obtain ⟨W4, hW4⟩ : ∃ W4 : World, W4 = w3.setCell ua (.slice va vn vc) := ⟨_, rfl⟩
          rw [← hW4] at hr4 b4
          replace hr4 := Lib.hid hr4
          replace hR3 := Lib.hid hR3
          replace hcv := Lib.hid hcv
          clear hcl
          go_upto_region 12 with fail
          rw [← hW4]
          clear hW4 y1 y2 iO
          go_wp2_with fail
          clear lM
          generalize vals.set k (.slice va vn vc) = vals at *
          go_loopw [47] (fun jv wr => ∃ (j : Nat) (f : Names) (vals : List Value), j ≤ gk.length ∧ jv = .int .i64 j ∧ Rows w1.heap.size wr f ∧ Below w1.heap.size w1 wr ∧ WN f (.slice oa on oc) vals (G.length + 1) (updN (wideTo G v k) k (midW v G.length gk j))) (fun jv _ => gk.length - (intOf jv).toNat)
          case atStart => exact ⟨0, f4, _, by omega, rfl, hr4.out, b4, h4⟩
          case round =>
            clear hr4 h4 b4 hR3 hcv hM hr2 hnew hput hOV y3
            obtain ⟨j, f5, vals, hj, rfl, hr5, b5, h5⟩ := hrel
            obtain ⟨wo, rfl⟩ : ∃ wo : World, wo = wr := ⟨_, rfl⟩
            by_cases hjl : j < gk.length
            · have hMj := hM0.out.below (b1.trans (b5.mono b1.size))
              have iJ := fun w' => hMj.idx j hjl w'
              have cJ := hMj.cell j hjl
              generalize valAt mv j = ja at *
              have hstep := midW_step v G.length gk j hjl
              have hsame := midW_same v G.length gk j hjl
              obtain ⟨t, ht⟩ : ∃ t, gk[j] = t := ⟨_, rfl⟩
              rw [ht] at cJ hstep hsame
              replace hMj := Lib.hid hMj
              replace ht := Lib.hid ht
              by_cases htv : t = (v : Int)
              · have hq : (t == (v : Int)) = true := by simp [htv]
                rw [if_pos htv] at hstep
                have hOV := (hr5.ownV h5.outer).at
                have iO := fun w' => hOV.idx oneLists k (by rw [h5.len]; omega) w'
                have cO := hOV.cellV k (by rw [h5.len]; omega)
                have hrow := hr5.ownI (h5.rows k (by omega))
                rw [updN_same] at hrow
                have hml : (midW v G.length gk j).length = gk.length := midW_len _ _ _ _ hj
                have iE := fun w' => hrow.at.idx j (by rw [hml]; exact hjl) w'
                have cE := hrow.at.cellD j (by rw [hml]; exact hjl)
                have fE := hrow.frz j (by rw [hml]; exact hjl)
                have kE := (hrow.toV.blkB j (by rw [List.length_map, hml]; exact hjl)).2
                obtain ⟨f6, hr6, h6⟩ := h5.elem hr5 k (by omega) j (by rw [updN_same, hml]; exact hjl) (G.length : Int)
                rw [updN_same, ← hstep, updN_updN] at h6
                have b6 : Below w1.heap.size w1 (wo.setCell (valAt (vAt vals k) j) (.int .i64 (G.length : Int))) := b5.setCell kE _
                generalize valAt (vAt vals k) j = ea at *
                generalize vAt vals k = ev at *
                generalize valAt (.slice oa on oc) k = ua at *
                generalize (midW v G.length gk j).getD j 0 = eo at *
                subst htv
                replace hr6 := Lib.hid hr6
                replace hr5 := Lib.hid hr5
                replace hOV := Lib.hid hOV
                replace hrow := Lib.hid hrow
                replace hstep := Lib.hid hstep
                replace hsame := Lib.hid hsame
                replace hml := Lib.hid hml
                go_wp2
                go_roundw
                case measure => simp [intOf]; omega
                case rel => exact ⟨j + 1, f6, vals, by omega, by go_num, hr6.out, b6, h6⟩
              · have hq : (t == (v : Int)) = false := by simp [htv]
                have h6 := h5
                rw [← hsame htv] at h6
                replace hr5 := Lib.hid hr5
                replace hstep := Lib.hid hstep
                replace hsame := Lib.hid hsame
                go_wp2
                go_roundw
                case measure => simp [intOf]; omega
                case rel => exact ⟨j + 1, f5, vals, by omega, by go_num, hr5.out, b5, h6⟩
            · obtain rfl : j = gk.length := by omega
              rw [midW_full, hsucc.out] at h5
              replace hr5 := Lib.hid hr5
              go_wp2
              go_roundw
              case measure => simp [intOf]; omega
              case rel => exact ⟨k + 1, f5, vals, by omega, by go_num, hr5.out, b5, h5⟩
        · obtain rfl : k = G.length := by omega
          have hWL := h2.lists hr2
          have hWL : ListsAt wo (.slice oa on oc) (wideG G v) := hWL
          obtain ⟨oa', oc', he⟩ := hWL.shape
          injection he with he1 he2 he3
          clear he1 he3
          rw [he2] at hWL
          have hF := first_any oa oc (wideG G v) v G.length wo hWL (wideG_ok hok.out v) (by rw [wideG_len]; omega) (by rw [wideG_len]; omega) (by rw [wideG_len]; omega) (fun u hu => by
            rw [wideG_len] at hu
            by_cases e : u < G.length
            · rw [wideG_row G v u e, mapW_len]; exact hsz.out u e
            · obtain rfl : u = G.length := by omega
              rw [wideG_last]; exact Nat.zero_le _)
          rw [← he2] at hF
          replace hF := Lib.hid hF
          replace he2 := Lib.hid he2
          replace hWL := Lib.hid hWL
          replace hr2 := Lib.hid hr2
          go_wp2_with fail
          refine hF.out.mono ?_
          rintro e w5 ⟨xv, rfl, b5, hx⟩
          have hbw : Below w.heap.size w wo := b1.trans (b2.mono b1.size)
          rcases hx with ⟨u, hu, hxo⟩ | ⟨hno, rfl⟩
          · have hul := hu.way.pos
            obtain ⟨g, c, e1, e2⟩ := row_shape (show w5.ownsRow wo.heap.size 3 1 xv (castI u).length ((castI u).map (Value.int .i64)) from hxo) (by rw [castI_len]; exact hul)
            obtain ⟨m, hm⟩ : ∃ m, u.length = m + 1 := ⟨u.length - 1, by omega⟩
            rw [castI_len, hm] at e1 e2
            subst e1
            have hcut := hxo.cut (by rw [castI_len, hm])
            have hdl : (castI u).take m = castI u.dropLast := by
              unfold castI
              rw [List.dropLast_eq_take, hm, ← List.map_take]; rfl
            rw [hdl] at hcut
            have hmb : m ≤ 9223372036854775806 := by
              have := hxo.at.len_le
              rw [castI_len, hm] at this; omega
            have hwr : IntKind.i64.wrap (m : Int) = m := wrapK (by omega) (by omega)
            have hsl : (0 ≤ (m : Int) ∧ (m : Int) ≤ (c : Int)) := ⟨by omega, by omega⟩
            have hne : (((m : Int) + 1) == 0) = false := by rw [beq_eq_false_iff_ne]; omega
            replace hcut := Lib.hid hcut
            replace hxo := Lib.hid hxo
            replace hdl := Lib.hid hdl
            replace hm := Lib.hid hm
            go_wp2
            go_ret2
            exact ⟨_, _, rfl, Below.step hbw b5, ⟨by rw [hp.out]; rfl, ⟨fun _ => by rw [Int.toNat_natCast]; exact .inl ⟨u, hu, hcut.out.mono hbw.size⟩, fun q => absurd hp.out q⟩⟩⟩
          · replace hno := Lib.hid hno
            go_wp2
            go_ret2
            exact ⟨_, _, rfl, Below.step hbw b5, ⟨by rw [hp.out]; rfl, ⟨fun _ => by rw [Int.toNat_natCast]; exact .inr ⟨hno.out, rfl⟩, fun q => absurd hp.out q⟩⟩⟩
end Go.Proofs.YtmhiambkfdkkbaaGreatDoor

namespace Go.Proofs.YtmhiambkfdkkbaaGreatDoor
open Go.RowKit
set_option maxRecDepth 100000

def sixG : List (List Int) := [[1], [2], [1, 3], [4], [4], [0]]
theorem six_check : checkG sixG = none := by rfl
theorem six_ok : GraphOk sixG := (checkG_none six_check).2.2
theorem six_sz : ∀ k, k < sixG.length → (sixG.getD k []).length ≤ 17592186044416 := by
  intro k hk
  have : k < 6 := hk
  match k, this with
  | 0, _ => decide
  | 1, _ => decide
  | 2, _ => decide
  | 3, _ => decide
  | 4, _ => decide
  | 5, _ => decide
/-- A number for each vertex that no arrow lowers. -/
def rk6 (v : Nat) : Nat := [1, 2, 2, 3, 4, 0].getD v 9
theorem adj6 (v : Nat) : adjOf sixG v = [[1], [2], [1, 3], [4], [4], [0]].getD v [] := by
  match v with
  | 0 => rfl
  | 1 => rfl
  | 2 => rfl
  | 3 => rfl
  | 4 => rfl
  | 5 => rfl
  | n + 6 => rfl
theorem rk6_step {x t : Nat} (ht : t ∈ adjOf sixG x) : rk6 x ≤ rk6 t := by
  rw [adj6] at ht
  match x, ht with
  | 0, ht => simp at ht; subst ht; decide
  | 1, ht => simp at ht; subst ht; decide
  | 2, ht => simp at ht; rcases ht with rfl | rfl <;> decide
  | 3, ht => simp at ht; subst ht; decide
  | 4, ht => simp at ht; subst ht; decide
  | 5, ht => simp at ht; subst ht; decide
  | n + 6, ht => simp at ht
theorem rk6_goes {x y : Nat} (h : Goes (adjOf sixG) x y) : rk6 x ≤ rk6 y := by
  induction h with
  | refl => exact Nat.le_refl _
  | step _ hz ih => exact Nat.le_trans ih (rk6_step hz)
theorem g01 : Goes (adjOf sixG) 0 1 := .one (by rw [adj6]; decide)
theorem g12 : Goes (adjOf sixG) 1 2 := .one (by rw [adj6]; decide)
theorem g21 : Goes (adjOf sixG) 2 1 := .one (by rw [adj6]; decide)
theorem g23 : Goes (adjOf sixG) 2 3 := .one (by rw [adj6]; decide)
theorem g34 : Goes (adjOf sixG) 3 4 := .one (by rw [adj6]; decide)
theorem six_parts {ps : List Int} (h : PartsOf sixG.length (adjOf sixG) ps) : ps = [0, 1, 1, 2, 3, 4] := by
  obtain ⟨p, hp, rfl⟩ := h
  have ne : ∀ x y, x < 6 → y < 6 → rk6 x ≠ rk6 y → p x ≠ p y := fun x y hx hy hr he => by
    obtain ⟨a, b⟩ := (hp x y hx hy).1 he
    have := rk6_goes a
    have := rk6_goes b
    omega
  have e12 : p 2 = p 1 := (hp 2 1 (by decide) (by decide)).2 ⟨g21, g12⟩
  have h10 := ne 1 0 (by decide) (by decide) (by decide)
  have h30 := ne 3 0 (by decide) (by decide) (by decide)
  have h31 := ne 3 1 (by decide) (by decide) (by decide)
  have h40 := ne 4 0 (by decide) (by decide) (by decide)
  have h41 := ne 4 1 (by decide) (by decide) (by decide)
  have h43 := ne 4 3 (by decide) (by decide) (by decide)
  have h50 := ne 5 0 (by decide) (by decide) (by decide)
  have h51 := ne 5 1 (by decide) (by decide) (by decide)
  have h53 := ne 5 3 (by decide) (by decide) (by decide)
  have h54 := ne 5 4 (by decide) (by decide) (by decide)
  have o0 : numO p 0 = 0 := by simp [numO, numM, updM]
  have o1 : numO p 1 = 1 := by simp [numO, numM, updM, h10]
  have o2 : numO p 2 = 1 := by rw [(numO_eq p 2 1).2 e12]; exact o1
  have m2 : numM p 3 = numM p 2 := by
    show (if _ then _ else _) = _
    rw [if_pos]
    rw [e12]
    have := numM_own p 1
    rw [this]; rfl
  have m2s : (numM p 2).2 = 2 := by simp [numM, updM, h10]
  have m2n : ∀ q, q ≠ p 0 → q ≠ p 1 → (numM p 2).1 q = none := fun q h0 h1 => by simp [numM, updM, h10, h0, h1]
  have m3 : numM p 4 = (updM (numM p 2).1 (p 3) 2, 3) := by
    show (if ((numM p 3).1 (p 3)).isSome then _ else _) = _
    rw [m2, m2n _ h30 h31, m2s]; rfl
  have o3 : numO p 3 = 2 := by unfold numO; rw [m3]; simp [updM]
  have m4 : numM p 5 = (updM (updM (numM p 2).1 (p 3) 2) (p 4) 3, 4) := by
    have e : (updM (numM p 2).1 (p 3) 2) (p 4) = none := by unfold updM; rw [if_neg h43]; exact m2n _ h40 h41
    show (if ((numM p 4).1 (p 4)).isSome then _ else _) = _
    rw [if_neg (by rw [m3]; show ¬ ((updM (numM p 2).1 (p 3) 2) (p 4)).isSome = true; rw [e]; decide), m3]; rfl
  have o4 : numO p 4 = 3 := by unfold numO; rw [m4]; simp [updM]
  have m5 : numM p 6 = (updM (updM (updM (numM p 2).1 (p 3) 2) (p 4) 3) (p 5) 4, 5) := by
    have e : (updM (updM (numM p 2).1 (p 3) 2) (p 4) 3) (p 5) = none := by unfold updM; rw [if_neg h54, if_neg h53]; exact m2n _ h50 h51
    show (if ((numM p 5).1 (p 5)).isSome then _ else _) = _
    rw [if_neg (by rw [m4]; show ¬ ((updM (updM (numM p 2).1 (p 3) 2) (p 4) 3) (p 5)).isSome = true; rw [e]; decide), m4]; rfl
  have o5 : numO p 5 = 4 := by unfold numO; rw [m5]; simp [updM]
  show [numO p 0, numO p 1, numO p 2, numO p 3, numO p 4, numO p 5] = _
  rw [o0, o1, o2, o3, o4, o5]
theorem six_live {L : List Nat} (h : LiveList sixG.length (adjOf sixG) L) : L = [1, 2, 3, 4] := by
  refine h.unique ⟨by decide, fun v => ?_⟩
  have l1 : OnLoop (adjOf sixG) 1 := ⟨2, by rw [adj6]; decide, g21⟩
  have l4 : OnLoop (adjOf sixG) 4 := ⟨4, by rw [adj6]; decide, .refl 4⟩
  have onl : ∀ u, OnLoop (adjOf sixG) u → u < 6 → 2 ≤ rk6 u := fun u ⟨t, ht, hg⟩ hu => by
    rw [adj6] at ht
    match u, ht, hu with
    | 0, ht, _ => simp at ht; subst ht; have := rk6_goes hg; exact absurd this (by decide)
    | 1, _, _ => decide
    | 2, _, _ => decide
    | 3, _, _ => decide
    | 4, _, _ => decide
    | 5, ht, _ => simp at ht; subst ht; have := rk6_goes hg; exact absurd this (by decide)
    | n + 6, _, hu => omega
  constructor
  · intro hv
    simp at hv
    rcases hv with rfl | rfl | rfl | rfl
    · exact ⟨by decide, ⟨1, by decide, l1, .refl 1⟩, 4, by decide, l4, g12.trans (g23.trans g34)⟩
    · exact ⟨by decide, ⟨1, by decide, l1, g12⟩, 4, by decide, l4, g23.trans g34⟩
    · exact ⟨by decide, ⟨1, by decide, l1, g12.trans g23⟩, 4, by decide, l4, g34⟩
    · exact ⟨by decide, ⟨1, by decide, l1, g12.trans (g23.trans g34)⟩, 4, by decide, l4, .refl 4⟩
  · rintro ⟨hv, ⟨u, hu, h1, h2⟩, _⟩
    have a := onl u h1 hu
    have b := rk6_goes h2
    have hv : v < 6 := hv
    match v, hv, b with
    | 0, _, b => exact absurd (Nat.le_trans a b) (by decide)
    | 1, _, _ => decide
    | 2, _, _ => decide
    | 3, _, _ => decide
    | 4, _, _ => decide
    | 5, _, b => exact absurd (Nat.le_trans a b) (by decide)
    | n + 6, hv, _ => omega
/-- How many arrows to 4, at the least. -/
def ds6 (v : Nat) : Nat := [4, 3, 2, 1, 0, 5].getD v 9
theorem ds6_way {x y : Nat} {w : List Nat} (h : Way (adjOf sixG) x y w) : y = 4 → ds6 x + 1 ≤ w.length := by
  induction h with
  | one x => intro h; subst h; decide
  | @cons x t y w ht h ih =>
    intro hy
    have := ih hy
    have hx : ds6 x ≤ ds6 t + 1 := by
      rw [adj6] at ht
      match x, ht with
      | 0, ht => simp at ht; subst ht; decide
      | 1, ht => simp at ht; subst ht; decide
      | 2, ht => simp at ht; rcases ht with rfl | rfl <;> decide
      | 3, ht => simp at ht; subst ht; decide
      | 4, ht => simp at ht; subst ht; decide
      | 5, ht => simp at ht; subst ht; decide
      | n + 6, ht => simp at ht
    simp only [List.length_cons]; omega
theorem six_path {u : List Nat} (h : IsFirst (adjOf sixG) 0 4 u) : u = [0, 1, 2, 3, 4] := by
  have hw : Way (adjOf sixG) 0 4 [0, 1, 2, 3, 4] := .cons (by rw [adj6]; decide) (.cons (by rw [adj6]; decide) (.cons (by rw [adj6]; decide) (.cons (by rw [adj6]; decide) (.one 4))))
  have h5 := h.short _ hw
  have hu := h.way
  cases hu with
  | cons ht h1 =>
    rw [adj6] at ht; simp at ht; subst ht
    cases h1 with
    | cons ht h2 =>
      rw [adj6] at ht; simp at ht; subst ht
      cases h2 with
      | cons ht h3 =>
        rw [adj6] at ht; simp at ht
        rcases ht with rfl | rfl
        · have := ds6_way h3 rfl
          simp only [List.length_cons] at h5
          have e : ds6 1 = 3 := rfl
          simp at h5
          omega
        · cases h3 with
          | cons ht h4 =>
            rw [adj6] at ht; simp at ht; subst ht
            cases h4 with
            | one => rfl
            | cons ht h6 =>
              have := h6.pos
              simp only [List.length_cons, List.length_nil] at h5
              omega
theorem six_goes : Goes (adjOf sixG) 0 4 := g01.trans (g12.trans (g23.trans g34))

end Go.Proofs.YtmhiambkfdkkbaaGreatDoor

namespace Go.Proofs.YtmhiambkfdkkbaaGreatDoor
open Go.RowKit
set_option maxRecDepth 100000

theorem lit_ints (w : World) (xs : List Int) (cs : Array Value) (hc : cs.toList = xs.map (Value.int .i64)) (hl : xs.length ≤ 10) : IntsAt (w.alloc (.cells cs 3)) (.slice (some ⟨w.heap.size, 0, none⟩) xs.length xs.length) xs :=
  (OwnI.lit w.heap.size w (Nat.le_refl _) xs (by unfold maxLen; omega) cs hc xs.length rfl).at

/-- heavy: what it tells of lists that are not. -/
def HeavyPost (G : List (List Int)) (x : Value) : Prop := ∃ b : Bool, x = .bool b ∧ (b = false → G.length ≤ 300 ∧ arrowsTo G G.length ≤ 4000)
/-- vertex: what it tells where it says yes. -/
def VertexPost (G : List (List Int)) (a : Int) (x : Value) : Prop := ∃ b : Bool, x = .bool b ∧ (b = true → G.length ≤ 300 ∧ arrowsTo G G.length ≤ 4000 ∧ checkG G = none ∧ ∃ v : Nat, a = v ∧ v < G.length)
end Go.Proofs.YtmhiambkfdkkbaaGreatDoor

namespace Go.Proofs.YtmhiambkfdkkbaaGreatDoor
open Go.RowKit
set_option maxRecDepth 100000

def zT : List Int := List.replicate 8 0
theorem zT_ok : RuleOk 2 1 zT := ⟨by decide, by decide, by decide, by decide, fun x hx => by rw [List.eq_of_mem_replicate hx]; decide⟩
theorem zT_two : ∀ p, p < 16 → ∀ q, q < 16 → ∃ t ∈ pairL 2 4 zT p, q ∈ pairL 2 4 zT t := by decide +kernel
theorem zT_goes {p q : Nat} (hp : p < 16) (hq : q < 16) : Goes (adjOf (pairG 2 4 zT)) p q := by
  obtain ⟨t, ht, hqt⟩ := zT_two p hp q hq
  exact (pairG_goes (by decide) (.step (.one ht) hqt) hp).1
theorem zT_loop {p : Nat} (hp : p < 16) : OnLoop (adjOf (pairG 2 4 zT)) p := by
  obtain ⟨t, ht, hqt⟩ := zT_two p hp p hp
  refine ⟨t, by rw [pairG_adj (N := 4) hp]; exact ht, ?_⟩
  have htl : t < 16 := ((mem_pairL (N := 4) (by decide)).1 ht).lt (by decide)
  exact zT_goes htl hp
theorem zT_live {L : List Nat} (h : LiveList 16 (adjOf (pairG 2 4 zT)) L) : L = List.range 16 :=
  h.unique ⟨List.pairwise_lt_range, fun v => by
    rw [List.mem_range]
    exact ⟨fun q => ⟨q, ⟨v, q, zT_loop q, .refl _⟩, ⟨v, q, zT_loop q, .refl _⟩⟩, fun q => q.1⟩⟩
theorem zT_words : AllFit 2 4 zT [1, 6, 13] := by
  intro i hi
  have : i = 0 ∨ i = 1 := by simp at hi; omega
  rcases this with rfl | rfl <;> decide

theorem zT_wkR : wkR 1 = 1 := rfl
theorem zT_wkT : wkT 2 1 zT = zT := rfl
theorem zT_pw : pw 2 (2 * 1) = 4 := by decide
theorem zT_pwords (r : Nat → Addr) (ta : Option Addr) (tn tc : Nat) (u : Value) (w : World) (hg : Glob r w) (h : IntsAt w (.slice ta tn tc) zT) (hu : IntsAt w u [1, 6, 13]) :
    Calls Tryz.prog 33 #[.agg #[.int .i64 2, .int .i64 1, .slice ta tn tc], u] w (Ret3 (fun x y z w' => z = .nilIface ∧ IntsAt w' x [0, 0, 1, 1] ∧ IntsAt w' y [0, 1, 0, 1]) w) := by
  have hc := pwords_way r 2 1 ta tn tc zT u [1, 6, 13] w hg h zT_ok (by decide) hu (by simp)
  rw [zT_wkR, zT_pw] at hc
  refine (hc (by decide) (by decide)).mono ?_
  rintro e w' ⟨x, y, z, rfl, b, hp⟩
  refine ⟨x, y, z, rfl, b, ?_⟩
  unfold WordsPost at hp
  rw [zT_wkT, zT_pw] at hp
  rcases hp with ⟨_, h1, h2, h3, _⟩ | ⟨hno, _⟩
  · have exa : alongW 2 (2 * 1) (· / 4) [1, 6, 13] = [0, 0, 1, 1] := by decide
    have exb : alongW 2 (2 * 1) (· % 4) [1, 6, 13] = [0, 1, 0, 1] := by decide
    rw [exa] at h2
    rw [exb] at h3
    exact ⟨h1, h2.at, h3.at⟩
  · exact absurd zT_words hno
theorem zT_papart (r : Nat → Addr) (ta : Option Addr) (tn tc : Nat) (w : World) (hg : Glob r w) (h : IntsAt w (.slice ta tn tc) zT) :
    Calls Tryz.prog 24 #[.agg #[.int .i64 2, .int .i64 1, .slice ta tn tc]] w (Ret2 (fun x y w' => y = .nilIface ∧ IntsAt w' x [1, 2, 3, 4, 6, 7, 8, 9, 11, 12, 13, 14]) w) := by
  have hc := papart_ok r 2 1 ta tn tc zT w hg h zT_ok (by decide)
  rw [zT_wkR, zT_wkT, zT_pw] at hc
  refine hc.mono ?_
  rintro e w' ⟨x, y, rfl, b, h1, L, hL, ho⟩
  have hLe : L = List.range 16 := zT_live hL
  subst hLe
  refine ⟨x, y, rfl, b, h1, ?_⟩
  have hF : castI ((List.range 16).filter (fun p => !decide (Diag 4 p))) = [1, 2, 3, 4, 6, 7, 8, 9, 11, 12, 13, 14] := by decide
  rw [hF] at ho
  exact ho.at

set_option maxHeartbeats 400000 in
theorem awake13 (r : Nat → Addr) (w : World) (hg : Glob r w) : Calls Tryz.prog 21 #[] w (Ret1 (fun x _ => x = .bool true) w) := by
  obtain ⟨tv, w1, mk, ho, b1⟩ := run_makeI (8 : Int) 8 w rfl (by omega)
  have hT : IntsAt w1 tv zT := ho.at
  obtain ⟨ta, tn, tc, rfl⟩ := ho.at.shape
  have ba := belowAlloc w1 (.cells #[.int .i64 2, .int .i64 1, .slice ta tn tc] 24)
  have q : Box3 (w1.alloc (.cells #[.int .i64 2, .int .i64 1, .slice ta tn tc] 24)) w1.heap.size (.int .i64 2) (.int .i64 1) (.slice ta tn tc) := by simp [Box3, go_sem]
  have b02 := Below.step b1 ba
  have hT2 := hT.below ba
  obtain ⟨W2, hW2⟩ : ∃ W2 : World, W2 = w1.alloc (.cells #[.int .i64 2, .int .i64 1, .slice ta tn tc] 24) := ⟨_, rfl⟩
  rw [← hW2] at b02 hT2 q
  have bl := belowAlloc W2 (.cells #[.int .i64 1, .int .i64 6, .int .i64 13] 3)
  have hlit := lit_ints W2 [1, 6, 13] #[.int .i64 1, .int .i64 6, .int .i64 13] rfl (by decide)
  have b03 := Below.step b02 bl
  replace hg := Lib.hid hg
  replace ho := Lib.hid ho
  replace hT := Lib.hid hT
  replace hT2 := Lib.hid hT2
  replace q := Lib.hid q
  replace hlit := Lib.hid hlit
  go_enter Tryz.func21, Tryz.ntmps21
  go_upto_region 2 with fail
  rw [← hW2]
  replace hW2 := Lib.hid hW2
  obtain ⟨⟨y0, y1, y2⟩, -, -, -⟩ := q.out
  go_wp2_with fail
  clear y0 y1 y2
  refine (zT_pwords r ta tn tc _ _ (hg.out.below b03) (hT2.out.below bl) hlit.out).mono ?_
  rintro e w4 ⟨xa, xb, z, rfl, b4, rfl, hxa, hxb⟩
  have b24 := Below.step bl b4
  have b04 := Below.step b03 b4
  obtain ⟨⟨z0, z1, z2⟩, -, -, -⟩ := q.out.below b24
  replace hxa := Lib.hid hxa
  replace hxb := Lib.hid hxb
  clear mk
  go_wp2_with fail
  refine (zT_papart r ta tn tc w4 (hg.out.below b04) (hT2.out.below b24)).mono ?_
  rintro e w5 ⟨lv, y, rfl, b5, rfl, hlo⟩
  have ll := hlo.len
  have i4 : ∀ w', (Instr.indexAt 22 lv (.int .i64 4)).run Tryz.prog w' = .ok (.pointer (some (valAt lv 4))) w' := fun w' => hlo.idx 4 (by decide) w'
  have c4 := hlo.cellD 4 (by decide)
  rw [show ([1, 2, 3, 4, 6, 7, 8, 9, 11, 12, 13, 14] : List Int).getD 4 0 = 6 by decide] at c4
  rw [show ([1, 2, 3, 4, 6, 7, 8, 9, 11, 12, 13, 14] : List Int).length = 12 by decide] at ll
  clear z0 z1 z2
  generalize valAt lv 4 = la at *
  obtain ⟨l1, l2, l3, rfl⟩ := hlo.shape
  replace hlo := Lib.hid hlo
  have b05 := Below.step b04 b5
  have bl1 := belowAlloc w5 (.cells #[.int .i64 0, .int .i64 0, .int .i64 1, .int .i64 1] 3)
  have hlit1 := lit_ints w5 [0, 0, 1, 1] #[.int .i64 0, .int .i64 0, .int .i64 1, .int .i64 1] rfl (by decide)
  replace hlit1 := Lib.hid hlit1
  go_wp2_with fail
  refine (ints_any xa _ _ _ _ ((hxa.out.below b5).below bl1) hlit1.out).mono ?_
  rintro e w7 h7
  obtain ⟨rfl, b7⟩ := h7.below
  clear h7
  rw [show decide (([0, 0, 1, 1] : List Int) = [0, 0, 1, 1]) = true by decide]
  have b57 := Below.step bl1 b7
  have bl2 := belowAlloc w7 (.cells #[.int .i64 0, .int .i64 1, .int .i64 0, .int .i64 1] 3)
  have hlit2 := lit_ints w7 [0, 1, 0, 1] #[.int .i64 0, .int .i64 1, .int .i64 0, .int .i64 1] rfl (by decide)
  replace hlit2 := Lib.hid hlit2
  go_wp2_with fail
  refine (ints_any xb _ _ _ _ ((hxb.out.below (Below.step b5 b57)).below bl2) hlit2.out).mono ?_
  rintro e w8 h8
  obtain ⟨rfl, b8⟩ := h8.below
  clear h8
  rw [show decide (([0, 1, 0, 1] : List Int) = [0, 1, 0, 1]) = true by decide]
  have b58 := Below.step b57 (Below.step bl2 b8)
  have c8 := (b58.cell (World.block_lt_of_cell? _ _ c4)).trans c4
  go_wp2
  go_ret
  exact ⟨_, rfl, Below.step b05 b58, rfl⟩
end Go.Proofs.YtmhiambkfdkkbaaGreatDoor

namespace Go.Proofs.YtmhiambkfdkkbaaGreatDoor
open Go.RowKit
set_option maxRecDepth 100000

theorem LentI.setBelow {B : Nat} {w : World} {m : Value} {xs : List Int} (h : LentI B w m xs) {a : Addr} (ha : a.block < B) (u : Value) : LentI B (w.setCell a u) m xs := by
  obtain ⟨v, e, ho⟩ := h
  exact ⟨v, e, ho.setBelowBase ha u⟩
theorem LentI.mono {B B' : Nat} {w : World} {m : Value} {xs : List Int} (h : LentI B w m xs) (hB : B' ≤ B) : LentI B' w m xs := by
  obtain ⟨v, e, ho⟩ := h
  exact ⟨v, e, ho.mono hB⟩

theorem lentRule_any (k R : Int) (va : Option Addr) (vn vc : Nat) (T : List Int) (w : World) (h : IntsAt w (.slice va vn vc) T) (hl : T.length ≤ 17592186044414) :
    Calls Tryz.prog 11 #[.agg #[.int .i64 k, .int .i64 R, .slice va vn vc]] w (Ret1 (fun x w' => ∃ a n c, x = .agg #[.int .i64 k, .int .i64 R, .slice a n c] ∧ LentI w.heap.size w' (.slice a n c) T) w) := by
  have b0 := Below.step (belowAlloc w (.cells #[.int .i64 k, .int .i64 R, .slice va vn vc] 24)) (belowAlloc _ (.cells #[.int .i64 0, .int .i64 0, .slice none 0 0] 24))
  have q6 : Box3 ((w.alloc (.cells #[.int .i64 k, .int .i64 R, .slice va vn vc] 24)).alloc (.cells #[.int .i64 0, .int .i64 0, .slice none 0 0] 24)) w.heap.size (.int .i64 k) (.int .i64 R) (.slice va vn vc) := by simp [Box3, go_sem]
  have q7 : Box3 ((w.alloc (.cells #[.int .i64 k, .int .i64 R, .slice va vn vc] 24)).alloc (.cells #[.int .i64 0, .int .i64 0, .slice none 0 0] 24)) (w.heap.size + 1) (.int .i64 0) (.int .i64 0) (.slice none 0 0) := by simp [Box3, go_sem]
  replace h := Lib.hid (h.below b0)
  go_enter Tryz.func11, Tryz.ntmps11
  go_wp2
  have hWs : w.heap.size + 2 ≤ ((w.alloc (.cells #[.int .i64 k, .int .i64 R, .slice va vn vc] 24)).alloc (.cells #[.int .i64 0, .int .i64 0, .slice none 0 0] 24)).heap.size := by simp
  obtain ⟨W, hW⟩ : ∃ W : World, W = ((w.alloc (.cells #[.int .i64 k, .int .i64 R, .slice va vn vc] 24)).alloc (.cells #[.int .i64 0, .int .i64 0, .slice none 0 0] 24)) := ⟨_, rfl⟩
  rw [← hW] at b0 q6 q7 h hWs ⊢
  clear hW
  have q6' := q6
  obtain ⟨⟨z0, z1, z2⟩, -, -, -⟩ := q6'
  go_region_held3 (fun w' => w'.cell? ⟨w.heap.size, 0, none⟩ = some (.int .i64 k) ∧ w'.cell? ⟨w.heap.size, 1, none⟩ = some (.int .i64 R) ∧ w'.cell? ⟨w.heap.size, 2, none⟩ = some (.slice va vn vc)) (first | exact ⟨z0, z1, z2⟩ | exact ⟨s0, s1, s2⟩ | (simp [s0, s1, s2, World.cell?_setCell_far]; done))
    (first | (go_at_call 12; refine (lent_any (.slice va vn vc) T _ ?_ hl).mono ?_
              · exact h.out.drew
              rintro e w1 ⟨x, rfl, b1, hx⟩
              have b1' : Below W.heap.size W w1 := (Below.refl W.heap.size W).drew.trans b1
              obtain ⟨a, n, c, rfl⟩ := hx.at.shape
              have s0 := cell_keep b1' z0
              have s1 := cell_keep b1' z1
              have s2 := cell_keep b1' z2
              have q7n := q7.below b1'
              obtain ⟨⟨y0, y1, y2⟩, g0, g1, g2⟩ := q7n))
  have hE := Lib.hid (((hx.setBelow (a := ⟨w.heap.size + 1, 0, none⟩) (show w.heap.size + 1 < W.heap.size by omega) (.int .i64 k)).setBelow (a := ⟨w.heap.size + 1, 1, none⟩) (show w.heap.size + 1 < W.heap.size by omega) (.int .i64 R)).setBelow (a := ⟨w.heap.size + 1, 2, none⟩) (show w.heap.size + 1 < W.heap.size by omega) (.slice a n c))
  have hBf := Lib.hid (below_set3 (Below.stepL b0 b1') (Nat.le_succ w.heap.size) (.int .i64 k) (.int .i64 R) (.slice a n c))
  clear hx b1 b1'
  go_wp2
  exact bodyPost_ret (v := .agg #[.int .i64 k, .int .i64 R, .slice a n c]) (by simp [results, Tryz.results11, go_sem, y0, y1, y2]) rfl ⟨_, rfl, hBf.out, a, n, c, rfl, hE.out.mono (show w.heap.size ≤ W.heap.size by omega)⟩

/-- edenraw.KeptRule at a lent rule. -/
theorem keptRule_any (B : Nat) (k R : Int) (a : Option Addr) (n c : Nat) (va : Option Addr) (vn vc : Nat) (T : List Int) (w : World) (h : LentI B w (.slice a n c) T) (h' : IntsAt w (.slice va vn vc) T) (hl : T.length ≤ 17592186044414) :
    Calls Tryz.prog 16 #[.agg #[.int .i64 k, .int .i64 R, .slice a n c], .agg #[.int .i64 k, .int .i64 R, .slice va vn vc]] w (Ret1 (fun x _ => x = .bool true) w) := by
  have b0 := Below.step (belowAlloc w (.cells #[.int .i64 k, .int .i64 R, .slice a n c] 24)) (belowAlloc _ (.cells #[.int .i64 k, .int .i64 R, .slice va vn vc] 24))
  replace h := Lib.hid (h.below b0)
  replace h' := Lib.hid (h'.below b0)
  have e1 : (k == k) = true := by simp
  have e2 : (R == R) = true := by simp
  go_enter Tryz.func16, Tryz.ntmps16
  go_wp2_with fail
  refine (kept_any B _ _ T _ h.out h'.out hl).mono ?_
  rintro e w1 h1
  obtain ⟨rfl, b1⟩ := h1.below
  have hB := Lib.hid (Below.step b0 b1)
  clear h1
  go_wp2
  go_ret
  exact ⟨_, rfl, hB.out, rfl⟩
end Go.Proofs.YtmhiambkfdkkbaaGreatDoor
