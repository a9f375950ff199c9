/-
  Walks: pairs.Graph at what is no small rule; pairs.Apart.
  Walks: edenref13.Odd, Graph, Apart.
  Walks: edenref07.At, Piece, after, Image, Equal, Check.
  Walks: edenref07.Equal, Check, edenref14.Witness at rows that are right.
  pairs.Graph, pairs.Apart, edenref13.Graph, edenref13.Apart at any rule: one name for what both answer.
  Walks: the two functions within pairs.Words.
  Walk: pairs.Words.
  Walk: inject.loops: which vertices stand on a loop.
  Plain mathematics: the breadth first queue as a function, the first vertex of it that is wanted.
  Walk: inject.near: the nearest vertex on a loop.
-/
import Derived.Test.YtilpckngghffoaaGreatDoorMIt7
namespace Go.Proofs.YtilpckngghffoaaGreatDoor
open Go.RowKit
set_option maxRecDepth 100000

theorem oddTo_ok {G : List (List Int)} (hok : GraphOk G) : ∀ k, k ≤ G.length → oddTo G k < 0
  | 0, _ => by simp [oddTo]
  | k + 1, hk => oddTo_miss (oddTo_ok hok k (by omega)) fun t ht => by
    have := hok k (by omega) t ht
    simp [oddT]; omega
theorem checkG_ok {G : List (List Int)} (h1 : G.length ≤ 8192) (h2 : arrowsTo G G.length ≤ 262144) (hok : GraphOk G) : checkG G = none := by
  unfold checkG
  rw [if_neg (by omega), if_neg (by omega), if_neg (by have := oddTo_ok hok G.length (Nat.le_refl _); omega)]
section
variable {K N : Nat} {T : List Int}
theorem pairG_len : (pairG K N T).length = N * N := rowsOf_len _ _
theorem pairG_row {p : Nat} (hp : p < N * N) : (pairG K N T).getD p [] = castI (pairL K N T p) := rowsOf_get _ _ _ hp
theorem pairG_adj {p : Nat} (hp : p < N * N) : adjOf (pairG K N T) p = pairL K N T p := by
  unfold adjOf
  rw [pairG_row hp, castI, List.map_map]
  exact List.map_id _
theorem pairG_ok (hN : 0 < N) : GraphOk (pairG K N T) := by
  intro v hv t ht
  rw [pairG_len] at hv
  rw [pairG_row hv] at ht
  obtain ⟨q, hq, rfl⟩ := List.mem_map.1 ht
  have := ((mem_pairL hN).1 hq).lt hN
  rw [pairG_len]
  omega
theorem pairG_arrows : ∀ k, k ≤ N * N → arrowsTo (pairG K N T) k ≤ k * (K * K)
  | 0, _ => by simp [arrowsTo]
  | k + 1, hk => by
    have := pairG_arrows k (by omega)
    simp only [arrowsTo]
    rw [pairG_row (by omega), castI_len, Nat.add_mul]
    have := pairL_len K N T k
    omega
theorem pairG_check (hN : 0 < N) (hN81 : N ≤ 81) (hNK : N * K ≤ 256) : checkG (pairG K N T) = none := by
  refine checkG_ok ?_ ?_ (pairG_ok hN)
  · rw [pairG_len]; have := Nat.mul_le_mul hN81 hN81; omega
  · rw [pairG_len]
    have := pairG_arrows (K := K) (N := N) (T := T) (N * N) (Nat.le_refl _)
    have h2 := Nat.mul_le_mul hNK hNK
    rw [show N * K * (N * K) = N * N * (K * K) by rw [Nat.mul_assoc, Nat.mul_left_comm K, ← Nat.mul_assoc]] at h2
    omega
theorem pairG_goes (hN : 0 < N) {x y : Nat} (h : Goes (pairL K N T) x y) (hx : x < N * N) : Goes (adjOf (pairG K N T)) x y ∧ y < N * N := by
  induction h with
  | refl => exact ⟨.refl _, hx⟩
  | step h hz ih =>
    exact ⟨.step ih.1 (by rw [pairG_adj ih.2]; exact hz), ((mem_pairL hN).1 hz).lt hN⟩
end
/-- The pairs of equal nodes are live. -/
theorem diag_live {K R : Nat} {T : List Int} {u : Nat} (hK : 1 ≤ K) (hu : u < pw K (2 * R)) : IsLive (pw K (2 * R) * pw K (2 * R)) (adjOf (pairG K (pw K (2 * R)) T)) (u * pw K (2 * R) + u) := by
  have hp := pair_lt hu hu
  have hN : 0 < pw K (2 * R) := by omega
  have ht := toN_lt (K := K) (u := u) (s := 0) hN
  have hl : OnLoop (adjOf (pairG K (pw K (2 * R)) T)) (u * pw K (2 * R) + u) :=
    ⟨toN K (pw K (2 * R)) u 0 * pw K (2 * R) + toN K (pw K (2 * R)) u 0, by rw [pairG_adj hp]; exact diag_arr hu hK, (pairG_goes hN (diag_goes hK ht hu) (pair_lt ht ht)).1⟩
  exact ⟨⟨_, hp, hl, .refl _⟩, ⟨_, hp, hl, .refl _⟩⟩

theorem pgraph_bad (r : Nat → Addr) (k R : Int) (va : Option Addr) (vn vc : Nat) (T : List Int) (t : Int × List (ByteArray × Int)) (w : World) (hg : Glob r w) (h : IntsAt w (.slice va vn vc) T) (hc : smallP k R T = some t) :
    Calls Tryz.prog 35 #[.agg #[.int .i64 k, .int .i64 R, .slice va vn vc]] w (Ret2 (fun x y w' => x = .slice none 0 0 ∧ ErrIs r w' (under sPairs 0 (some t)) y) w) := by
  have b0 := belowAlloc w (.cells #[.int .i64 k, .int .i64 R, .slice va vn vc] 24)
  replace hg := Lib.hid (hg.below b0)
  replace h := Lib.hid (h.below b0)
  replace hc := Lib.hid hc
  go_enter Tryz.func35, Tryz.ntmps35
  go_wp2_with fail
  refine (working_bad r k R va vn vc T t _ hg.out h.out hc.out).mono ?_
  rintro e w1 ⟨x, y, rfl, b1, rfl, hy⟩
  obtain ⟨T2, a2, rfl⟩ : ∃ T a, y = .iface T (.pointer (some a)) := by
    unfold under at hy
    exact ErrIs.some_shape hy
  have ba := belowAlloc w1 (.cells #[.int .i64 0, .int .i64 0, .slice none 0 0] 24)
  have hy2 := hy.below ba
  replace hy := Lib.hid hy
  replace hy2 := Lib.hid hy2
  go_wp2
  go_ret2
  exact ⟨_, _, rfl, Below.step b0 (Below.step b1 ba), rfl, hy2.out⟩

set_option maxHeartbeats 1000000 in
theorem papart_ok (r : Nat → Addr) (K R : Nat) (va : Option Addr) (vn vc : Nat) (T : List Int) (w : World) (hg : Glob r w) (h : IntsAt w (.slice va vn vc) T) (hr : RuleOk K R T) (hl : T.length ≤ 256) :
    Calls Tryz.prog 55 #[.agg #[.int .i64 K, .int .i64 R, .slice va vn vc]] w (Ret2 (fun x y w' => y = .nilIface ∧ ∃ L, LiveList (pw K (2 * wkR R) * pw K (2 * wkR R)) (adjOf (pairG K (pw K (2 * wkR R)) (wkT K R T))) L ∧ OwnI w.heap.size w' x (castI (L.filter fun p => !decide (Diag (pw K (2 * wkR R)) p)))) w) := by
  have b0 := belowAlloc w (.cells #[.int .i64 K, .int .i64 R, .slice va vn vc] 24)
  have q : Box3 (w.alloc (.cells #[.int .i64 K, .int .i64 R, .slice va vn vc] 24)) w.heap.size (.int .i64 K) (.int .i64 R) (.slice va vn vc) := by simp [Box3, go_sem]
  have hk1 := hr.k1
  have hk4 := hr.k4
  have hokW := wk_ok hr
  have hlW := wk_small hr hl
  have hRW := wk_pos R
  have hN81 := nodes_le hokW hRW hlW
  obtain ⟨hdiv, hlen⟩ := hokW.half
  have hN1 := pw_pos (K := K) (2 * wkR R) hk1
  have hNK : pw K (2 * wkR R) * K ≤ 256 := by rw [← hlen]; exact hlW
  have hck := pairG_check (K := K) (N := pw K (2 * wkR R)) (T := wkT K R T) (by omega) hN81 hNK
  have hlive0 := diag_live (K := K) (R := wkR R) (T := wkT K R T) (u := 0) hk1 (by omega)
  have hgraph := fun (w' : World) (hgl : Glob r w') (hT : IntsAt w' (.slice va vn vc) T) => pgraph_ok r K R va vn vc T w' hgl hT hr hl
  have hwork := fun (w' : World) (hgl : Glob r w') (hT : IntsAt w' (.slice va vn vc) T) => working_ok r K R va vn vc T w' hgl hT hr hl
  have hNodes := fun (a : Option Addr) (n c : Nat) (w' : World) (hgl : Glob r w') (hT : IntsAt w' (.slice a n c) (wkT K R T)) => over_Nodes r K (wkR R) a n c (wkT K R T) w' hgl hT hokW hlW
  rw [hdiv] at hNodes
  generalize pw K (2 * wkR R) = N at *
  generalize wkT K R T = T' at *
  generalize wkR R = R' at *
  rw [Nat.zero_mul, Nat.zero_add] at hlive0
  replace hgraph := Lib.hid hgraph
  replace hwork := Lib.hid hwork
  replace hNodes := Lib.hid hNodes
  replace hck := Lib.hid hck
  replace hlive0 := Lib.hid hlive0
  replace hg := Lib.hid (hg.below b0)
  replace h := Lib.hid (h.below b0)
  replace hokW := Lib.hid hokW
  replace hr := Lib.hid hr
  replace hdiv := Lib.hid hdiv
  replace hlen := Lib.hid hlen
  go_enter Tryz.func55, Tryz.ntmps55
  go_wp2_with fail
  refine (hgraph.out _ hg.out h.out).mono ?_
  rintro e w1 ⟨gv, y, rfl, b1, rfl, f, vals, hrows, hwn⟩
  have hL : ListsAt w1 gv (pairG K N T') := hwn.lists hrows
  obtain ⟨ga, gc, rfl⟩ := hL.shape
  have hsz : ∀ k, k < (pairG K N T').length → ((pairG K N T').getD k []).length ≤ 17592186044416 := fun k hk => by
    rw [pairG_len] at hk
    rw [pairG_row hk, castI_len]
    have := pairL_len K N T' k
    have := Nat.mul_le_mul hk4 hk4
    omega
  have hM6 : N * N ≤ 6561 := Nat.mul_le_mul hN81 hN81
  replace hrows := Lib.hid hrows
  replace hwn := Lib.hid hwn
  replace hL := Lib.hid hL
  replace hsz := Lib.hid hsz
  go_wp2_with fail
  refine (live_any r ga gc (pairG K N T') w1 (hg.out.below b1) hL.out hsz.out).mono ?_
  rintro e w2 ⟨lv, y, rfl, b2, he, hls, _⟩
  rw [hck.out] at he hls
  obtain rfl := he.none_eq
  obtain ⟨L, hLL, ho⟩ := hls rfl
  rw [pairG_len] at hLL
  clear hls he
  have b12 := Below.step b1 b2
  have q2 := q.below b12
  obtain ⟨⟨z0, z1, z2⟩, -, -, -⟩ := q2
  replace hLL := Lib.hid hLL
  replace ho := Lib.hid ho
  go_wp2_with fail
  refine (hwork.out w2 (hg.out.below b12) (h.out.below b12)).mono ?_
  rintro e w3 ⟨x, y, rfl, b3, rfl, a, n, c, rfl, hT3⟩
  clear z0 z1 z2
  have b13 := Below.step b12 b3
  have ba := belowAlloc w3 (.cells #[.int .i64 K, .int .i64 R', .slice a n c] 24)
  have b14 := Below.step b13 ba
  have hT4 := hT3.below ba
  replace hT3 := Lib.hid hT3
  replace hT4 := Lib.hid hT4
  go_wp2_with fail
  refine (hNodes.out a n c _ (hg.out.below b14) hT4.out).mono ?_
  rintro e w5 ⟨x, y, rfl, b5, rfl, rfl⟩
  have b15 := Below.step b14 b5
  have bb := belowAlloc w5 (.cells #[.int .i64 N] 3)
  have b16 := Below.step b15 bb
  have b26 := Below.step b3 (Below.step ba (Below.step b5 bb))
  have ho6 := ho.out.below b26
  have cN : (w5.alloc (.cells #[.int .i64 N] 3)).cell? ⟨w5.heap.size, 0, none⟩ = some (.int .i64 N) := by simp [go_sem]
  have hne : lv.ownBlock ≠ some w5.heap.size := fun e => by
    have h1 := (ho.out.lt _ e).2
    have h2 := (Below.step b3 (Below.step ba b5)).size
    omega
  have hLne : castI L ≠ [] := fun e => by
    have : L = [] := by cases L with | nil => rfl | cons a l => simp [castI] at e
    have h0 := (hLL.out.mem 0).2 ⟨by have := Nat.mul_le_mul hN1 hN1; omega, hlive0.out⟩
    rw [this] at h0; cases h0
  replace ho6 := Lib.hid ho6
  replace hne := Lib.hid hne
  replace hLne := Lib.hid hLne
  replace cN := Lib.hid cN
  go_wp2_with fail
  refine (delete_own w1.heap.size lv (castI L) w5.heap.size N _ ho6.out hLne.out hN1 cN.out hne.out).mono ?_
  rintro e w7 ⟨x, rfl, _, ho7, b7⟩
  have hF : (castI L).filter (fun x => !dgI N x) = castI (L.filter fun p => !decide (Diag N p)) := by
    unfold castI
    rw [List.filter_map]
    congr 1
    refine List.filter_congr fun p hp => ?_
    have := ((hLL.out.mem p).1 hp).1
    show (!dgI N (p : Int)) = _
    rw [dgI_nat (by omega)]
  rw [hF] at ho7
  obtain ⟨xa, xn, xc, rfl⟩ := ho7.at.shape
  have ho8 := ho7.mono (B' := w.heap.size) (Nat.le_trans b0.size b1.size)
  have bE := (Below.step b0 b1).trans ((Below.step b2 b26).trans b7 |>.mono (Nat.le_trans b0.size b1.size))
  replace ho7 := Lib.hid ho7
  replace ho8 := Lib.hid ho8
  replace hF := Lib.hid hF
  go_wp2
  go_ret2
  exact ⟨_, _, rfl, bE, rfl, L, hLL.out, ho8.out⟩
end Go.Proofs.YtilpckngghffoaaGreatDoor

namespace Go.Proofs.YtilpckngghffoaaGreatDoor
open Go.RowKit
set_option maxRecDepth 100000

theorem sorted_len9 : ∀ {L : List Nat} {lo n : Nat}, L.Pairwise (· < ·) → (∀ v ∈ L, lo ≤ v ∧ v < n) → L.length ≤ n - lo
  | [], _, _, _, _ => by simp
  | a :: L, lo, n, h, k => by
    have h1 := k a (by simp)
    have h2 := List.pairwise_cons.1 h
    have := sorted_len9 (lo := a + 1) (n := n) h2.2 (fun v hv => ⟨h2.1 v hv, (k v (by simp [hv])).2⟩)
    simp; omega
theorem live_len9 {n : Nat} {adj : Nat → List Nat} {L : List Nat} (h : LiveList n adj L) : L.length ≤ n :=
  Nat.le_trans (sorted_len9 (lo := 0) (n := n) h.sorted (fun v hv => ⟨Nat.zero_le _, ((h.mem v).1 hv).1⟩)) (by omega)
theorem ListsFrom.shape {B : Nat} {w : World} {v : Value} {G : List (List Int)} (h : ListsFrom B w v G) : ∃ a c, v = .slice a G.length c := h.at.shape
theorem ListsFrom.mono {B B' : Nat} {w : World} {v : Value} {G : List (List Int)} (h : ListsFrom B w v G) (hB : B' ≤ B) : ListsFrom B' w v G := by
  obtain ⟨vs, h1, h2, h3⟩ := h
  exact ⟨vs, h1.mono hB, h2, fun i hi => (h3 i hi).mono hB⟩
theorem ListsFrom.set3 {B b : Nat} {w : World} {v : Value} {G : List (List Int)} (h : ListsFrom B w v G) (hb : b < B) (x y z : Value) : ListsFrom B (((w.setCell ⟨b, 0, none⟩ x).setCell ⟨b, 1, none⟩ y).setCell ⟨b, 2, none⟩ z) v G :=
  ((h.set (a := ⟨b, 0, none⟩) hb x).set (a := ⟨b, 1, none⟩) hb y).set (a := ⟨b, 2, none⟩) hb z
theorem diag_bne (N p : Nat) : (((p / N : Nat) : Int) != ((p % N : Nat) : Int)) = !decide (Diag N p) := by
  by_cases e : p / N = p % N
  · rw [decide_eq_true (show Diag N p from e), e]; simp
  · rw [decide_eq_false (show ¬ Diag N p from e)]
    generalize p / N = a at *
    generalize p % N = b at *
    simp only [Bool.not_false, bne_iff_ne]
    omega
theorem dm9 (p N : Nat) (hp : p ≤ 100000000) : (p : Int).tdiv (N : Int) = ((p / N : Nat) : Int) ∧ (p : Int).tmod (N : Int) = ((p % N : Nat) : Int) ∧ (p : Int) / (N : Int) = ((p / N : Nat) : Int) ∧ (p : Int) % (N : Int) = ((p % N : Nat) : Int) ∧
    IntKind.i64.wrap ((p / N : Nat) : Int) = ((p / N : Nat) : Int) ∧ IntKind.i64.wrap ((p % N : Nat) : Int) = ((p % N : Nat) : Int) := by
  have h1 : p / N ≤ p := Nat.div_le_self _ _
  have h2 : p % N ≤ p := Nat.mod_le _ _
  refine ⟨by rw [Int.tdiv_eq_ediv_of_nonneg (by omega)]; simp, by rw [Int.tmod_eq_emod_of_nonneg (by omega)]; simp, by simp, by simp, ?_, ?_⟩
  · generalize p / N = a at *; exact wrapK (by omega) (by omega)
  · generalize p % N = a at *; exact wrapK (by omega) (by omega)
theorem pairG_small {K N : Nat} {T : List Int} (hk4 : K ≤ 4) : ∀ k, k < (pairG K N T).length → ((pairG K N T).getD k []).length ≤ 17592186044416 := fun k hk => by
  rw [pairG_len] at hk
  rw [pairG_row hk, castI_len]
  have := pairL_len K N T k
  have := Nat.mul_le_mul hk4 hk4
  omega

set_option maxHeartbeats 4000000 in
theorem ref_odd (K R : Nat) (va : Option Addr) (vn vc : Nat) (T : List Int) (w : World) (h : IntsAt w (.slice va vn vc) T) (hr : RuleOk K R T) (hR : 1 ≤ R) (hl : T.length ≤ 256) :
    Calls Tryz.prog 119 #[.agg #[.int .i64 K, .int .i64 R, .slice va vn vc]] w (Ret1 (fun x w' => ∃ L, LiveList (pw K (2 * R) * pw K (2 * R)) (adjOf (pairG K (pw K (2 * R)) T)) L ∧ OwnI w.heap.size w' x (castI (L.filter fun p => !decide (Diag (pw K (2 * R)) p)))) w) := by
  have b0 := belowAlloc w (.cells #[.int .i64 K, .int .i64 R, .slice va vn vc] 24)
  have q : Box3 (w.alloc (.cells #[.int .i64 K, .int .i64 R, .slice va vn vc] 24)) w.heap.size (.int .i64 K) (.int .i64 R) (.slice va vn vc) := by simp [Box3, go_sem]
  have hk1 := hr.k1
  have hk4 := hr.k4
  have hR3 := hr.r3
  have hN81 := nodes_le hr hR hl
  have hN1 := pw_pos (K := K) (2 * R) hk1
  obtain ⟨hdiv, hlen⟩ := hr.half
  have hNK : pw K (2 * R) * K ≤ 256 := by rw [← hlen]; exact hl
  have hck := pairG_check (K := K) (N := pw K (2 * R)) (T := T) (by omega) hN81 hNK
  have hcnt := fun (w' : World) => ref_count K R va vn vc w' hk1 hk4 hR3
  have hall := fun (w' : World) (h' : IntsAt w' (.slice va vn vc) T) => ref_all K R va vn vc T w' h' hr hR hl
  have hlive := fun (ga : Option Addr) (gc : Nat) (w' : World) (h' : ListsAt w' (.slice ga (pairG K (pw K (2 * R)) T).length gc) (pairG K (pw K (2 * R)) T)) => ref12_live ga gc (pairG K (pw K (2 * R)) T) w' h' (pairG_small hk4)
  have hgl := pairG_len (K := K) (N := pw K (2 * R)) (T := T)
  rw [hck] at hlive
  rw [hgl] at hlive
  generalize hN9 : pw K (2 * R) = N at *
  generalize hG : pairG K N T = G at *
  generalize hM : N * N = M at *
  have hM6 : M ≤ 6561 := by rw [← hM]; exact Nat.mul_le_mul hN81 hN81
  replace h := Lib.hid (h.below b0)
  replace hr := Lib.hid hr
  replace hcnt := Lib.hid hcnt
  replace hall := Lib.hid hall
  replace hlive := Lib.hid hlive
  replace hN9 := Lib.hid hN9
  replace hM := Lib.hid hM
  replace hG := Lib.hid hG
  replace hgl := Lib.hid hgl
  replace hck := Lib.hid hck
  clear hdiv hlen hNK
  have q0 := q
  obtain ⟨⟨z0, z1, z2⟩, -, -, -⟩ := q0
  go_enter Tryz.func119, Tryz.ntmps119
  go_wp2_with fail
  refine (hcnt.out _).mono ?_
  rintro e W1 ⟨_, rfl, b1, rfl⟩
  clear z0 z1 z2
  obtain ⟨⟨z0, z1, z2⟩, -, -, -⟩ := q.below b1
  have b01 := Below.step b0 b1
  go_wp2_with fail
  refine (hall.out W1 (h.out.below b1)).mono ?_
  rintro e W2 ⟨gv, rfl, b2, hgv⟩
  obtain ⟨ga, gc, rfl⟩ := hgv.shape
  replace hgv := hgv.at
  rw [hgl.out] at hgv
  rw [hgl.out]
  have b02 := Below.step b01 b2
  replace hgv := Lib.hid hgv
  clear z0 z1 z2
  go_wp2_with fail
  refine (hlive.out ga gc W2 hgv.out).mono ?_
  rintro e W3 ⟨lv, y, rfl, b3, hE, hL, -⟩
  obtain rfl : y = .agg #[.int .i64 0, .slice none 0 0, .slice none 0 0] := hE
  obtain ⟨L, hLL, hlo⟩ := hL rfl
  have b03 := Below.step b02 b3
  have hlow : ∀ p ∈ L, p < M := fun p hp => ((hLL.mem p).1 hp).1
  have ba := belowAlloc W3 (.cells #[.int .i64 0, .slice none 0 0, .slice none 0 0] 33)
  obtain ⟨W4, hW4⟩ : ∃ W : World, W3.alloc (.cells #[.int .i64 0, .slice none 0 0, .slice none 0 0] 33) = W := ⟨_, rfl⟩
  have hl4 : IntsAt W4 lv (castI L) := by rw [← hW4]; exact hlo.at.below ba
  have b04 : Below w.heap.size w W4 := by rw [← hW4]; exact Below.step b03 ba
  have lL := hl4.len
  rw [castI_len] at lL
  have hLs : L.length ≤ 100000 := by
    have := live_len9 hLL
    omega
  obtain ⟨la, ln, lc, rfl⟩ := hl4.shape
  replace hLL := Lib.hid hLL
  replace hlow := Lib.hid hlow
  replace hl4 := Lib.hid hl4
  replace hW4 := Lib.hid hW4
  clear hlo ba
  go_upto_region 3 with fail
  rw [hW4.out]
  go_wp2_with fail
  go_loopw [6, 7] (fun ov iv wr => ∃ (i : Nat) (ow : Value), ow = ov ∧ iv = .int .i64 i ∧ i ≤ L.length ∧ OwnI W4.heap.size wr ow (castI ((L.take i).filter fun p => !decide (Diag N p))) ∧ Below W4.heap.size W4 wr) (fun _ iv _ => L.length - (intOf iv).toNat)
  case atStart => exact ⟨0, _, rfl, rfl, Nat.zero_le _, OwnI.nil _ _, Below.refl _ _⟩
  case round =>
    obtain ⟨i, ow, rfl, rfl, hi, hO, hB⟩ := hrel
    obtain ⟨wo, rfl⟩ : ∃ wo : World, wo = wr := ⟨_, rfl⟩
    by_cases hil : i < L.length
    · have diL : decide ((i : Int) < (L.length : Int)) = true := decide_eq_true (by omega)
      obtain ⟨p, hp⟩ : ∃ p, L[i]? = some p := ⟨_, List.getElem?_eq_getElem hil⟩
      have hpM := hlow.out p (List.mem_of_getElem? hp)
      obtain ⟨V, hV⟩ : ∃ V : World, wo.drew = V := ⟨_, rfl⟩
      have hBV : Below W4.heap.size W4 V := by rw [← hV]; exact hB.drew
      have hOV : OwnI W4.heap.size V ow (castI ((L.take i).filter fun p => !decide (Diag N p))) := by rw [← hV]; exact hO
      have hlV := hl4.out.below hBV
      have iL := fun w' => hlV.idx i (by rw [castI_len]; exact hil) w'
      have cL := hlV.cellD i (by rw [castI_len]; exact hil)
      rw [castI_get hp] at cL
      have htk : L.take (i + 1) = L.take i ++ [p] := by rw [List.take_add_one, hp]; rfl
      have hfl : ((L.take i).filter fun p => !decide (Diag N p)).length ≤ i := Nat.le_trans (List.length_filter_le _ _) (by rw [List.length_take]; omega)
      obtain ⟨e1, e2, e3, e4, e5, e6⟩ := dm9 p N (by omega)
      have hN3 : ¬ N = 0 := by omega
      have hN4 : ((N : Int) == 0) = false := by rw [beq_eq_false_iff_ne]; omega
      have hne := diag_bne N p
      have bVs := hBV.size
      generalize valAt (.slice la ln lc) i = xa at *
      have hS : V.cell? xa = some (.int .i64 p) := cL
      generalize p / N = pd at *
      generalize p % N = pm at *
      replace hV := Lib.hid hV
      replace hOV := Lib.hid hOV
      replace hO := Lib.hid hO
      replace hlV := Lib.hid hlV
      replace hp := Lib.hid hp
      replace htk := Lib.hid htk
      replace hne := Lib.hid hne
      go_upto_region 7 with fail
      refine wp_region_plan (fun w' => w'.cell? xa = some (.int .i64 p)) 12 [(0, true), (1, true), (2, true), (3, true), (4, true), (5, true), (6, true), (7, true), (8, true), (9, true), (10, true), (11, true)] (by kernel_rfl) (by kernel_rfl) ?_
      rw [hV.out]
      refine headY (v := ?_) (some 22) rfl rfl (Or.inl ⟨by rfl, ?_⟩) hS ?_
      rotate_left
      · rintro W' s0; go_simp; try with_reducible rfl
      simp only [Act.put, List.setIfInBounds_toArray, List.set_cons_zero, List.set_cons_succ]
      refine headY (v := ?_) (some 23) rfl rfl (Or.inl ⟨by rfl, ?_⟩) hS ?_
      rotate_left
      · rintro W' s0; go_simp; try with_reducible rfl
      simp only [Act.put, List.setIfInBounds_toArray, List.set_cons_zero, List.set_cons_succ]
      refine headY (v := ?_) (some 24) rfl rfl (Or.inl ⟨by rfl, ?_⟩) hS ?_
      rotate_left
      · rintro W' s0; go_simp; try with_reducible rfl
      simp only [Act.put, List.setIfInBounds_toArray, List.set_cons_zero, List.set_cons_succ]
      refine headY (v := ?_) (some 25) rfl rfl (Or.inl ⟨by rfl, ?_⟩) hS ?_
      rotate_left
      · rintro W' s0; go_simp; try with_reducible rfl
      simp only [Act.put, List.setIfInBounds_toArray, List.set_cons_zero, List.set_cons_succ]
      refine headY (v := ?_) (some 26) rfl rfl (Or.inl ⟨by rfl, ?_⟩) hS ?_
      rotate_left
      · rintro W' s0; go_simp; try with_reducible rfl
      simp only [Act.put, List.setIfInBounds_toArray, List.set_cons_zero, List.set_cons_succ]
      refine headY (v := ?_) (some 27) rfl rfl (Or.inl ⟨by rfl, ?_⟩) hS ?_
      rotate_left
      · rintro W' s0; go_simp; try with_reducible rfl
      simp only [Act.put, List.setIfInBounds_toArray, List.set_cons_zero, List.set_cons_succ]
      refine headY (v := ?_) (some 28) rfl rfl (Or.inl ⟨by rfl, ?_⟩) hS ?_
      rotate_left
      · rintro W' s0; go_simp; try with_reducible rfl
      simp only [Act.put, List.setIfInBounds_toArray, List.set_cons_zero, List.set_cons_succ]
      refine headY (v := ?_) (some 29) rfl rfl (Or.inl ⟨by rfl, ?_⟩) hS ?_
      rotate_left
      · rintro W' s0; go_simp; try with_reducible rfl
      simp only [Act.put, List.setIfInBounds_toArray, List.set_cons_zero, List.set_cons_succ]
      refine headY (v := ?_) (some 30) rfl rfl (Or.inl ⟨by rfl, ?_⟩) hS ?_
      rotate_left
      · rintro W' s0; go_simp; try with_reducible rfl
      simp only [Act.put, List.setIfInBounds_toArray, List.set_cons_zero, List.set_cons_succ]
      refine headY (v := ?_) (some 31) rfl rfl (Or.inl ⟨by rfl, ?_⟩) hS ?_
      rotate_left
      · rintro W' s0; go_simp; try with_reducible rfl
      simp only [Act.put, List.setIfInBounds_toArray, List.set_cons_zero, List.set_cons_succ]
      refine headY (v := ?_) (some 32) rfl rfl (Or.inl ⟨by rfl, ?_⟩) hS ?_
      rotate_left
      · rintro W' s0; go_simp; try with_reducible rfl
      simp only [Act.put, List.setIfInBounds_toArray, List.set_cons_zero, List.set_cons_succ]
      refine headY (v := ?_) (some 33) rfl rfl (Or.inl ⟨by rfl, ?_⟩) hS ?_
      rotate_left
      · rintro W' s0; go_simp; try with_reducible rfl
      simp only [Act.put, List.setIfInBounds_toArray, List.set_cons_zero, List.set_cons_succ]
      refine head0 ?_
      simp only [List.drop_succ_cons, List.drop_zero]
      clear hS
      by_cases hd : Diag N p
      · have hne2 := hne.out
        rw [decide_eq_true hd] at hne2
        replace hne2 : ((pd : Int) != (pm : Int)) = false := hne2
        have hO2 := hOV.out
        have : ((L.take (i + 1)).filter fun p => !decide (Diag N p)) = (L.take i).filter fun p => !decide (Diag N p) := by rw [htk.out, List.filter_append]; simp [hd]
        rw [← this] at hO2
        replace this := Lib.hid this
        replace hO2 := Lib.hid hO2
        replace hd := Lib.hid hd
        go_wp2
        refine NoPanic.normal ?_
        go_wp2
        go_roundw
        case measure => simp [intOf]; omega
        case rel => exact ⟨i + 1, _, rfl, by go_num, by omega, hO2.out, hBV⟩
      · have hne2 := hne.out
        rw [decide_eq_false hd] at hne2
        replace hne2 : ((pd : Int) != (pm : Int)) = true := hne2
        have : castI ((L.take i).filter fun p => !decide (Diag N p)) ++ [(p : Int)] = castI ((L.take (i + 1)).filter fun p => !decide (Diag N p)) := by rw [htk.out, List.filter_append]; simp [hd, castI]
        replace this := Lib.hid this
        replace hd := Lib.hid hd
        go_wp2
        refine NoPanic.normal ?_
        go_wp2_with (at_builtin; refine wpl_app1 rfl _ _ rfl W4.heap.size ow _ p hOV.out rfl rfl (by rw [castI_len]; omega) bVs ?_)
        intro v' w7 ho7 b7 _
        rw [this.out] at ho7
        obtain ⟨v7a, v7b, v7c, rfl⟩ := ho7.at.shape
        replace ho7 := Lib.hid ho7
        go_wp2
        go_roundw
        case measure => simp [intOf]; omega
        case rel => exact ⟨i + 1, _, rfl, by go_num, by omega, ho7.out, hBV.trans b7⟩
    · obtain rfl : i = L.length := by omega
      have diL : decide ((L.length : Int) < (L.length : Int)) = false := decide_eq_false (by omega)
      rw [List.take_length] at hO
      obtain ⟨oa, on, oc, rfl⟩ := hO.at.shape
      have bE := b04.trans (hB.mono b04.size)
      replace hO := Lib.hid hO
      go_wp2
      go_ret
      exact ⟨_, rfl, bE, L, hLL.out, hO.out.mono b04.size⟩


set_option maxHeartbeats 2000000 in
theorem ref13_apart_bad (k R : Int) (va : Option Addr) (vn vc : Nat) (T : List Int) (t : Int × List (ByteArray × Int)) (w : World) (h : IntsAt w (.slice va vn vc) T) (hc : smallP k R T = some t) :
    Calls Tryz.prog 71 #[.agg #[.int .i64 k, .int .i64 R, .slice va vn vc]] w (Ret2 (fun x y w' => x = .slice none 0 0 ∧ EOwn w.heap.size w' (under sPairs 0 (some t)) y) w) := by
  have bA := Below.step (belowAlloc w (.cells #[.int .i64 k, .int .i64 R, .slice va vn vc] 24)) (belowAlloc _ (.cells #[.int .i64 0, .slice none 0 0, .slice none 0 0] 33))
  have qA : Box3 ((w.alloc (.cells #[.int .i64 k, .int .i64 R, .slice va vn vc] 24)).alloc (.cells #[.int .i64 0, .slice none 0 0, .slice none 0 0] 33)) w.heap.size (.int .i64 k) (.int .i64 R) (.slice va vn vc) := by simp [Box3, go_sem]
  have q4 : Box3 ((w.alloc (.cells #[.int .i64 k, .int .i64 R, .slice va vn vc] 24)).alloc (.cells #[.int .i64 0, .slice none 0 0, .slice none 0 0] 33)) (w.heap.size + 1) (.int .i64 0) (.slice none 0 0) (.slice none 0 0) := by simp [Box3, go_sem]
  have s0 : ((w.alloc (.cells #[.int .i64 k, .int .i64 R, .slice va vn vc] 24)).alloc (.cells #[.int .i64 0, .slice none 0 0, .slice none 0 0] 33)).heap.size = w.heap.size + 2 := by simp
  obtain ⟨WA, hWA⟩ : ∃ W : World, ((w.alloc (.cells #[.int .i64 k, .int .i64 R, .slice va vn vc] 24)).alloc (.cells #[.int .i64 0, .slice none 0 0, .slice none 0 0] 33)) = W := ⟨_, rfl⟩
  replace h := h.below bA
  rw [hWA] at h bA qA q4 s0
  replace h := Lib.hid h
  replace s0 := Lib.hid s0
  replace hWA := Lib.hid hWA
  have qA0 := qA
  obtain ⟨⟨z0, z1, z2⟩, -, -, -⟩ := qA0
  replace hc := Lib.hid hc
  go_enter Tryz.func71, Tryz.ntmps71
  go_upto_region 1 with fail
  rw [hWA.out]
  go_wp2_with fail
  refine (ref08_fault _ k R va vn vc T WA h.out).mono ?_
  rintro e w1 ⟨x, rfl, b1, he⟩
  rw [hc.out] at he
  obtain ⟨n, l⟩ := t
  have hn := smallP_num hc.out
  have he' := he
  obtain ⟨a1, n1, c1, a2, n2, c2, rfl, _, _⟩ := he'
  obtain ⟨be, ⟨⟨y0, y1, y2⟩, -, -, -⟩⟩ := err_box8 w1 (.int .i64 n) (.slice a1 n1 c1) (.slice a2 n2 c2)
  have c1e := Below.step b1 be
  have hs1 := b1.size
  rw [s0.out] at hs1
  have hn0 : (n != 0) = true := by rw [bne_iff_ne]; omega
  have heb := he.below be
  obtain ⟨W2, hW2⟩ : ∃ W2 : World, w1.alloc (.cells #[.int .i64 n, .slice a1 n1 c1, .slice a2 n2 c2] 33) = W2 := ⟨_, rfl⟩
  rw [hW2] at be c1e heb y0 y1 y2
  replace hW2 := Lib.hid hW2
  replace he := Lib.hid he
  replace heb := Lib.hid heb
  clear z0 z1 z2
  go_upto_region 2 with fail
  rw [hW2.out]
  go_wp2_with fail
  refine (err_bad _ _ _ _ _ _ _ W2).mono ?_
  rintro e w3 ⟨_, rfl, b3, rfl⟩
  rw [hn0]
  have hey := heb.out.below b3
  have c3 := Below.step c1e b3
  obtain ⟨W, hW⟩ : ∃ W : World, w3.drew = W := ⟨_, rfl⟩
  have c4 : Below WA.heap.size WA W := by rw [← hW]; exact c3.drew
  have heW : EOwn WA.heap.size W (under sPairs 0 (some (n, l))) (.agg #[.int .i64 n, .slice a1 n1 c1, .slice a2 n2 c2]) := by rw [← hW]; exact hey.drew
  have hS : W.cell? ⟨w1.heap.size, 0, none⟩ = some (.int .i64 n) ∧ W.cell? ⟨w1.heap.size, 1, none⟩ = some (.slice a1 n1 c1) ∧ W.cell? ⟨w1.heap.size, 2, none⟩ = some (.slice a2 n2 c2) := by
    rw [← hW]
    exact ⟨(b3.cell (World.block_lt_of_cell? _ _ y0)).trans y0, (b3.cell (World.block_lt_of_cell? _ _ y1)).trans y1, (b3.cell (World.block_lt_of_cell? _ _ y2)).trans y2⟩
  obtain ⟨⟨u0, u1, u2⟩, f0, f1, f2⟩ := q4.below c4
  have sW := c4.size
  rw [s0.out] at sW
  replace hW := Lib.hid hW
  replace hey := Lib.hid hey
  replace heW := Lib.hid heW
  clear y0 y1 y2
  go_upto_region 3 with fail
  refine wp_region_plan (fun w' => w'.cell? ⟨w1.heap.size, 0, none⟩ = some (.int .i64 n) ∧ w'.cell? ⟨w1.heap.size, 1, none⟩ = some (.slice a1 n1 c1) ∧ w'.cell? ⟨w1.heap.size, 2, none⟩ = some (.slice a2 n2 c2)) 2 [(0, true), (1, true)] (by kernel_rfl) (by kernel_rfl) ?_
  rw [hW.out]
  refine headY (v := ?_) (some 9) rfl rfl (Or.inl ⟨by rfl, ?_⟩) hS ?_
  rotate_left
  · rintro W' ⟨s0, s1, s2⟩; go_simp; try with_reducible rfl
  simp only [Act.put, List.setIfInBounds_toArray, List.set_cons_zero, List.set_cons_succ]
  refine headY (v := ?_) (some 2) rfl rfl (Or.inl ⟨by rfl, ?_⟩) hS ?_
  rotate_left
  · rintro W' ⟨s0, s1, s2⟩; go_simp; try with_reducible rfl
  simp only [Act.put, List.setIfInBounds_toArray, List.set_cons_zero, List.set_cons_succ]
  refine head0 ?_
  simp only [List.drop_succ_cons, List.drop_zero]
  clear hS
  go_wp2
  refine NoPanic.normal ?_
  go_wp2
  (try simp only [Exit.inBlock, Exit.then])
  refine bodyPost_ret (v := .tuple #[.slice none 0 0, .agg #[.int .i64 n, .slice a1 n1 c1, .slice a2 n2 c2]]) (by simp [results, Tryz.results71, go_sem, u0, u1, u2]) rfl ⟨_, _, rfl, below_set3 (Below.step bA c4) (by omega) _ _ _, rfl, ?_⟩
  have := s0.out
  exact (heW.out.set3 (by omega) _ _ _).mono (by omega)

set_option maxHeartbeats 2000000 in
theorem ref13_apart_ok (K R : Nat) (va : Option Addr) (vn vc : Nat) (T : List Int) (w : World) (h : IntsAt w (.slice va vn vc) T) (hr : RuleOk K R T) (hl : T.length ≤ 256) :
    Calls Tryz.prog 71 #[.agg #[.int .i64 K, .int .i64 R, .slice va vn vc]] w (Ret2 (fun x y w' => y = .agg #[.int .i64 0, .slice none 0 0, .slice none 0 0] ∧ ∃ L, LiveList (pw K (2 * wkR R) * pw K (2 * wkR R)) (adjOf (pairG K (pw K (2 * wkR R)) (wkT K R T))) L ∧ OwnI w.heap.size w' x (castI (L.filter fun p => !decide (Diag (pw K (2 * wkR R)) p)))) w) := by
  have bA := Below.step (belowAlloc w (.cells #[.int .i64 K, .int .i64 R, .slice va vn vc] 24)) (belowAlloc _ (.cells #[.int .i64 0, .slice none 0 0, .slice none 0 0] 33))
  have qA : Box3 ((w.alloc (.cells #[.int .i64 K, .int .i64 R, .slice va vn vc] 24)).alloc (.cells #[.int .i64 0, .slice none 0 0, .slice none 0 0] 33)) w.heap.size (.int .i64 K) (.int .i64 R) (.slice va vn vc) := by simp [Box3, go_sem]
  have q4 : Box3 ((w.alloc (.cells #[.int .i64 K, .int .i64 R, .slice va vn vc] 24)).alloc (.cells #[.int .i64 0, .slice none 0 0, .slice none 0 0] 33)) (w.heap.size + 1) (.int .i64 0) (.slice none 0 0) (.slice none 0 0) := by simp [Box3, go_sem]
  have s0 : ((w.alloc (.cells #[.int .i64 K, .int .i64 R, .slice va vn vc] 24)).alloc (.cells #[.int .i64 0, .slice none 0 0, .slice none 0 0] 33)).heap.size = w.heap.size + 2 := by simp
  obtain ⟨WA, hWA⟩ : ∃ W : World, ((w.alloc (.cells #[.int .i64 K, .int .i64 R, .slice va vn vc] 24)).alloc (.cells #[.int .i64 0, .slice none 0 0, .slice none 0 0] 33)) = W := ⟨_, rfl⟩
  replace h := h.below bA
  rw [hWA] at h bA qA q4 s0
  replace h := Lib.hid h
  replace s0 := Lib.hid s0
  replace hWA := Lib.hid hWA
  have qA0 := qA
  obtain ⟨⟨z0, z1, z2⟩, -, -, -⟩ := qA0
  have hsm : smallP K R T = none := by rw [smallP_ok hr, if_neg (by omega)]
  have hwork := fun (w' : World) (h' : IntsAt w' (.slice va vn vc) T) => ref_working K R va vn vc T w' h' hr
  have hcall := fun (a : Option Addr) (n c : Nat) (w' : World) (h' : IntsAt w' (.slice a n c) (wkT K R T)) => ref_odd K (wkR R) a n c (wkT K R T) w' h' (wk_ok hr) (wk_pos R) (wk_small hr hl)
  replace hsm := Lib.hid hsm
  replace hwork := Lib.hid hwork
  replace hcall := Lib.hid hcall
  replace hr := Lib.hid hr
  go_enter Tryz.func71, Tryz.ntmps71
  go_upto_region 1 with fail
  rw [hWA.out]
  go_wp2_with fail
  refine (ref08_fault _ K R va vn vc T WA h.out).mono ?_
  rintro e w1 ⟨x, rfl, b1, he⟩
  rw [hsm.out] at he
  obtain rfl : x = .agg #[.int .i64 0, .slice none 0 0, .slice none 0 0] := he
  obtain ⟨be, ⟨⟨y0, y1, y2⟩, -, -, -⟩⟩ := err_box8 w1 (.int .i64 0) (.slice none 0 0) (.slice none 0 0)
  have c1e := Below.step b1 be
  obtain ⟨W2, hW2⟩ : ∃ W2 : World, w1.alloc (.cells #[.int .i64 0, .slice none 0 0, .slice none 0 0] 33) = W2 := ⟨_, rfl⟩
  rw [hW2] at be c1e y0 y1 y2
  replace hW2 := Lib.hid hW2
  clear z0 z1 z2
  go_upto_region 2 with fail
  rw [hW2.out]
  go_wp2_with fail
  refine (err_bad _ _ _ _ _ _ _ W2).mono ?_
  rintro e w3 ⟨_, rfl, b3, rfl⟩
  rw [show ((0 : Int) != 0) = false from rfl]
  have c3 := Below.step c1e b3
  clear y0 y1 y2
  obtain ⟨⟨z0, z1, z2⟩, -, -, -⟩ := qA.below c3
  go_wp2_with fail
  refine (hwork.out w3 (h.out.below c3)).mono ?_
  rintro e w4 ⟨_, rfl, b4, a, n, c, rfl, hT⟩
  have c4 := Below.step c3 b4
  replace hT := Lib.hid hT
  clear z0 z1 z2
  go_wp2_with fail
  refine (hcall.out a n c w4 hT.out).mono ?_
  rintro e w5 ⟨x, rfl, b5, hx⟩
  have c5 := Below.step c4 b5
  obtain ⟨⟨u0, u1, u2⟩, f0, f1, f2⟩ := q4.below c5
  have sW := c5.size
  rw [s0.out] at sW
  obtain ⟨L, hLL, hxI⟩ := hx
  obtain ⟨xa, xn, xc, rfl⟩ := hxI.at.shape
  have sE := c4.size
  rw [s0.out] at sE
  have hx9 := (hxI.set3 (b := w.heap.size + 1) (by omega) (.int .i64 0) (.slice none 0 0) (.slice none 0 0)).mono (B' := w.heap.size) (by omega)
  replace hLL := Lib.hid hLL
  replace hxI := Lib.hid hxI
  replace hx9 := Lib.hid hx9
  go_wp2
  (try simp only [Exit.inBlock, Exit.then])
  refine bodyPost_ret (v := .tuple #[.slice xa xn xc, .agg #[.int .i64 0, .slice none 0 0, .slice none 0 0]]) (by simp [results, Tryz.results71, go_sem, u0, u1, u2]) rfl ⟨_, _, rfl, below_set3 (Below.step bA c5) (by omega) _ _ _, rfl, L, hLL.out, hx9.out⟩
end Go.Proofs.YtilpckngghffoaaGreatDoor

namespace Go.Proofs.YtilpckngghffoaaGreatDoor
open Go.RowKit
set_option maxRecDepth 100000

/-- Counted from the other end. -/
theorem emod_back {d : Int} {n e : Nat} (hn : 1 ≤ n) (he : -1 - d = (e : Int)) : (d % (n : Int)).toNat = n - 1 - e % n := by
  have h1 := Nat.mod_add_div e n
  have h2 := Nat.mod_lt e (show 0 < n by omega)
  have h3 : d = ((n : Int) - 1 - ((e % n : Nat) : Int)) + (n : Int) * (-((e / n : Nat) : Int) - 1) := by
    have : (e : Int) = ((e % n : Nat) : Int) + (n : Int) * ((e / n : Nat) : Int) := by rw [← Int.natCast_mul, ← Int.natCast_add, h1]
    rw [Int.mul_sub, Int.mul_neg, Int.mul_one]
    omega
  rw [h3, Int.add_mul_emod_self_left, Int.emod_eq_of_lt (by omega) (by omega)]
  omega

set_option maxHeartbeats 2000000 in
theorem ref_at (p i : Int) (la : Option Addr) (ln lc : Nat) (ca : Option Addr) (cn cc : Nat) (qa : Option Addr) (qn qc : Nat) (L C Q : List Int) (w : World) (hL : IntsAt w (.slice la ln lc) L) (hC : IntsAt w (.slice ca cn cc) C) (hQ : IntsAt w (.slice qa qn qc) Q) (l1 : 1 ≤ L.length) (q1 : 1 ≤ Q.length) (lb : L.length ≤ 100000) (cb : C.length ≤ 100000) (qb : Q.length ≤ 100000) (hp : -1000000 ≤ p ∧ p ≤ 1000000) (hi : -10000000 ≤ i ∧ i ≤ 10000000) :
    Calls Tryz.prog 121 #[.agg #[.int .i64 p, .slice la ln lc, .slice ca cn cc, .slice qa qn qc], .int .i64 i] w (Ret1 (fun x _ => x = .int .i64 (cellP p L C Q i)) w) := by
  have b0 := belowAlloc w (.cells #[.int .i64 p, .slice la ln lc, .slice ca cn cc, .slice qa qn qc] 42)
  obtain ⟨y0, y1, y2, y3⟩ := Cells4.alloc w 42 (.int .i64 p) (.slice la ln lc) (.slice ca cn cc) (.slice qa qn qc)
  obtain ⟨w0, hw0⟩ : ∃ W : World, w.alloc (.cells #[.int .i64 p, .slice la ln lc, .slice ca cn cc, .slice qa qn qc] 42) = W := ⟨_, rfl⟩
  rw [hw0] at b0 y0 y1 y2 y3
  replace hL := hL.below b0
  replace hC := hC.below b0
  replace hQ := hQ.below b0
  have nL := hL.len
  have nC := hC.len
  have nQ := hQ.len
  replace hw0 := Lib.hid hw0
  by_cases h1 : i < p
  · have d1 : decide (i < p) = true := decide_eq_true h1
    obtain ⟨e, he⟩ : ∃ e : Nat, p - 1 - i = (e : Int) := ⟨(p - 1 - i).toNat, by omega⟩
    obtain ⟨g1, g2, g3, g4, g5, g6⟩ := dm9 e L.length (by omega)
    have hn3 : ¬ L.length = 0 := by omega
    have hn4 : ((L.length : Int) == 0) = false := by rw [beq_eq_false_iff_ne]; omega
    have hlt := Nat.mod_lt e (show 0 < L.length by omega)
    have hv : cellP p L C Q i = L.getD (L.length - 1 - e % L.length) 0 := by
      unfold cellP
      rw [if_pos (by omega), emod_back l1 (e := e) (by omega)]
    obtain ⟨r, hr⟩ : ∃ r, e % L.length = r := ⟨_, rfl⟩
    rw [hr] at g2 g4 g6 hlt hv
    obtain ⟨j, hj⟩ : ∃ j : Nat, (L.length : Int) - 1 - (r : Int) = (j : Int) := ⟨L.length - 1 - r, by omega⟩
    have hjl : j < L.length := by omega
    rw [show L.length - 1 - r = j by omega] at hv
    have iJ := fun w' => hL.idx j hjl w'
    have cJ := hL.cellD j hjl
    rw [hv]
    obtain ⟨ta, hta⟩ : ∃ ta, valAt (.slice la ln lc) j = ta := ⟨_, rfl⟩
    obtain ⟨x, hx⟩ : ∃ x, L.getD j 0 = x := ⟨_, rfl⟩
    rw [hta] at iJ cJ
    rw [hx] at cJ ⊢
    replace hL := Lib.hid hL
    replace hC := Lib.hid hC
    replace hQ := Lib.hid hQ
    replace hv := Lib.hid hv
    replace hr := Lib.hid hr
    replace hta := Lib.hid hta
    replace hx := Lib.hid hx
    go_enter Tryz.func121, Tryz.ntmps121
    go_upto_region 1 with fail
    rw [hw0.out]
    go_wp2
    go_ret
    exact ⟨_, rfl, b0, rfl⟩
  · have d1 : decide (i < p) = false := decide_eq_false h1
    obtain ⟨d, hd⟩ : ∃ d, i - p = d := ⟨_, rfl⟩
    by_cases h2 : d < C.length
    · have d2 : decide (d < (C.length : Int)) = true := decide_eq_true h2
      have hv : cellP p L C Q i = C.getD d.toNat 0 := by
        unfold cellP
        rw [hd, if_neg (by omega), if_pos h2]
      have iJ := fun w' => hC.idxI d (by omega) h2 w'
      have cJ := hC.cellD d.toNat (by omega)
      rw [hv]
      obtain ⟨ta, hta⟩ : ∃ ta, valAt (.slice ca cn cc) d.toNat = ta := ⟨_, rfl⟩
      obtain ⟨x, hx⟩ : ∃ x, C.getD d.toNat 0 = x := ⟨_, rfl⟩
      rw [hta] at iJ cJ
      rw [hx] at cJ ⊢
      replace hL := Lib.hid hL
      replace hC := Lib.hid hC
      replace hQ := Lib.hid hQ
      replace hv := Lib.hid hv
      replace hta := Lib.hid hta
      replace hx := Lib.hid hx
      go_enter Tryz.func121, Tryz.ntmps121
      go_upto_region 1 with fail
      rw [hw0.out]
      go_wp2
      go_ret
      exact ⟨_, rfl, b0, rfl⟩
    · have d2 : decide (d < (C.length : Int)) = false := decide_eq_false h2
      obtain ⟨e, he⟩ : ∃ e : Nat, d - (C.length : Int) = (e : Int) := ⟨(d - (C.length : Int)).toNat, by omega⟩
      have hwe : IntKind.i64.wrap (d - (C.length : Int)) = (e : Int) := by rw [he]; exact wrapK (by omega) (by omega)
      obtain ⟨g1, g2, g3, g4, g5, g6⟩ := dm9 e Q.length (by omega)
      have hn3 : ¬ Q.length = 0 := by omega
      have hn4 : ((Q.length : Int) == 0) = false := by rw [beq_eq_false_iff_ne]; omega
      have hlt := Nat.mod_lt e (show 0 < Q.length by omega)
      have hv : cellP p L C Q i = Q.getD (e % Q.length) 0 := by
        unfold cellP
        rw [hd, if_neg (by omega), if_neg h2, he, ← Int.natCast_emod, Int.toNat_natCast]
      obtain ⟨r, hr⟩ : ∃ r, e % Q.length = r := ⟨_, rfl⟩
      rw [hr] at g2 g4 g6 hlt hv
      have iJ := fun w' => hQ.idx r hlt w'
      have cJ := hQ.cellD r hlt
      rw [hv]
      obtain ⟨ta, hta⟩ : ∃ ta, valAt (.slice qa qn qc) r = ta := ⟨_, rfl⟩
      obtain ⟨x, hx⟩ : ∃ x, Q.getD r 0 = x := ⟨_, rfl⟩
      rw [hta] at iJ cJ
      rw [hx] at cJ ⊢
      have hS : w0.drew.cell? ⟨w.heap.size, 0, none⟩ = some (.int .i64 p) ∧ w0.drew.cell? ⟨w.heap.size, 2, none⟩ = some (.slice ca cn cc) ∧ w0.drew.cell? ⟨w.heap.size, 3, none⟩ = some (.slice qa qn qc) ∧ w0.drew.cell? ta = some (.int .i64 x) := ⟨y0, y2, y3, cJ⟩
      have b1 := b0.drew
      obtain ⟨W, hW⟩ : ∃ W : World, w0.drew = W := ⟨_, rfl⟩
      rw [hW] at hS b1
      replace hW := Lib.hid hW
      replace hL := Lib.hid hL
      replace hC := Lib.hid hC
      replace hQ := Lib.hid hQ
      replace hv := Lib.hid hv
      replace hr := Lib.hid hr
      replace he := Lib.hid he
      replace hta := Lib.hid hta
      replace hx := Lib.hid hx
      go_enter Tryz.func121, Tryz.ntmps121
      go_upto_region 1 with fail
      rw [hw0.out]
      go_upto_region 7 with fail
      refine wp_region_plan (fun w' => w'.cell? ⟨w.heap.size, 0, none⟩ = some (.int .i64 p) ∧ w'.cell? ⟨w.heap.size, 2, none⟩ = some (.slice ca cn cc) ∧ w'.cell? ⟨w.heap.size, 3, none⟩ = some (.slice qa qn qc) ∧ w'.cell? ta = some (.int .i64 x)) 13 [(0, true), (1, true), (2, true), (3, true), (4, true), (5, true), (6, true), (7, true), (8, true), (9, true), (10, true), (11, true), (12, true)] (by kernel_rfl) (by kernel_rfl) ?_
      rw [hW.out]
      refine headY (v := ?_) (some 44) rfl rfl (Or.inl ⟨by rfl, ?_⟩) hS ?_
      rotate_left
      · rintro W' ⟨s0, s1, s2, s3⟩; go_simp; try with_reducible rfl
      simp only [Act.put, List.setIfInBounds_toArray, List.set_cons_zero, List.set_cons_succ]
      refine headY (v := ?_) (some 45) rfl rfl (Or.inl ⟨by rfl, ?_⟩) hS ?_
      rotate_left
      · rintro W' ⟨s0, s1, s2, s3⟩; go_simp; try with_reducible rfl
      simp only [Act.put, List.setIfInBounds_toArray, List.set_cons_zero, List.set_cons_succ]
      refine headY (v := ?_) (some 46) rfl rfl (Or.inl ⟨by rfl, ?_⟩) hS ?_
      rotate_left
      · rintro W' ⟨s0, s1, s2, s3⟩; go_simp; try with_reducible rfl
      simp only [Act.put, List.setIfInBounds_toArray, List.set_cons_zero, List.set_cons_succ]
      refine headY (v := ?_) (some 47) rfl rfl (Or.inl ⟨by rfl, ?_⟩) hS ?_
      rotate_left
      · rintro W' ⟨s0, s1, s2, s3⟩; go_simp; try with_reducible rfl
      simp only [Act.put, List.setIfInBounds_toArray, List.set_cons_zero, List.set_cons_succ]
      refine headY (v := ?_) (some 48) rfl rfl (Or.inl ⟨by rfl, ?_⟩) hS ?_
      rotate_left
      · rintro W' ⟨s0, s1, s2, s3⟩; go_simp; try with_reducible rfl
      simp only [Act.put, List.setIfInBounds_toArray, List.set_cons_zero, List.set_cons_succ]
      refine headY (v := ?_) (some 49) rfl rfl (Or.inl ⟨by rfl, ?_⟩) hS ?_
      rotate_left
      · rintro W' ⟨s0, s1, s2, s3⟩; go_simp; try with_reducible rfl
      simp only [Act.put, List.setIfInBounds_toArray, List.set_cons_zero, List.set_cons_succ]
      refine headY (v := ?_) (some 50) rfl rfl (Or.inl ⟨by rfl, ?_⟩) hS ?_
      rotate_left
      · rintro W' ⟨s0, s1, s2, s3⟩; go_simp; try with_reducible rfl
      simp only [Act.put, List.setIfInBounds_toArray, List.set_cons_zero, List.set_cons_succ]
      refine headY (v := ?_) (some 51) rfl rfl (Or.inl ⟨by rfl, ?_⟩) hS ?_
      rotate_left
      · rintro W' ⟨s0, s1, s2, s3⟩; go_simp; try with_reducible rfl
      simp only [Act.put, List.setIfInBounds_toArray, List.set_cons_zero, List.set_cons_succ]
      refine headY (v := ?_) (some 52) rfl rfl (Or.inl ⟨by rfl, ?_⟩) hS ?_
      rotate_left
      · rintro W' ⟨s0, s1, s2, s3⟩; go_simp; try with_reducible rfl
      simp only [Act.put, List.setIfInBounds_toArray, List.set_cons_zero, List.set_cons_succ]
      refine headY (v := ?_) (some 53) rfl rfl (Or.inl ⟨by rfl, ?_⟩) hS ?_
      rotate_left
      · rintro W' ⟨s0, s1, s2, s3⟩; go_simp; try with_reducible rfl
      simp only [Act.put, List.setIfInBounds_toArray, List.set_cons_zero, List.set_cons_succ]
      refine headY (v := ?_) (some 54) rfl rfl (Or.inl ⟨by rfl, ?_⟩) hS ?_
      rotate_left
      · rintro W' ⟨s0, s1, s2, s3⟩; go_simp; try with_reducible rfl
      simp only [Act.put, List.setIfInBounds_toArray, List.set_cons_zero, List.set_cons_succ]
      refine headY (v := ?_) (some 55) rfl rfl (Or.inl ⟨by rfl, ?_⟩) hS ?_
      rotate_left
      · rintro W' ⟨s0, s1, s2, s3⟩; go_simp; try with_reducible rfl
      simp only [Act.put, List.setIfInBounds_toArray, List.set_cons_zero, List.set_cons_succ]
      refine headY (v := ?_) (some 56) rfl rfl (Or.inl ⟨by rfl, ?_⟩) hS ?_
      rotate_left
      · rintro W' ⟨s0, s1, s2, s3⟩; go_simp; try with_reducible rfl
      simp only [Act.put, List.setIfInBounds_toArray, List.set_cons_zero, List.set_cons_succ]
      refine head0 ?_
      simp only [List.drop_succ_cons, List.drop_zero]
      go_wp2
      refine NoPanic.normal ?_
      go_wp2
      go_ret
      exact ⟨_, rfl, b1, rfl⟩

theorem piece_set {p : Int} {L C Q : List Int} {f : Int} {n j : Nat} (h : j < n) : (pieceP p L C Q f j ++ List.replicate (n - j) 0).set j (cellP p L C Q (f + j)) = pieceP p L C Q f (j + 1) ++ List.replicate (n - (j + 1)) 0 := by
  rw [show n - j = (n - (j + 1)) + 1 by omega, List.replicate_succ, List.set_append_right _ _ (by rw [pieceP_len]; exact Nat.le_refl _), pieceP_len, Nat.sub_self, List.set_cons_zero, pieceP_succ, List.append_assoc]
  rfl

set_option maxHeartbeats 2000000 in
theorem ref_piece (p f : Int) (n : Nat) (la : Option Addr) (ln lc : Nat) (ca : Option Addr) (cn cc : Nat) (qa : Option Addr) (qn qc : Nat) (L C Q : List Int) (w : World) (hL : IntsAt w (.slice la ln lc) L) (hC : IntsAt w (.slice ca cn cc) C) (hQ : IntsAt w (.slice qa qn qc) Q) (l1 : 1 ≤ L.length) (q1 : 1 ≤ Q.length) (lb : L.length ≤ 100000) (cb : C.length ≤ 100000) (qb : Q.length ≤ 100000) (hp : -1000000 ≤ p ∧ p ≤ 1000000) (hf : -1000000 ≤ f ∧ f ≤ 1000000) (hn : n ≤ 100000) :
    Calls Tryz.prog 150 #[.agg #[.int .i64 p, .slice la ln lc, .slice ca cn cc, .slice qa qn qc], .int .i64 f, .int .i64 n] w (Ret1 (fun x w' => OwnI w.heap.size w' x (pieceP p L C Q f n)) w) := by
  have b0 := belowAlloc w (.cells #[.int .i64 p, .slice la ln lc, .slice ca cn cc, .slice qa qn qc] 42)
  have y := Cells4.alloc w 42 (.int .i64 p) (.slice la ln lc) (.slice ca cn cc) (.slice qa qn qc)
  obtain ⟨w0, hw0⟩ : ∃ W : World, w.alloc (.cells #[.int .i64 p, .slice la ln lc, .slice ca cn cc, .slice qa qn qc] 42) = W := ⟨_, rfl⟩
  rw [hw0] at b0 y
  replace hL := hL.below b0
  replace hC := hC.below b0
  replace hQ := hQ.below b0
  have s0 := b0.size
  obtain ⟨ov, w1, mk, ho, b1⟩ := run_makeI (n : Int) n w0 rfl (by omega)
  obtain ⟨oa, on, oc, rfl⟩ := ho.at.shape
  have h0 : OwnI w0.heap.size w1 (.slice oa on oc) (pieceP p L C Q f 0 ++ List.replicate (n - 0) 0) := ho
  replace hL := Lib.hid hL
  replace hC := Lib.hid hC
  replace hQ := Lib.hid hQ
  replace hw0 := Lib.hid hw0
  replace ho := Lib.hid ho
  replace h0 := Lib.hid h0
  replace y := Lib.hid y
  go_enter Tryz.func150, Tryz.ntmps150
  go_upto_region 1 with fail
  rw [hw0.out]
  go_wp2_with fail
  clear mk
  go_loopw [8] (fun iv wr => ∃ j : Nat, j ≤ n ∧ iv = .int .i64 j ∧ OwnI w0.heap.size wr (.slice oa on oc) (pieceP p L C Q f j ++ List.replicate (n - j) 0) ∧ Below w0.heap.size w0 wr) (fun iv _ => n - (intOf iv).toNat)
  case atStart => exact ⟨0, Nat.zero_le _, rfl, h0.out, b1⟩
  case round =>
    obtain ⟨j, hj, rfl, hO, hB⟩ := hrel
    obtain ⟨wo, rfl⟩ : ∃ wo : World, wo = wr := ⟨_, rfl⟩
    by_cases hjn : j < n
    · have dj : decide ((j : Int) < (n : Int)) = true := decide_eq_true (by omega)
      obtain ⟨y0, y1, y2, y3⟩ := y.out.below hB
      have call1 := ref_at p (f + (j : Int)) la ln lc ca cn cc qa qn qc L C Q wo (hL.out.below hB) (hC.out.below hB) (hQ.out.below hB) l1 q1 lb cb qb hp (by omega)
      replace call1 := Lib.hid call1
      replace hO := Lib.hid hO
      go_wp2_with fail
      refine call1.out.mono ?_
      rintro e w2 ⟨_, rfl, b2, rfl⟩
      have hB2 := Below.step hB b2
      have hO2 := hO.out.below b2
      have hjl : j < (pieceP p L C Q f j ++ List.replicate (n - j) 0).length := by rw [List.length_append, pieceP_len, List.length_replicate]; omega
      have iJ := fun w' => hO2.at.idx j hjl w'
      have cJ := hO2.at.cell j hjl
      have fJ := hO2.frz j hjl
      have kJ := hO2.blkB j hjl
      have hS := hO2.set j hjl (cellP p L C Q (f + (j : Int)))
      rw [piece_set hjn] at hS
      have hBS := hB2.setCell kJ (.int .i64 (cellP p L C Q (f + (j : Int))))
      obtain ⟨ta, hta⟩ : ∃ ta, valAt (.slice oa on oc) j = ta := ⟨_, rfl⟩
      obtain ⟨x, hx⟩ : ∃ x, cellP p L C Q (f + (j : Int)) = x := ⟨_, rfl⟩
      rw [hta] at iJ cJ fJ hS hBS
      rw [hx] at hS hBS ⊢
      replace hS := Lib.hid hS
      replace hO2 := Lib.hid hO2
      replace hta := Lib.hid hta
      replace hx := Lib.hid hx
      clear y0 y1 y2 y3 kJ
      go_wp2
      go_roundw
      case measure => simp [intOf]; omega
      case rel => exact ⟨j + 1, by omega, by go_num, hS.out, hBS⟩
    · have dj : decide ((j : Int) < (n : Int)) = false := decide_eq_false (by omega)
      obtain rfl : j = n := by omega
      have hE : OwnI w.heap.size wo (.slice oa on oc) (pieceP p L C Q f j) := by
        have := hO.mono s0
        rwa [Nat.sub_self, List.replicate_zero, List.append_nil] at this
      replace hO := Lib.hid hO
      replace hE := Lib.hid hE
      have bE := Below.step b0 hB
      go_wp2
      go_ret
      exact ⟨_, rfl, bE, hE.out⟩

set_option maxHeartbeats 2000000 in
theorem ref_after (p f : Int) (n K R : Nat) (va : Option Addr) (vn vc : Nat) (T : List Int) (la : Option Addr) (ln lc : Nat) (ca : Option Addr) (cn cc : Nat) (qa : Option Addr) (qn qc : Nat) (L C Q : List Int) (w : World) (h : IntsAt w (.slice va vn vc) T) (hr : RuleOk K R T) (hL : IntsAt w (.slice la ln lc) L) (hC : IntsAt w (.slice ca cn cc) C) (hQ : IntsAt w (.slice qa qn qc) Q) (l1 : 1 ≤ L.length) (q1 : 1 ≤ Q.length) (lb : L.length ≤ 100000) (cb : C.length ≤ 100000) (qb : Q.length ≤ 100000) (hp : -1000000 ≤ p ∧ p ≤ 1000000) (hf : -900000 ≤ f ∧ f ≤ 900000) (hn : n ≤ 90000) (sL : Syms K L) (sC : Syms K C) (sQ : Syms K Q) :
    Calls Tryz.prog 122 #[.agg #[.int .i64 K, .int .i64 R, .slice va vn vc], .agg #[.int .i64 p, .slice la ln lc, .slice ca cn cc, .slice qa qn qc], .int .i64 f, .int .i64 n] w (Ret1 (fun x w' => OwnI w.heap.size w' x (imgP K R T (pieceP p L C Q (f - R) (n + 2 * R)))) w) := by
  have hR3 := hr.r3
  have b0 := Below.step (belowAlloc w (.cells #[.int .i64 K, .int .i64 R, .slice va vn vc] 24)) (belowAlloc _ (.cells #[.int .i64 p, .slice la ln lc, .slice ca cn cc, .slice qa qn qc] 42))
  have q : Box3 ((w.alloc (.cells #[.int .i64 K, .int .i64 R, .slice va vn vc] 24)).alloc (.cells #[.int .i64 p, .slice la ln lc, .slice ca cn cc, .slice qa qn qc] 42)) w.heap.size (.int .i64 K) (.int .i64 R) (.slice va vn vc) := by simp [Box3, go_sem]
  have y := Cells4.alloc (w.alloc (.cells #[.int .i64 K, .int .i64 R, .slice va vn vc] 24)) 42 (.int .i64 p) (.slice la ln lc) (.slice ca cn cc) (.slice qa qn qc)
  rw [show (w.alloc (.cells #[.int .i64 K, .int .i64 R, .slice va vn vc] 24)).heap.size = w.heap.size + 1 by simp] at y
  obtain ⟨w0, hw0⟩ : ∃ W : World, (w.alloc (.cells #[.int .i64 K, .int .i64 R, .slice va vn vc] 24)).alloc (.cells #[.int .i64 p, .slice la ln lc, .slice ca cn cc, .slice qa qn qc] 42) = W := ⟨_, rfl⟩
  rw [hw0] at b0 y q
  obtain ⟨W, hW⟩ : ∃ W : World, w0.drew = W := ⟨_, rfl⟩
  have bW : Below w.heap.size w W := by rw [← hW]; exact b0.drew
  have qW : Box3 W w.heap.size (.int .i64 K) (.int .i64 R) (.slice va vn vc) := by rw [← hW]; exact q
  have yW : Cells4 W (w.heap.size + 1) (.int .i64 p) (.slice la ln lc) (.slice ca cn cc) (.slice qa qn qc) := by rw [← hW]; exact ⟨y.c0, y.c1, y.c2, y.c3⟩
  have sW := bW.size
  replace h := h.below bW
  have call1 := ref_piece p (f - (R : Int)) (n + 2 * R) la ln lc ca cn cc qa qn qc L C Q W (hL.below bW) (hC.below bW) (hQ.below bW) l1 q1 lb cb qb hp (by omega) (by omega)
  have hsy : Syms K (pieceP p L C Q (f - (R : Int)) (n + 2 * R)) := pieceP_syms sL sC sQ l1 q1 _ _
  have hlen := pieceP_len p L C Q (f - (R : Int)) (n + 2 * R)
  obtain ⟨zs, hzs⟩ : ∃ zs, pieceP p L C Q (f - (R : Int)) (n + 2 * R) = zs := ⟨_, rfl⟩
  rw [hzs] at call1 hsy hlen ⊢
  have hw1 : IntKind.i64.wrap (f - (R : Int)) = f - (R : Int) := wrapK (by omega) (by omega)
  obtain ⟨m, hm⟩ : ∃ m, 2 * R = m := ⟨_, rfl⟩
  have hw2 : IntKind.i64.wrap (2 * (R : Int)) = (m : Int) := by rw [show 2 * (R : Int) = (m : Int) by omega]; exact wrapK (by omega) (by omega)
  obtain ⟨k, hk⟩ : ∃ k, n + m = k := ⟨_, rfl⟩
  have hk9 : k ≤ 100000 := by omega
  have hk2 : (n : Int) + (m : Int) = (k : Int) := by omega
  have hw3 : IntKind.i64.wrap (k : Int) = (k : Int) := wrapK (by omega) (by omega)
  rw [hm, hk] at call1 hlen
  have hS : W.cell? ⟨w.heap.size, 0, none⟩ = some (.int .i64 K) ∧ W.cell? ⟨w.heap.size, 1, none⟩ = some (.int .i64 R) ∧ W.cell? ⟨w.heap.size, 2, none⟩ = some (.slice va vn vc) ∧ W.cell? ⟨w.heap.size + 1, 0, none⟩ = some (.int .i64 p) ∧ W.cell? ⟨w.heap.size + 1, 1, none⟩ = some (.slice la ln lc) ∧ W.cell? ⟨w.heap.size + 1, 2, none⟩ = some (.slice ca cn cc) ∧ W.cell? ⟨w.heap.size + 1, 3, none⟩ = some (.slice qa qn qc) := ⟨qW.1.1, qW.1.2.1, qW.1.2.2, yW.c0, yW.c1, yW.c2, yW.c3⟩
  replace hzs := Lib.hid hzs
  replace hm := Lib.hid hm
  replace hk := Lib.hid hk
  replace hw0 := Lib.hid hw0
  replace hW := Lib.hid hW
  replace h := Lib.hid h
  replace hr := Lib.hid hr
  replace hsy := Lib.hid hsy
  replace hlen := Lib.hid hlen
  replace call1 := Lib.hid call1
  replace hL := Lib.hid hL
  replace hC := Lib.hid hC
  replace hQ := Lib.hid hQ
  replace qW := Lib.hid qW
  replace yW := Lib.hid yW
  clear q y
  go_enter Tryz.func122, Tryz.ntmps122
  go_upto_region 1 with fail
  rw [hw0.out]
  refine wp_region_plan (fun w' => w'.cell? ⟨w.heap.size, 0, none⟩ = some (.int .i64 K) ∧ w'.cell? ⟨w.heap.size, 1, none⟩ = some (.int .i64 R) ∧ w'.cell? ⟨w.heap.size, 2, none⟩ = some (.slice va vn vc) ∧ w'.cell? ⟨w.heap.size + 1, 0, none⟩ = some (.int .i64 p) ∧ w'.cell? ⟨w.heap.size + 1, 1, none⟩ = some (.slice la ln lc) ∧ w'.cell? ⟨w.heap.size + 1, 2, none⟩ = some (.slice ca cn cc) ∧ w'.cell? ⟨w.heap.size + 1, 3, none⟩ = some (.slice qa qn qc)) 13 [(0, true), (1, true), (2, true), (3, true), (4, true), (5, true), (6, true), (7, true), (8, true), (9, true), (10, true), (11, false), (12, false)] (by kernel_rfl) (by kernel_rfl) ?_
  rw [hW.out]
  refine headY (v := ?_) (some 9) rfl rfl (Or.inl ⟨by rfl, ?_⟩) hS ?_
  rotate_left
  · rintro W' ⟨s0, s1, s2, s3, s4, s5, s6⟩; go_simp; try with_reducible rfl
  simp only [Act.put, List.setIfInBounds_toArray, List.set_cons_zero, List.set_cons_succ]
  refine headY (v := ?_) (some 10) rfl rfl (Or.inl ⟨by rfl, ?_⟩) hS ?_
  rotate_left
  · rintro W' ⟨s0, s1, s2, s3, s4, s5, s6⟩; go_simp; try with_reducible rfl
  simp only [Act.put, List.setIfInBounds_toArray, List.set_cons_zero, List.set_cons_succ]
  refine headY (v := ?_) (some 11) rfl rfl (Or.inl ⟨by rfl, ?_⟩) hS ?_
  rotate_left
  · rintro W' ⟨s0, s1, s2, s3, s4, s5, s6⟩; go_simp; try with_reducible rfl
  simp only [Act.put, List.setIfInBounds_toArray, List.set_cons_zero, List.set_cons_succ]
  refine headY (v := ?_) (some 12) rfl rfl (Or.inl ⟨by rfl, ?_⟩) hS ?_
  rotate_left
  · rintro W' ⟨s0, s1, s2, s3, s4, s5, s6⟩; go_simp; try with_reducible rfl
  simp only [Act.put, List.setIfInBounds_toArray, List.set_cons_zero, List.set_cons_succ]
  refine headY (v := ?_) (some 13) rfl rfl (Or.inl ⟨by rfl, ?_⟩) hS ?_
  rotate_left
  · rintro W' ⟨s0, s1, s2, s3, s4, s5, s6⟩; go_simp; try with_reducible rfl
  simp only [Act.put, List.setIfInBounds_toArray, List.set_cons_zero, List.set_cons_succ]
  refine headY (v := ?_) (some 14) rfl rfl (Or.inl ⟨by rfl, ?_⟩) hS ?_
  rotate_left
  · rintro W' ⟨s0, s1, s2, s3, s4, s5, s6⟩; go_simp; try with_reducible rfl
  simp only [Act.put, List.setIfInBounds_toArray, List.set_cons_zero, List.set_cons_succ]
  refine headY (v := ?_) (some 15) rfl rfl (Or.inl ⟨by rfl, ?_⟩) hS ?_
  rotate_left
  · rintro W' ⟨s0, s1, s2, s3, s4, s5, s6⟩; go_simp; try with_reducible rfl
  simp only [Act.put, List.setIfInBounds_toArray, List.set_cons_zero, List.set_cons_succ]
  refine headY (v := ?_) (some 16) rfl rfl (Or.inl ⟨by rfl, ?_⟩) hS ?_
  rotate_left
  · rintro W' ⟨s0, s1, s2, s3, s4, s5, s6⟩; go_simp; try with_reducible rfl
  simp only [Act.put, List.setIfInBounds_toArray, List.set_cons_zero, List.set_cons_succ]
  refine headY (v := ?_) (some 17) rfl rfl (Or.inl ⟨by rfl, ?_⟩) hS ?_
  rotate_left
  · rintro W' ⟨s0, s1, s2, s3, s4, s5, s6⟩; go_simp; try with_reducible rfl
  simp only [Act.put, List.setIfInBounds_toArray, List.set_cons_zero, List.set_cons_succ]
  refine headY (v := ?_) (some 18) rfl rfl (Or.inl ⟨by rfl, ?_⟩) hS ?_
  rotate_left
  · rintro W' ⟨s0, s1, s2, s3, s4, s5, s6⟩; go_simp; try with_reducible rfl
  simp only [Act.put, List.setIfInBounds_toArray, List.set_cons_zero, List.set_cons_succ]
  refine headY (v := ?_) (some 19) rfl rfl (Or.inl ⟨by rfl, ?_⟩) hS ?_
  rotate_left
  · rintro W' ⟨s0, s1, s2, s3, s4, s5, s6⟩; go_simp; try with_reducible rfl
  simp only [Act.put, List.setIfInBounds_toArray, List.set_cons_zero, List.set_cons_succ]
  refine headC rfl (fun KK hK => ?_)
  go_simp
  refine call1.out.mono ?_
  rintro e w2 ⟨x, rfl, b2, hx⟩
  have qW2 := qW.out.below b2
  have yW2 := yW.out.below b2
  have hS2 : w2.cell? ⟨w.heap.size, 0, none⟩ = some (.int .i64 K) ∧ w2.cell? ⟨w.heap.size, 1, none⟩ = some (.int .i64 R) ∧ w2.cell? ⟨w.heap.size, 2, none⟩ = some (.slice va vn vc) ∧ w2.cell? ⟨w.heap.size + 1, 0, none⟩ = some (.int .i64 p) ∧ w2.cell? ⟨w.heap.size + 1, 1, none⟩ = some (.slice la ln lc) ∧ w2.cell? ⟨w.heap.size + 1, 2, none⟩ = some (.slice ca cn cc) ∧ w2.cell? ⟨w.heap.size + 1, 3, none⟩ = some (.slice qa qn qc) := ⟨qW2.1.1, qW2.1.2.1, qW2.1.2.2, yW2.c0, yW2.c1, yW2.c2, yW2.c3⟩
  obtain ⟨xa, xn, xc, rfl⟩ := hx.at.shape
  refine hK _ _ hS2 ?_
  clear hK KK
  refine headC rfl (fun KK hK => ?_)
  go_simp
  refine (ref_image K R va vn vc T _ zs w2 (h.out.below b2) hr.out hx.at hsy.out (by rw [hlen.out]; exact hk9)).mono ?_
  rintro e w3 ⟨z, rfl, b3, hz⟩
  have qW3 := qW2.below b3
  have yW3 := yW2.below b3
  have hS3 : w3.cell? ⟨w.heap.size, 0, none⟩ = some (.int .i64 K) ∧ w3.cell? ⟨w.heap.size, 1, none⟩ = some (.int .i64 R) ∧ w3.cell? ⟨w.heap.size, 2, none⟩ = some (.slice va vn vc) ∧ w3.cell? ⟨w.heap.size + 1, 0, none⟩ = some (.int .i64 p) ∧ w3.cell? ⟨w.heap.size + 1, 1, none⟩ = some (.slice la ln lc) ∧ w3.cell? ⟨w.heap.size + 1, 2, none⟩ = some (.slice ca cn cc) ∧ w3.cell? ⟨w.heap.size + 1, 3, none⟩ = some (.slice qa qn qc) := ⟨qW3.1.1, qW3.1.2.1, qW3.1.2.2, yW3.c0, yW3.c1, yW3.c2, yW3.c3⟩
  obtain ⟨za, zn, zc, rfl⟩ := hz.at.shape
  have sE : w.heap.size ≤ w2.heap.size := Nat.le_trans sW b2.size
  have hzE := hz.mono sE
  have bE := Below.step bW (Below.step b2 b3)
  replace hx := Lib.hid hx
  replace hz := Lib.hid hz
  replace hzE := Lib.hid hzE
  refine hK _ _ hS3 ?_
  clear hK KK
  refine head0 ?_
  simp only [List.drop_succ_cons, List.drop_zero]
  clear hS hS2 hS3
  go_wp2
  refine NoPanic.normal ?_
  go_wp2
  go_ret
  exact ⟨_, rfl, bE, hzE.out⟩

set_option maxHeartbeats 4000000 in
theorem ref_rimage (p : Int) (K R : Nat) (va : Option Addr) (vn vc : Nat) (T : List Int) (la : Option Addr) (ln lc : Nat) (ca : Option Addr) (cn cc : Nat) (qa : Option Addr) (qn qc : Nat) (L C Q : List Int) (w : World) (h : IntsAt w (.slice va vn vc) T) (hr : RuleOk K R T) (hL : IntsAt w (.slice la ln lc) L) (hC : IntsAt w (.slice ca cn cc) C) (hQ : IntsAt w (.slice qa qn qc) Q) (l1 : 1 ≤ L.length) (q1 : 1 ≤ Q.length) (lb : L.length ≤ 100000) (cb : C.length ≤ 100000) (qb : Q.length ≤ 100000) (hp : -1000000 ≤ p ∧ p ≤ 1000000) (sL : Syms K L) (sC : Syms K C) (sQ : Syms K Q) (lb' : L.length ≤ 80000) (cb' : C.length ≤ 80000) (qb' : Q.length ≤ 80000) (hp' : -500000 ≤ p ∧ p ≤ 500000) :
    Calls Tryz.prog 74 #[.agg #[.int .i64 K, .int .i64 R, .slice va vn vc], .agg #[.int .i64 p, .slice la ln lc, .slice ca cn cc, .slice qa qn qc]] w (Ret1 (fun x w' => ∃ l1 l2 l3 c1 c2 c3 q1 q2 q3, x = .agg #[.int .i64 (p - R), .slice l1 l2 l3, .slice c1 c2 c3, .slice q1 q2 q3] ∧ IntsAt w' (.slice l1 l2 l3) (imgP K R T (pieceP p L C Q (p - R - L.length - R) (L.length + 2 * R))) ∧ IntsAt w' (.slice c1 c2 c3) (imgP K R T (pieceP p L C Q (p - R - R) (C.length + 2 * R + 2 * R))) ∧ IntsAt w' (.slice q1 q2 q3) (imgP K R T (pieceP p L C Q (p - R + (C.length + 2 * R) - R) (Q.length + 2 * R)))) w) := by
  have hR3 := hr.r3
  have b0 := Below.step (Below.step (belowAlloc w (.cells #[.int .i64 K, .int .i64 R, .slice va vn vc] 24)) (belowAlloc _ (.cells #[.int .i64 p, .slice la ln lc, .slice ca cn cc, .slice qa qn qc] 42))) (belowAlloc _ (.cells #[.int .i64 0, .slice none 0 0, .slice none 0 0, .slice none 0 0] 42))
  have q : Box3 (((w.alloc (.cells #[.int .i64 K, .int .i64 R, .slice va vn vc] 24)).alloc (.cells #[.int .i64 p, .slice la ln lc, .slice ca cn cc, .slice qa qn qc] 42)).alloc (.cells #[.int .i64 0, .slice none 0 0, .slice none 0 0, .slice none 0 0] 42)) w.heap.size (.int .i64 K) (.int .i64 R) (.slice va vn vc) := by simp [Box3, go_sem]
  have y : Cells4 (((w.alloc (.cells #[.int .i64 K, .int .i64 R, .slice va vn vc] 24)).alloc (.cells #[.int .i64 p, .slice la ln lc, .slice ca cn cc, .slice qa qn qc] 42)).alloc (.cells #[.int .i64 0, .slice none 0 0, .slice none 0 0, .slice none 0 0] 42)) (w.heap.size + 1) (.int .i64 p) (.slice la ln lc) (.slice ca cn cc) (.slice qa qn qc) := by
    refine ⟨?_, ?_, ?_, ?_⟩ <;> simp [go_sem]
  have z : Cells4 (((w.alloc (.cells #[.int .i64 K, .int .i64 R, .slice va vn vc] 24)).alloc (.cells #[.int .i64 p, .slice la ln lc, .slice ca cn cc, .slice qa qn qc] 42)).alloc (.cells #[.int .i64 0, .slice none 0 0, .slice none 0 0, .slice none 0 0] 42)) (w.heap.size + 2) (.int .i64 0) (.slice none 0 0) (.slice none 0 0) (.slice none 0 0) := by
    refine ⟨?_, ?_, ?_, ?_⟩ <;> simp [go_sem]
  have zf : ∀ i, (((w.alloc (.cells #[.int .i64 K, .int .i64 R, .slice va vn vc] 24)).alloc (.cells #[.int .i64 p, .slice la ln lc, .slice ca cn cc, .slice qa qn qc] 42)).alloc (.cells #[.int .i64 0, .slice none 0 0, .slice none 0 0, .slice none 0 0] 42)).frozen? ⟨w.heap.size + 2, i, none⟩ = false := fun i => by simp [go_sem]
  have s0 : (((w.alloc (.cells #[.int .i64 K, .int .i64 R, .slice va vn vc] 24)).alloc (.cells #[.int .i64 p, .slice la ln lc, .slice ca cn cc, .slice qa qn qc] 42)).alloc (.cells #[.int .i64 0, .slice none 0 0, .slice none 0 0, .slice none 0 0] 42)).heap.size = w.heap.size + 3 := by simp
  obtain ⟨w0, hw0⟩ : ∃ W : World, (((w.alloc (.cells #[.int .i64 K, .int .i64 R, .slice va vn vc] 24)).alloc (.cells #[.int .i64 p, .slice la ln lc, .slice ca cn cc, .slice qa qn qc] 42)).alloc (.cells #[.int .i64 0, .slice none 0 0, .slice none 0 0, .slice none 0 0] 42)) = W := ⟨_, rfl⟩
  rw [hw0] at b0 y q z zf s0
  obtain ⟨W, hW⟩ : ∃ W : World, w0.drew = W := ⟨_, rfl⟩
  have bW : Below w.heap.size w W := by rw [← hW]; exact b0.drew
  have qW : Box3 W w.heap.size (.int .i64 K) (.int .i64 R) (.slice va vn vc) := by rw [← hW]; exact q
  have yW : Cells4 W (w.heap.size + 1) (.int .i64 p) (.slice la ln lc) (.slice ca cn cc) (.slice qa qn qc) := by rw [← hW]; exact ⟨y.c0, y.c1, y.c2, y.c3⟩
  have zW : Cells4 W (w.heap.size + 2) (.int .i64 0) (.slice none 0 0) (.slice none 0 0) (.slice none 0 0) := by rw [← hW]; exact ⟨z.c0, z.c1, z.c2, z.c3⟩
  have zfW : ∀ i, W.frozen? ⟨w.heap.size + 2, i, none⟩ = false := fun i => by rw [← hW]; exact zf i
  have sW : W.heap.size = w.heap.size + 3 := by rw [← hW]; exact s0
  replace h := h.below bW
  replace hL := hL.below bW
  replace hC := hC.below bW
  replace hQ := hQ.below bW
  have nL := hL.len
  have nC := hC.len
  have nQ := hQ.len
  obtain ⟨m, hm⟩ : ∃ m, 2 * R = m := ⟨_, rfl⟩
  obtain ⟨k, hk⟩ : ∃ k, C.length + m = k := ⟨_, rfl⟩
  obtain ⟨t, ht⟩ : ∃ t, p - (R : Int) = t := ⟨_, rfl⟩
  have calls := fun (f : Int) (n : Nat) (w' : World) (h' : IntsAt w' (.slice va vn vc) T) (hL' : IntsAt w' (.slice la ln lc) L) (hC' : IntsAt w' (.slice ca cn cc) C) (hQ' : IntsAt w' (.slice qa qn qc) Q) (hf : -900000 ≤ f ∧ f ≤ 900000) (hn : n ≤ 90000) => ref_after p f n K R va vn vc T la ln lc ca cn cc qa qn qc L C Q w' h' hr hL' hC' hQ' l1 q1 lb cb qb hp hf hn sL sC sQ
  rw [hm] at calls ⊢
  have hk2 : ((C.length : Int) + 2 * (R : Int)) = (k : Int) := by omega
  rw [ht, hk, hk2]
  obtain ⟨u, hu⟩ : ∃ u, t - (L.length : Int) = u := ⟨_, rfl⟩
  obtain ⟨s, hs⟩ : ∃ s, t + (k : Int) = s := ⟨_, rfl⟩
  rw [hu, hs]
  have hw2 : wrap64 (2 * (R : Int)) = (m : Int) := by rw [show 2 * (R : Int) = (m : Int) by omega]; exact wrap64_id (by omega) (by omega)
  have hw3 : (C.length : Int) + (m : Int) = (k : Int) := by omega
  have hw4 : IntKind.i64.wrap (t - (L.length : Int)) = u := by rw [hu]; exact wrapK (by omega) (by omega)
  have hw5 : IntKind.i64.wrap (t + (k : Int)) = s := by rw [hs]; exact wrapK (by omega) (by omega)
  have hS : W.cell? ⟨w.heap.size, 0, none⟩ = some (.int .i64 K) ∧ W.cell? ⟨w.heap.size, 1, none⟩ = some (.int .i64 R) ∧ W.cell? ⟨w.heap.size, 2, none⟩ = some (.slice va vn vc) ∧ W.cell? ⟨w.heap.size + 1, 0, none⟩ = some (.int .i64 p) ∧ W.cell? ⟨w.heap.size + 1, 1, none⟩ = some (.slice la ln lc) ∧ W.cell? ⟨w.heap.size + 1, 2, none⟩ = some (.slice ca cn cc) ∧ W.cell? ⟨w.heap.size + 1, 3, none⟩ = some (.slice qa qn qc) := ⟨qW.1.1, qW.1.2.1, qW.1.2.2, yW.c0, yW.c1, yW.c2, yW.c3⟩
  have keep : ∀ W' : World, Below W.heap.size W W' → W'.cell? ⟨w.heap.size, 0, none⟩ = some (.int .i64 K) ∧ W'.cell? ⟨w.heap.size, 1, none⟩ = some (.int .i64 R) ∧ W'.cell? ⟨w.heap.size, 2, none⟩ = some (.slice va vn vc) ∧ W'.cell? ⟨w.heap.size + 1, 0, none⟩ = some (.int .i64 p) ∧ W'.cell? ⟨w.heap.size + 1, 1, none⟩ = some (.slice la ln lc) ∧ W'.cell? ⟨w.heap.size + 1, 2, none⟩ = some (.slice ca cn cc) ∧ W'.cell? ⟨w.heap.size + 1, 3, none⟩ = some (.slice qa qn qc) := fun W' hb => ⟨(qW.below hb).1.1, (qW.below hb).1.2.1, (qW.below hb).1.2.2, (yW.below hb).c0, (yW.below hb).c1, (yW.below hb).c2, (yW.below hb).c3⟩
  have call1 := calls u L.length W h hL hC hQ (by omega) (by omega)
  have call2 := fun (w' : World) (hb : Below W.heap.size W w') => calls t k w' (h.below hb) (hL.below hb) (hC.below hb) (hQ.below hb) (by omega) (by omega)
  have call3 := fun (w' : World) (hb : Below W.heap.size W w') => calls s Q.length w' (h.below hb) (hL.below hb) (hC.below hb) (hQ.below hb) (by omega) (by omega)
  obtain ⟨A1, hA1⟩ : ∃ z, imgP K R T (pieceP p L C Q (u - (R : Int)) (L.length + m)) = z := ⟨_, rfl⟩
  obtain ⟨A2, hA2⟩ : ∃ z, imgP K R T (pieceP p L C Q (t - (R : Int)) (k + m)) = z := ⟨_, rfl⟩
  obtain ⟨A3, hA3⟩ : ∃ z, imgP K R T (pieceP p L C Q (s - (R : Int)) (Q.length + m)) = z := ⟨_, rfl⟩
  rw [hA1] at call1 ⊢
  rw [hA2] at call2 ⊢
  rw [hA3] at call3 ⊢
  replace hA1 := Lib.hid hA1
  replace hA2 := Lib.hid hA2
  replace hA3 := Lib.hid hA3
  replace hm := Lib.hid hm
  replace hk := Lib.hid hk
  replace hu := Lib.hid hu
  replace hs := Lib.hid hs
  have ht2 := Lib.hid ht
  replace hw0 := Lib.hid hw0
  replace hW := Lib.hid hW
  replace h := Lib.hid h
  replace hr := Lib.hid hr
  replace hL := Lib.hid hL
  replace hC := Lib.hid hC
  replace hQ := Lib.hid hQ
  replace call1 := Lib.hid call1
  replace call2 := Lib.hid call2
  replace call3 := Lib.hid call3
  replace keep := Lib.hid keep
  replace qW := Lib.hid qW
  replace yW := Lib.hid yW
  replace zW := Lib.hid zW
  replace zfW := Lib.hid zfW
  obtain ⟨⟨z0, z1, z2⟩, -, -, -⟩ := q
  obtain ⟨y0, y1, y2, y3⟩ := y
  clear calls z zf z0 z2 y1 y3
  go_enter Tryz.func74, Tryz.ntmps74
  go_upto_region 1 with fail
  rw [hw0.out]
  go_upto_region 3 with fail
  refine wp_region_plan (fun w' => w'.cell? ⟨w.heap.size, 0, none⟩ = some (.int .i64 K) ∧ w'.cell? ⟨w.heap.size, 1, none⟩ = some (.int .i64 R) ∧ w'.cell? ⟨w.heap.size, 2, none⟩ = some (.slice va vn vc) ∧ w'.cell? ⟨w.heap.size + 1, 0, none⟩ = some (.int .i64 p) ∧ w'.cell? ⟨w.heap.size + 1, 1, none⟩ = some (.slice la ln lc) ∧ w'.cell? ⟨w.heap.size + 1, 2, none⟩ = some (.slice ca cn cc) ∧ w'.cell? ⟨w.heap.size + 1, 3, none⟩ = some (.slice qa qn qc)) 27 [(0, true), (1, true), (2, true), (3, true), (4, true), (5, true), (6, true), (7, true), (8, true), (9, true), (10, true), (12, true), (13, true), (14, true), (15, true), (17, true), (18, true), (19, true), (20, true), (21, true), (22, true), (23, true), (24, true), (11, false), (16, false), (25, false), (26, true)] (by kernel_rfl) (by kernel_rfl) ?_
  rw [hW.out]
  clear z1 y0 y2
  refine headY (v := ?_) (some 19) rfl rfl (Or.inl ⟨by rfl, ?_⟩) hS ?_
  rotate_left
  · rintro W' ⟨s0, s1, s2, s3, s4, s5, s6⟩; go_simp; try with_reducible rfl
  simp only [Act.put, List.setIfInBounds_toArray, List.set_cons_zero, List.set_cons_succ]
  refine headY (v := ?_) (some 20) rfl rfl (Or.inl ⟨by rfl, ?_⟩) hS ?_
  rotate_left
  · rintro W' ⟨s0, s1, s2, s3, s4, s5, s6⟩; go_simp; try with_reducible rfl
  simp only [Act.put, List.setIfInBounds_toArray, List.set_cons_zero, List.set_cons_succ]
  refine headY (v := ?_) (some 21) rfl rfl (Or.inl ⟨by rfl, ?_⟩) hS ?_
  rotate_left
  · rintro W' ⟨s0, s1, s2, s3, s4, s5, s6⟩; go_simp; try with_reducible rfl
  simp only [Act.put, List.setIfInBounds_toArray, List.set_cons_zero, List.set_cons_succ]
  refine headY (v := ?_) (some 22) rfl rfl (Or.inl ⟨by rfl, ?_⟩) hS ?_
  rotate_left
  · rintro W' ⟨s0, s1, s2, s3, s4, s5, s6⟩; go_simp; try with_reducible rfl
  simp only [Act.put, List.setIfInBounds_toArray, List.set_cons_zero, List.set_cons_succ]
  refine headY (v := ?_) (some 23) rfl rfl (Or.inl ⟨by rfl, ?_⟩) hS ?_
  rotate_left
  · rintro W' ⟨s0, s1, s2, s3, s4, s5, s6⟩; go_simp; try with_reducible rfl
  simp only [Act.put, List.setIfInBounds_toArray, List.set_cons_zero, List.set_cons_succ]
  refine headY (v := ?_) (some 24) rfl rfl (Or.inl ⟨by rfl, ?_⟩) hS ?_
  rotate_left
  · rintro W' ⟨s0, s1, s2, s3, s4, s5, s6⟩; go_simp; try with_reducible rfl
  simp only [Act.put, List.setIfInBounds_toArray, List.set_cons_zero, List.set_cons_succ]
  refine headY (v := ?_) (some 25) rfl rfl (Or.inl ⟨by rfl, ?_⟩) hS ?_
  rotate_left
  · rintro W' ⟨s0, s1, s2, s3, s4, s5, s6⟩; go_simp; try with_reducible rfl
  simp only [Act.put, List.setIfInBounds_toArray, List.set_cons_zero, List.set_cons_succ]
  refine headY (v := ?_) (some 26) rfl rfl (Or.inl ⟨by rfl, ?_⟩) hS ?_
  rotate_left
  · rintro W' ⟨s0, s1, s2, s3, s4, s5, s6⟩; go_simp; try with_reducible rfl
  simp only [Act.put, List.setIfInBounds_toArray, List.set_cons_zero, List.set_cons_succ]
  refine headY (v := ?_) (some 27) rfl rfl (Or.inl ⟨by rfl, ?_⟩) hS ?_
  rotate_left
  · rintro W' ⟨s0, s1, s2, s3, s4, s5, s6⟩; go_simp; try with_reducible rfl
  simp only [Act.put, List.setIfInBounds_toArray, List.set_cons_zero, List.set_cons_succ]
  refine headY (v := ?_) (some 28) rfl rfl (Or.inl ⟨by rfl, ?_⟩) hS ?_
  rotate_left
  · rintro W' ⟨s0, s1, s2, s3, s4, s5, s6⟩; go_simp; try with_reducible rfl
  simp only [Act.put, List.setIfInBounds_toArray, List.set_cons_zero, List.set_cons_succ]
  refine headY (v := ?_) (some 29) rfl rfl (Or.inl ⟨by rfl, ?_⟩) hS ?_
  rotate_left
  · rintro W' ⟨s0, s1, s2, s3, s4, s5, s6⟩; go_simp; try with_reducible rfl
  simp only [Act.put, List.setIfInBounds_toArray, List.set_cons_zero, List.set_cons_succ]
  refine headY (v := ?_) (some 31) rfl rfl (Or.inl ⟨by rfl, ?_⟩) hS ?_
  rotate_left
  · rintro W' ⟨s0, s1, s2, s3, s4, s5, s6⟩; go_simp; try with_reducible rfl
  simp only [Act.put, List.setIfInBounds_toArray, List.set_cons_zero, List.set_cons_succ]
  refine headY (v := ?_) (some 32) rfl rfl (Or.inl ⟨by rfl, ?_⟩) hS ?_
  rotate_left
  · rintro W' ⟨s0, s1, s2, s3, s4, s5, s6⟩; go_simp; try with_reducible rfl
  simp only [Act.put, List.setIfInBounds_toArray, List.set_cons_zero, List.set_cons_succ]
  refine headY (v := ?_) (some 33) rfl rfl (Or.inl ⟨by rfl, ?_⟩) hS ?_
  rotate_left
  · rintro W' ⟨s0, s1, s2, s3, s4, s5, s6⟩; go_simp; try with_reducible rfl
  simp only [Act.put, List.setIfInBounds_toArray, List.set_cons_zero, List.set_cons_succ]
  refine headY (v := ?_) (some 34) rfl rfl (Or.inl ⟨by rfl, ?_⟩) hS ?_
  rotate_left
  · rintro W' ⟨s0, s1, s2, s3, s4, s5, s6⟩; go_simp; try with_reducible rfl
  simp only [Act.put, List.setIfInBounds_toArray, List.set_cons_zero, List.set_cons_succ]
  refine headY (v := ?_) (some 36) rfl rfl (Or.inl ⟨by rfl, ?_⟩) hS ?_
  rotate_left
  · rintro W' ⟨s0, s1, s2, s3, s4, s5, s6⟩; go_simp; try with_reducible rfl
  simp only [Act.put, List.setIfInBounds_toArray, List.set_cons_zero, List.set_cons_succ]
  refine headY (v := ?_) (some 37) rfl rfl (Or.inl ⟨by rfl, ?_⟩) hS ?_
  rotate_left
  · rintro W' ⟨s0, s1, s2, s3, s4, s5, s6⟩; go_simp; try with_reducible rfl
  simp only [Act.put, List.setIfInBounds_toArray, List.set_cons_zero, List.set_cons_succ]
  refine headY (v := ?_) (some 38) rfl rfl (Or.inl ⟨by rfl, ?_⟩) hS ?_
  rotate_left
  · rintro W' ⟨s0, s1, s2, s3, s4, s5, s6⟩; go_simp; try with_reducible rfl
  simp only [Act.put, List.setIfInBounds_toArray, List.set_cons_zero, List.set_cons_succ]
  refine headY (v := ?_) (some 39) rfl rfl (Or.inl ⟨by rfl, ?_⟩) hS ?_
  rotate_left
  · rintro W' ⟨s0, s1, s2, s3, s4, s5, s6⟩; go_simp; try with_reducible rfl
  simp only [Act.put, List.setIfInBounds_toArray, List.set_cons_zero, List.set_cons_succ]
  refine headY (v := ?_) (some 40) rfl rfl (Or.inl ⟨by rfl, ?_⟩) hS ?_
  rotate_left
  · rintro W' ⟨s0, s1, s2, s3, s4, s5, s6⟩; go_simp; try with_reducible rfl
  simp only [Act.put, List.setIfInBounds_toArray, List.set_cons_zero, List.set_cons_succ]
  refine headY (v := ?_) (some 41) rfl rfl (Or.inl ⟨by rfl, ?_⟩) hS ?_
  rotate_left
  · rintro W' ⟨s0, s1, s2, s3, s4, s5, s6⟩; go_simp; try with_reducible rfl
  simp only [Act.put, List.setIfInBounds_toArray, List.set_cons_zero, List.set_cons_succ]
  refine headY (v := ?_) (some 42) rfl rfl (Or.inl ⟨by rfl, ?_⟩) hS ?_
  rotate_left
  · rintro W' ⟨s0, s1, s2, s3, s4, s5, s6⟩; go_simp; try with_reducible rfl
  simp only [Act.put, List.setIfInBounds_toArray, List.set_cons_zero, List.set_cons_succ]
  refine headY (v := ?_) (some 43) rfl rfl (Or.inl ⟨by rfl, ?_⟩) hS ?_
  rotate_left
  · rintro W' ⟨s0, s1, s2, s3, s4, s5, s6⟩; go_simp; try with_reducible rfl
  simp only [Act.put, List.setIfInBounds_toArray, List.set_cons_zero, List.set_cons_succ]
  refine headC rfl (fun KK hK => ?_)
  go_simp
  refine call1.out.mono ?_
  rintro e w2 ⟨x1, rfl, b2, hx1⟩
  have hS2 := keep.out w2 b2
  obtain ⟨x1a, x1n, x1c, rfl⟩ := hx1.at.shape
  replace hx1 := Lib.hid hx1
  refine hK _ _ hS2 ?_
  clear hK KK hS
  refine headC rfl (fun KK hK => ?_)
  go_simp
  refine (call2.out w2 b2).mono ?_
  rintro e w3 ⟨x2, rfl, b3, hx2⟩
  have c3 := Below.step b2 b3
  have hS3 := keep.out w3 c3
  obtain ⟨x2a, x2n, x2c, rfl⟩ := hx2.at.shape
  replace hx2 := Lib.hid hx2
  refine hK _ _ hS3 ?_
  clear hK KK hS2
  refine headC rfl (fun KK hK => ?_)
  go_simp
  refine (call3.out w3 c3).mono ?_
  rintro e w4 ⟨x3, rfl, b4, hx3⟩
  have c4 := Below.step c3 b4
  have hS4 := keep.out w4 c4
  obtain ⟨x3a, x3n, x3c, rfl⟩ := hx3.at.shape
  refine hK _ _ hS4 ?_
  clear hK KK hS3
  refine headY (v := ?_) (some 45) rfl rfl (Or.inl ⟨by rfl, ?_⟩) hS4 ?_
  rotate_left
  · rintro W' ⟨s0, s1, s2, s3, s4, s5, s6⟩; go_simp; try with_reducible rfl
  simp only [Act.put, List.setIfInBounds_toArray, List.set_cons_zero, List.set_cons_succ]
  refine head0 ?_
  simp only [List.drop_succ_cons, List.drop_zero]
  clear hS4
  obtain ⟨v0, v1, v2, v3⟩ := zW.out.below c4
  have fz : ∀ i, w4.frozen? ⟨w.heap.size + 2, i, none⟩ = false := fun i => by
    rw [c4.frozen (by show w.heap.size + 2 < W.heap.size; omega)]; exact zfW.out i
  have f0 := fz 0
  have f1 := fz 1
  have f2 := fz 2
  have f3 := fz 3
  have o1 := (hx1.out.below b3).below b4
  have o2 := hx2.out.below b4
  have k2 := b2.size
  have k3 := b3.size
  have fin : ∀ (B : Nat) (v : Value) (xs : List Int), w.heap.size + 2 < B → OwnI B w4 v xs → IntsAt ((((w4.setCell ⟨w.heap.size + 2, 0, none⟩ (.int .i64 t)).setCell ⟨w.heap.size + 2, 1, none⟩ (.slice x1a x1n x1c)).setCell ⟨w.heap.size + 2, 2, none⟩ (.slice x2a x2n x2c)).setCell ⟨w.heap.size + 2, 3, none⟩ (.slice x3a x3n x3c)) v xs := fun B v xs hB ho =>
    ((((ho.setBelowBase (a := ⟨w.heap.size + 2, 0, none⟩) hB _).setBelowBase (a := ⟨w.heap.size + 2, 1, none⟩) hB _).setBelowBase (a := ⟨w.heap.size + 2, 2, none⟩) hB _).setBelowBase (a := ⟨w.heap.size + 2, 3, none⟩) hB _).at
  have e1 := fin _ _ _ (by omega) o1
  have e2 := fin _ _ _ (by omega) o2
  have e3 := fin _ _ _ (by omega) hx3
  have bE := Below.all4 (g := w.heap.size + 2) (Below.step bW c4) (by omega) (.int .i64 t) (.slice x1a x1n x1c) (.slice x2a x2n x2c) (.slice x3a x3n x3c)
  replace e1 := Lib.hid e1
  replace e2 := Lib.hid e2
  replace e3 := Lib.hid e3
  replace o1 := Lib.hid o1
  replace o2 := Lib.hid o2
  replace hx3 := Lib.hid hx3
  replace fin := Lib.hid fin
  replace fz := Lib.hid fz
  go_wp2
  refine NoPanic.normal ?_
  go_wp2
  (try simp only [Exit.inBlock, Exit.then])
  exact bodyPost_ret (v := .agg #[.int .i64 t, .slice x1a x1n x1c, .slice x2a x2n x2c, .slice x3a x3n x3c]) (by simp [results, Tryz.results74, go_sem, v0, v1, v2, v3]) rfl ⟨_, rfl, bE, _, _, _, _, _, _, _, _, _, rfl, e1.out, e2.out, e3.out⟩

end Go.Proofs.YtilpckngghffoaaGreatDoor

namespace Go.Proofs.YtilpckngghffoaaGreatDoor
open Go.RowKit
set_option maxRecDepth 100000

/-- What edenref07.Equal tells of rows that lie alike. -/
def EqPost (p : Int) (L C Q L' C' Q' : List Int) (x : Value) : Prop := ∃ b : Bool, x = .bool b ∧ (b = true ↔ ∀ i : Int, p - 2 * L.length - 2 * L.length ≤ i → i < p + C.length + 2 * Q.length + 2 * Q.length → cellP p L C Q i = cellP p L' C' Q' i)

set_option maxHeartbeats 4000000 in
theorem ref_equal (p : Int) (la : Option Addr) (ln lc : Nat) (ca : Option Addr) (cn cc : Nat) (qa : Option Addr) (qn qc : Nat) (L C Q : List Int) (la' : Option Addr) (ln' lc' : Nat) (ca' : Option Addr) (cn' cc' : Nat) (qa' : Option Addr) (qn' qc' : Nat) (L' C' Q' : List Int) (w : World) (hL : IntsAt w (.slice la ln lc) L) (hC : IntsAt w (.slice ca cn cc) C) (hQ : IntsAt w (.slice qa qn qc) Q) (hL' : IntsAt w (.slice la' ln' lc') L') (hC' : IntsAt w (.slice ca' cn' cc') C') (hQ' : IntsAt w (.slice qa' qn' qc') Q') (hlL : L'.length = L.length) (hlC : C'.length = C.length) (hlQ : Q'.length = Q.length) (l1 : 1 ≤ L.length) (q1 : 1 ≤ Q.length) (lb : L.length ≤ 100000) (cb : C.length ≤ 100000) (qb : Q.length ≤ 100000) (hp : -1000000 ≤ p ∧ p ≤ 1000000) :
    Calls Tryz.prog 73 #[.agg #[.int .i64 p, .slice la ln lc, .slice ca cn cc, .slice qa qn qc], .agg #[.int .i64 p, .slice la' ln' lc', .slice ca' cn' cc', .slice qa' qn' qc']] w (Ret1 (fun x _ => EqPost p L C Q L' C' Q' x) w) := by
  have b0 := Below.step (belowAlloc w (.cells #[.int .i64 p, .slice la ln lc, .slice ca cn cc, .slice qa qn qc] 42)) (belowAlloc _ (.cells #[.int .i64 p, .slice la' ln' lc', .slice ca' cn' cc', .slice qa' qn' qc'] 42))
  have y : Cells4 ((w.alloc (.cells #[.int .i64 p, .slice la ln lc, .slice ca cn cc, .slice qa qn qc] 42)).alloc (.cells #[.int .i64 p, .slice la' ln' lc', .slice ca' cn' cc', .slice qa' qn' qc'] 42)) (w.heap.size) (.int .i64 p) (.slice la ln lc) (.slice ca cn cc) (.slice qa qn qc) := by
    refine ⟨?_, ?_, ?_, ?_⟩ <;> simp [go_sem]
  have z : Cells4 ((w.alloc (.cells #[.int .i64 p, .slice la ln lc, .slice ca cn cc, .slice qa qn qc] 42)).alloc (.cells #[.int .i64 p, .slice la' ln' lc', .slice ca' cn' cc', .slice qa' qn' qc'] 42)) (w.heap.size + 1) (.int .i64 p) (.slice la' ln' lc') (.slice ca' cn' cc') (.slice qa' qn' qc') := by
    refine ⟨?_, ?_, ?_, ?_⟩ <;> simp [go_sem]
  obtain ⟨w0, hw0⟩ : ∃ W : World, (w.alloc (.cells #[.int .i64 p, .slice la ln lc, .slice ca cn cc, .slice qa qn qc] 42)).alloc (.cells #[.int .i64 p, .slice la' ln' lc', .slice ca' cn' cc', .slice qa' qn' qc'] 42) = W := ⟨_, rfl⟩
  rw [hw0] at b0 y z
  replace hL := hL.below b0
  replace hC := hC.below b0
  replace hQ := hQ.below b0
  replace hL' := hL'.below b0
  replace hC' := hC'.below b0
  replace hQ' := hQ'.below b0
  have nL := hL.len
  have nC := hC.len
  have nQ := hQ.len
  have nL' := hL'.len
  have nC' := hC'.len
  have nQ' := hQ'.len
  rw [hlL] at nL'
  rw [hlC] at nC'
  rw [hlQ] at nQ'
  have mm : min p p = p := by omega
  have xx : max (p + (C.length : Int)) (p + (C.length : Int)) = p + (C.length : Int) := by omega
  have callA := fun (i : Int) (w' : World) (hb : Below w0.heap.size w0 w') (hi : -10000000 ≤ i ∧ i ≤ 10000000) => ref_at p i la ln lc ca cn cc qa qn qc L C Q w' (hL.below hb) (hC.below hb) (hQ.below hb) l1 q1 lb cb qb hp hi
  have callB := fun (i : Int) (w' : World) (hb : Below w0.heap.size w0 w') (hi : -10000000 ≤ i ∧ i ≤ 10000000) => ref_at p i la' ln' lc' ca' cn' cc' qa' qn' qc' L' C' Q' w' (hL'.below hb) (hC'.below hb) (hQ'.below hb) (by omega) (by omega) (by omega) (by omega) (by omega) hp hi
  have keep : ∀ W' : World, Below w0.heap.size w0 W' → W'.cell? ⟨w.heap.size, 0, none⟩ = some (.int .i64 p) ∧ W'.cell? ⟨w.heap.size, 1, none⟩ = some (.slice la ln lc) ∧ W'.cell? ⟨w.heap.size, 2, none⟩ = some (.slice ca cn cc) ∧ W'.cell? ⟨w.heap.size, 3, none⟩ = some (.slice qa qn qc) ∧ W'.cell? ⟨w.heap.size + 1, 0, none⟩ = some (.int .i64 p) ∧ W'.cell? ⟨w.heap.size + 1, 1, none⟩ = some (.slice la' ln' lc') ∧ W'.cell? ⟨w.heap.size + 1, 2, none⟩ = some (.slice ca' cn' cc') ∧ W'.cell? ⟨w.heap.size + 1, 3, none⟩ = some (.slice qa' qn' qc') := fun W' hb => ⟨(y.below hb).c0, (y.below hb).c1, (y.below hb).c2, (y.below hb).c3, (z.below hb).c0, (z.below hb).c1, (z.below hb).c2, (z.below hb).c3⟩
  obtain ⟨y0, y1, y2, y3⟩ := y
  obtain ⟨z0, z1, z2, z3⟩ := z
  replace hlL := Lib.hid hlL
  replace hlC := Lib.hid hlC
  replace hlQ := Lib.hid hlQ
  replace hL := Lib.hid hL
  replace hC := Lib.hid hC
  replace hQ := Lib.hid hQ
  replace hL' := Lib.hid hL'
  replace hC' := Lib.hid hC'
  replace hQ' := Lib.hid hQ'
  replace hw0 := Lib.hid hw0
  replace callA := Lib.hid callA
  replace callB := Lib.hid callB
  replace keep := Lib.hid keep
  go_enter Tryz.func73, Tryz.ntmps73
  go_upto_region 1 with fail
  rw [hw0.out]
  go_wp2_with fail
  clear y0 y1 y2 y3 z0 z1 z2 z3
  go_loopw [7] (fun iv wr => ∃ i : Int, iv = .int .i64 i ∧ p - 2 * L.length - 2 * L.length ≤ i ∧ i ≤ p + C.length + 2 * Q.length + 2 * Q.length ∧ (∀ j : Int, p - 2 * L.length - 2 * L.length ≤ j → j < i → cellP p L C Q j = cellP p L' C' Q' j) ∧ Below w0.heap.size w0 wr) (fun iv _ => (p + C.length + 2 * Q.length + 2 * Q.length - intOf iv).toNat)
  case atStart => exact ⟨_, rfl, by omega, by omega, fun j h1 h2 => by omega, Below.refl _ _⟩
  case round =>
    obtain ⟨i, rfl, h1, h2, heq, hB⟩ := hrel
    obtain ⟨wo, rfl⟩ : ∃ wo : World, wo = wr := ⟨_, rfl⟩
    replace heq := Lib.hid heq
    by_cases hi : i < p + C.length + 2 * Q.length + 2 * Q.length
    · have di : decide (i < p + (C.length : Int) + 2 * (Q.length : Int) + 2 * (Q.length : Int)) = true := decide_eq_true hi
      obtain ⟨W, hW⟩ : ∃ W : World, wo.drew = W := ⟨_, rfl⟩
      have bW : Below w0.heap.size w0 W := by rw [← hW]; exact hB.drew
      have hS := keep.out W bW
      replace hW := Lib.hid hW
      go_upto_region 6 with fail
      refine wp_region_plan (fun w' => w'.cell? ⟨w.heap.size, 0, none⟩ = some (.int .i64 p) ∧ w'.cell? ⟨w.heap.size, 1, none⟩ = some (.slice la ln lc) ∧ w'.cell? ⟨w.heap.size, 2, none⟩ = some (.slice ca cn cc) ∧ w'.cell? ⟨w.heap.size, 3, none⟩ = some (.slice qa qn qc) ∧ w'.cell? ⟨w.heap.size + 1, 0, none⟩ = some (.int .i64 p) ∧ w'.cell? ⟨w.heap.size + 1, 1, none⟩ = some (.slice la' ln' lc') ∧ w'.cell? ⟨w.heap.size + 1, 2, none⟩ = some (.slice ca' cn' cc') ∧ w'.cell? ⟨w.heap.size + 1, 3, none⟩ = some (.slice qa' qn' qc')) 6 [(0, true), (1, true), (3, true), (4, true), (2, false), (5, false)] (by kernel_rfl) (by kernel_rfl) ?_
      rw [hW.out]
      refine headY (v := ?_) (some 52) rfl rfl (Or.inl ⟨by rfl, ?_⟩) hS ?_
      rotate_left
      · rintro W' ⟨s0, s1, s2, s3, s4, s5, s6, s7⟩; go_simp; try with_reducible rfl
      simp only [Act.put, List.setIfInBounds_toArray, List.set_cons_zero, List.set_cons_succ]
      refine headY (v := ?_) (some 53) rfl rfl (Or.inl ⟨by rfl, ?_⟩) hS ?_
      rotate_left
      · rintro W' ⟨s0, s1, s2, s3, s4, s5, s6, s7⟩; go_simp; try with_reducible rfl
      simp only [Act.put, List.setIfInBounds_toArray, List.set_cons_zero, List.set_cons_succ]
      refine headY (v := ?_) (some 55) rfl rfl (Or.inl ⟨by rfl, ?_⟩) hS ?_
      rotate_left
      · rintro W' ⟨s0, s1, s2, s3, s4, s5, s6, s7⟩; go_simp; try with_reducible rfl
      simp only [Act.put, List.setIfInBounds_toArray, List.set_cons_zero, List.set_cons_succ]
      refine headY (v := ?_) (some 56) rfl rfl (Or.inl ⟨by rfl, ?_⟩) hS ?_
      rotate_left
      · rintro W' ⟨s0, s1, s2, s3, s4, s5, s6, s7⟩; go_simp; try with_reducible rfl
      simp only [Act.put, List.setIfInBounds_toArray, List.set_cons_zero, List.set_cons_succ]
      refine headC rfl (fun KK hK => ?_)
      go_simp
      refine (callA.out i W bW (by omega)).mono ?_
      rintro e w2 ⟨_, rfl, b2, rfl⟩
      have c2 := Below.step bW b2
      have hS2 := keep.out w2 c2
      refine hK _ _ hS2 ?_
      clear hK KK hS
      refine headC rfl (fun KK hK => ?_)
      go_simp
      refine (callB.out i w2 c2 (by omega)).mono ?_
      rintro e w3 ⟨_, rfl, b3, rfl⟩
      have c3 := Below.step c2 b3
      have hS3 := keep.out w3 c3
      refine hK _ _ hS3 ?_
      clear hK KK hS2
      refine head0 ?_
      simp only [List.drop_succ_cons, List.drop_zero]
      clear hS3
      by_cases e : cellP p L C Q i = cellP p L' C' Q' i
      · obtain ⟨x, hx⟩ : ∃ x, cellP p L C Q i = x := ⟨_, rfl⟩
        have e2 := e
        rw [hx] at e2
        rw [hx, ← e2]
        have q1' : (x != x) = false := by simp
        have heq2 : ∀ j : Int, p - 2 * L.length - 2 * L.length ≤ j → j < i + 1 → cellP p L C Q j = cellP p L' C' Q' j := fun j g1 g2 => by
          by_cases ej : j = i
          · subst ej; exact e
          · exact heq.out j g1 (by omega)
        replace e := Lib.hid e
        replace e2 := Lib.hid e2
        replace hx := Lib.hid hx
        replace heq2 := Lib.hid heq2
        go_wp2
        refine NoPanic.normal ?_
        go_wp2
        go_roundw
        case measure => simp [intOf]; omega
        case rel => exact ⟨i + 1, by go_num, by omega, by omega, heq2.out, c3⟩
      · have q1' : (cellP p L C Q i != cellP p L' C' Q' i) = true := by rw [bne_iff_ne]; exact e
        have hno : ¬ ∀ j : Int, p - 2 * L.length - 2 * L.length ≤ j → j < p + C.length + 2 * Q.length + 2 * Q.length → cellP p L C Q j = cellP p L' C' Q' j := fun h => e (h i h1 hi)
        have bE := Below.step b0 c3
        obtain ⟨x, hx⟩ : ∃ x, cellP p L C Q i = x := ⟨_, rfl⟩
        obtain ⟨x', hx'⟩ : ∃ x, cellP p L' C' Q' i = x := ⟨_, rfl⟩
        rw [hx, hx'] at q1' ⊢
        replace e := Lib.hid e
        replace hno := Lib.hid hno
        replace hx := Lib.hid hx
        replace hx' := Lib.hid hx'
        go_wp2
        refine NoPanic.normal ?_
        go_wp2
        go_ret
        exact ⟨_, rfl, bE, false, rfl, fun h => absurd h (by simp), fun h => absurd h hno.out⟩
    · have di : decide (i < p + (C.length : Int) + 2 * (Q.length : Int) + 2 * (Q.length : Int)) = false := decide_eq_false hi
      have bE := Below.step b0 hB
      have hall : ∀ j : Int, p - 2 * L.length - 2 * L.length ≤ j → j < p + C.length + 2 * Q.length + 2 * Q.length → cellP p L C Q j = cellP p L' C' Q' j := fun j g1 g2 => heq.out j g1 (by omega)
      replace hall := Lib.hid hall
      go_wp2
      go_ret
      exact ⟨_, rfl, bE, true, rfl, fun _ => hall.out, fun _ => rfl⟩

set_option maxHeartbeats 4000000 in
theorem ref_rcheck (p : Int) (K : Nat) (la : Option Addr) (ln lc : Nat) (ca : Option Addr) (cn cc : Nat) (qa : Option Addr) (qn qc : Nat) (L C Q : List Int) (w : World) (hL : IntsAt w (.slice la ln lc) L) (hC : IntsAt w (.slice ca cn cc) C) (hQ : IntsAt w (.slice qa qn qc) Q) (hr : RowOk K p L C Q) :
    Calls Tryz.prog 72 #[.int .i64 K, .agg #[.int .i64 p, .slice la ln lc, .slice ca cn cc, .slice qa qn qc]] w (Ret1 (fun x _ => x = .agg #[.int .i64 0, .slice none 0 0, .slice none 0 0]) w) := by
  obtain ⟨k1, k4, p1, p2, l1, l2, q1, q2, c2, sL, sC, sQ⟩ := hr
  have b0 := Below.step (belowAlloc w (.cells #[.int .i64 p, .slice la ln lc, .slice ca cn cc, .slice qa qn qc] 42)) (belowAlloc _ (.cells #[.int .i64 0, .slice none 0 0, .slice none 0 0] 33))
  have y : Cells4 ((w.alloc (.cells #[.int .i64 p, .slice la ln lc, .slice ca cn cc, .slice qa qn qc] 42)).alloc (.cells #[.int .i64 0, .slice none 0 0, .slice none 0 0] 33)) w.heap.size (.int .i64 p) (.slice la ln lc) (.slice ca cn cc) (.slice qa qn qc) := by
    refine ⟨?_, ?_, ?_, ?_⟩ <;> simp [go_sem]
  have q4 : Box3 ((w.alloc (.cells #[.int .i64 p, .slice la ln lc, .slice ca cn cc, .slice qa qn qc] 42)).alloc (.cells #[.int .i64 0, .slice none 0 0, .slice none 0 0] 33)) (w.heap.size + 1) (.int .i64 0) (.slice none 0 0) (.slice none 0 0) := by simp [Box3, go_sem]
  obtain ⟨w0, hw0⟩ : ∃ W : World, (w.alloc (.cells #[.int .i64 p, .slice la ln lc, .slice ca cn cc, .slice qa qn qc] 42)).alloc (.cells #[.int .i64 0, .slice none 0 0, .slice none 0 0] 33) = W := ⟨_, rfl⟩
  rw [hw0] at b0 y q4
  obtain ⟨W, hW⟩ : ∃ W : World, w0.drew = W := ⟨_, rfl⟩
  have bW0 : Below w0.heap.size w0 W := by rw [← hW]; exact (Below.refl _ _).drew
  replace hL := hL.below b0
  replace hC := hC.below b0
  replace hQ := hQ.below b0
  have nL := hL.len
  have nC := hC.len
  have nQ := hQ.len
  replace hL := hL.below bW0
  replace hC := hC.below bW0
  replace hQ := hQ.below bW0
  have yW := y.below bW0
  have hS : W.cell? ⟨w.heap.size, 0, none⟩ = some (.int .i64 p) ∧ W.cell? ⟨w.heap.size, 1, none⟩ = some (.slice la ln lc) ∧ W.cell? ⟨w.heap.size, 2, none⟩ = some (.slice ca cn cc) ∧ W.cell? ⟨w.heap.size, 3, none⟩ = some (.slice qa qn qc) := ⟨yW.c0, yW.c1, yW.c2, yW.c3⟩
  have d1 : decide ((K : Int) < 1) = false := decide_eq_false (by omega)
  have d2 : decide ((4 : Int) < (K : Int)) = false := decide_eq_false (by omega)
  have d3 : decide (p < -4096) = false := decide_eq_false (by omega)
  have d4 : decide ((4096 : Int) < p) = false := decide_eq_false (by omega)
  have d5 : ((L.length : Int) == 0) = false := by rw [beq_eq_false_iff_ne]; omega
  have d5' : ¬ L.length = 0 := by omega
  have d6 : ((Q.length : Int) == 0) = false := by rw [beq_eq_false_iff_ne]; omega
  have d6' : ¬ Q.length = 0 := by omega
  have d7 : decide ((8192 : Int) < (L.length : Int)) = false := decide_eq_false (by omega)
  have d8 : decide ((8192 : Int) < (Q.length : Int)) = false := decide_eq_false (by omega)
  have d9 : decide ((16384 : Int) < (C.length : Int)) = false := decide_eq_false (by omega)
  have hall : Syms K ((L ++ C) ++ Q) := fun x hx => by
    rcases List.mem_append.1 hx with hx | hx
    · rcases List.mem_append.1 hx with hx | hx
      · exact sL x hx
      · exact sC x hx
    · exact sQ x hx
  have hidx := hall.odd
  have sW : w0.heap.size ≤ W.heap.size := bW0.size
  replace hidx := Lib.hid hidx
  replace hall := Lib.hid hall
  replace sL := Lib.hid sL
  replace sC := Lib.hid sC
  replace sQ := Lib.hid sQ
  replace hL := Lib.hid hL
  replace hC := Lib.hid hC
  replace hQ := Lib.hid hQ
  replace hw0 := Lib.hid hw0
  replace hW := Lib.hid hW
  replace yW := Lib.hid yW
  obtain ⟨y0, y1, y2, y3⟩ := y
  go_enter Tryz.func72, Tryz.ntmps72
  go_upto_region 1 with fail
  rw [hw0.out]
  go_upto_region 15 with fail
  refine wp_region_plan (fun w' => w'.cell? ⟨w.heap.size, 0, none⟩ = some (.int .i64 p) ∧ w'.cell? ⟨w.heap.size, 1, none⟩ = some (.slice la ln lc) ∧ w'.cell? ⟨w.heap.size, 2, none⟩ = some (.slice ca cn cc) ∧ w'.cell? ⟨w.heap.size, 3, none⟩ = some (.slice qa qn qc)) 9 [(0, true), (1, true), (3, true), (4, true), (6, true), (7, true), (2, false), (5, false), (8, false)] (by kernel_rfl) (by kernel_rfl) ?_
  rw [hW.out]
  clear y0 y1 y2 y3
  refine headY (v := ?_) (some 48) rfl rfl (Or.inl ⟨by rfl, ?_⟩) hS ?_
  rotate_left
  · rintro W' ⟨s0, s1, s2, s3⟩; go_simp; try with_reducible rfl
  simp only [Act.put, List.setIfInBounds_toArray, List.set_cons_zero, List.set_cons_succ]
  refine headY (v := ?_) (some 49) rfl rfl (Or.inl ⟨by rfl, ?_⟩) hS ?_
  rotate_left
  · rintro W' ⟨s0, s1, s2, s3⟩; go_simp; try with_reducible rfl
  simp only [Act.put, List.setIfInBounds_toArray, List.set_cons_zero, List.set_cons_succ]
  refine headY (v := ?_) (some 51) rfl rfl (Or.inl ⟨by rfl, ?_⟩) hS ?_
  rotate_left
  · rintro W' ⟨s0, s1, s2, s3⟩; go_simp; try with_reducible rfl
  simp only [Act.put, List.setIfInBounds_toArray, List.set_cons_zero, List.set_cons_succ]
  refine headY (v := ?_) (some 52) rfl rfl (Or.inl ⟨by rfl, ?_⟩) hS ?_
  rotate_left
  · rintro W' ⟨s0, s1, s2, s3⟩; go_simp; try with_reducible rfl
  simp only [Act.put, List.setIfInBounds_toArray, List.set_cons_zero, List.set_cons_succ]
  refine headY (v := ?_) (some 54) rfl rfl (Or.inl ⟨by rfl, ?_⟩) hS ?_
  rotate_left
  · rintro W' ⟨s0, s1, s2, s3⟩; go_simp; try with_reducible rfl
  simp only [Act.put, List.setIfInBounds_toArray, List.set_cons_zero, List.set_cons_succ]
  refine headY (v := ?_) (some 55) rfl rfl (Or.inl ⟨by rfl, ?_⟩) hS ?_
  rotate_left
  · rintro W' ⟨s0, s1, s2, s3⟩; go_simp; try with_reducible rfl
  simp only [Act.put, List.setIfInBounds_toArray, List.set_cons_zero, List.set_cons_succ]
  refine headC rfl (fun KK hK => ?_)
  go_simp
  refine (copy_any _ L W hL.out (by omega)).mono ?_
  rintro e w2 ⟨x, rfl, b2, hx⟩
  have y2 := yW.out.below b2
  have hS2 : w2.cell? ⟨w.heap.size, 0, none⟩ = some (.int .i64 p) ∧ w2.cell? ⟨w.heap.size, 1, none⟩ = some (.slice la ln lc) ∧ w2.cell? ⟨w.heap.size, 2, none⟩ = some (.slice ca cn cc) ∧ w2.cell? ⟨w.heap.size, 3, none⟩ = some (.slice qa qn qc) := ⟨y2.c0, y2.c1, y2.c2, y2.c3⟩
  obtain ⟨xa, xn, xc, rfl⟩ := hx.at.shape
  have hC2 := hC.out.below b2
  have hQ2 := hQ.out.below b2
  have s2 := b2.size
  refine hK _ _ hS2 ?_
  clear hK KK hS
  refine headC rfl (fun KK hK => ?_)
  refine step_appI rfl _ _ rfl W.heap.size (.slice xa xn xc) (.slice ca cn cc) L C rfl rfl hx hC2 (by omega) s2 ?_
  intro v3 w3 ho3 b3
  have c3 := b2.trans b3
  have y3 := yW.out.below c3
  have hS3 : w3.cell? ⟨w.heap.size, 0, none⟩ = some (.int .i64 p) ∧ w3.cell? ⟨w.heap.size, 1, none⟩ = some (.slice la ln lc) ∧ w3.cell? ⟨w.heap.size, 2, none⟩ = some (.slice ca cn cc) ∧ w3.cell? ⟨w.heap.size, 3, none⟩ = some (.slice qa qn qc) := ⟨y3.c0, y3.c1, y3.c2, y3.c3⟩
  have hQ3 := hQ.out.below c3
  have s3 := c3.size
  obtain ⟨v3a, v3n, v3c, rfl⟩ := ho3.at.shape
  replace hx := Lib.hid hx
  refine hK _ _ hS3 ?_
  clear hK KK hS2
  refine headC rfl (fun KK hK => ?_)
  refine step_appI rfl _ _ rfl W.heap.size (.slice v3a v3n v3c) (.slice qa qn qc) (L ++ C) Q rfl rfl ho3 hQ3 (by rw [List.length_append]; omega) s3 ?_
  intro v4 w4 ho4 b4
  have c4 := c3.trans b4
  have y4 := yW.out.below c4
  have hS4 : w4.cell? ⟨w.heap.size, 0, none⟩ = some (.int .i64 p) ∧ w4.cell? ⟨w.heap.size, 1, none⟩ = some (.slice la ln lc) ∧ w4.cell? ⟨w.heap.size, 2, none⟩ = some (.slice ca cn cc) ∧ w4.cell? ⟨w.heap.size, 3, none⟩ = some (.slice qa qn qc) := ⟨y4.c0, y4.c1, y4.c2, y4.c3⟩
  obtain ⟨v4a, v4n, v4c, rfl⟩ := ho4.at.shape
  replace ho3 := Lib.hid ho3
  refine hK _ _ hS4 ?_
  clear hK KK hS3
  refine head0 ?_
  simp only [List.drop_succ_cons, List.drop_zero]
  clear hS4
  go_wp2
  refine NoPanic.normal ?_
  go_wp2_with fail
  refine (ref_bad K _ _ w4 ho4.at).mono ?_
  rintro e w5 ⟨rfl, rfl⟩
  rw [hidx.out]
  have c5 := Below.step bW0 c4
  obtain ⟨⟨v0, v1, v2⟩, f0, f1, f2⟩ := q4.below c5
  replace ho4 := Lib.hid ho4
  go_wp2
  (try simp only [Exit.inBlock, Exit.then])
  exact bodyPost_ret (v := .agg #[.int .i64 0, .slice none 0 0, .slice none 0 0]) (by simp [results, Tryz.results72, go_sem, v0, v1, v2]) rfl ⟨_, rfl, below_set3 (Below.step b0 c5) (by omega) _ _ _, rfl⟩
end Go.Proofs.YtilpckngghffoaaGreatDoor

namespace Go.Proofs.YtilpckngghffoaaGreatDoor
open Go.RowKit
set_option maxRecDepth 100000

/-- The error that both answer. -/
def pgE (k R : Int) (T : List Int) : PErr :=
  match smallP k R T with
  | some t => under sPairs 0 (some t)
  | none => none
/-- The pairs that both answer. -/
def pgA (k R : Int) (T : List Int) (xs : List Int) : Prop :=
  match smallP k R T with
  | some _ => xs = []
  | none => ∃ L, LiveList (pw k.toNat (2 * wkR R.toNat) * pw k.toNat (2 * wkR R.toNat)) (adjOf (pairG k.toNat (pw k.toNat (2 * wkR R.toNat)) (wkT k.toNat R.toNat T))) L ∧ xs = castI (L.filter fun p => !decide (Diag (pw k.toNat (2 * wkR R.toNat)) p))
theorem pgE_fine (k R : Int) (T : List Int) : (pgE k R T).Fine := by
  unfold pgE
  cases h : smallP k R T with
  | some t =>
    obtain ⟨n, l⟩ := t
    have := smallP_num h
    refine ⟨by omega, by omega, ?_⟩
    simp only [List.length_cons]
    omega
  | none => trivial
theorem rapart_any (k R : Int) (va : Option Addr) (vn vc : Nat) (T : List Int) (w : World) (h : IntsAt w (.slice va vn vc) T) :
    Calls Tryz.prog 71 #[.agg #[.int .i64 k, .int .i64 R, .slice va vn vc]] w (Ret2 (fun x y w' => (∃ xs, pgA k R T xs ∧ IntsAt w' x xs) ∧ EOwn w.heap.size w' (pgE k R T) y) w) := by
  unfold pgA pgE
  cases hc : smallP k R T with
  | some t =>
    refine (ref13_apart_bad k R va vn vc T t w h hc).mono ?_
    rintro e w1 ⟨x, y, rfl, b1, rfl, hy⟩
    exact ⟨_, _, rfl, b1, ⟨[], rfl, (OwnI.nil 0 _).at⟩, hy⟩
  | none =>
    obtain ⟨hck, hl⟩ := smallP_none hc
    obtain ⟨K, Q, rfl, rfl, hr⟩ := checkP_none hck
    refine (ref13_apart_ok K Q va vn vc T w h hr hl).mono ?_
    rintro e w1 ⟨x, y, rfl, b1, rfl, L, hL, ho⟩
    exact ⟨_, _, rfl, b1, ⟨_, ⟨L, hL, rfl⟩, ho.at⟩, rfl⟩
end Go.Proofs.YtilpckngghffoaaGreatDoor

namespace Go.Proofs.YtilpckngghffoaaGreatDoor
open Go.RowKit
set_option maxRecDepth 100000

/-- Quotient and rest of small numbers, as the machine reckons them. -/
theorem dm (p N : Nat) (hp : p ≤ 100000000) : (p : Int).tdiv (N : Int) = ((p / N : Nat) : Int) ∧ (p : Int).tmod (N : Int) = ((p % N : Nat) : Int) ∧ (p : Int) / (N : Int) = ((p / N : Nat) : Int) ∧ (p : Int) % (N : Int) = ((p % N : Nat) : Int) ∧
    IntKind.i64.wrap ((p / N : Nat) : Int) = ((p / N : Nat) : Int) ∧ IntKind.i64.wrap ((p % N : Nat) : Int) = ((p % N : Nat) : Int) := by
  have h1 : p / N ≤ p := Nat.div_le_self _ _
  have h2 : p % N ≤ p := Nat.mod_le _ _
  refine ⟨by rw [Int.tdiv_eq_ediv_of_nonneg (by omega)]; simp, by rw [Int.tmod_eq_emod_of_nonneg (by omega)]; simp, by simp, by simp, ?_, ?_⟩
  · generalize p / N = a at *; exact wrapK (by omega) (by omega)
  · generalize p % N = a at *; exact wrapK (by omega) (by omega)

end Go.Proofs.YtilpckngghffoaaGreatDoor

namespace Go.Proofs.YtilpckngghffoaaGreatDoor
open Go.RowKit
set_option maxRecDepth 100000

theorem Rows.void (B : Nat) (w : World) : Rows B w (fun _ => Option.none) := by
  refine ⟨?_, ?_⟩
  · intro i r h; cases h
  · intro i j r s h; cases h
theorem Rows.push {B : Nat} {w w1 : World} {f : Names} {i : Nat × Nat} {v v' : Value} {xs : List Int} (h : Rows B w f) (hi : f i = some (rowI v xs)) (x : Int) (ho : OwnI B w1 v' (xs ++ [x]))
    (hg : w.grownBy w1 v.ownBlock) (hal : v'.ownBlock = v.ownBlock ∨ ∃ k, v'.ownBlock = some k ∧ w.heap.size ≤ k) : Rows B w1 (upd f i (some (rowI v' (xs ++ [x])))) :=
  h.grown (r' := rowI v' (xs ++ [x])) hi hg ho hal
end Go.Proofs.YtilpckngghffoaaGreatDoor

namespace Go.Proofs.YtilpckngghffoaaGreatDoor
open Go.RowKit
set_option maxRecDepth 100000

/-- slices.IndexFunc at a function value that only looks, with two captured variables. -/
theorem indexFunc2_any (v b c : Value) (F : Nat) (xs : List Int) (p : Int → Bool) (w : World) (h : IntsAt w v xs)
    (eg : ∀ args w, (callFunc F args).run Tryz.prog w = .ok (.enter F args) w)
    (hF : ∀ x : Int, x ∈ xs → ∀ n, Calls Tryz.prog F #[.int .i64 x, b, c] (w.drewN n) (RetB (p x) (w.drewN n))) :
    Calls Tryz.prog 97 #[v, .func (.func F) #[] #[b, c]] w fun e w' => ∃ n, e = .returned (.int .i64 (idxOf p xs)) ∧ w' = w.drewN n := by
  have hlen := h.len
  have hm := h.len_le
  replace hF := Lib.hid hF
  go_enter Tryz.func97, Tryz.ntmps97
  go_wp2
  go_loopw [8] (fun i wr => (∃ k : Nat, k ≤ xs.length ∧ i = .int .i64 k ∧ ∀ j (hj : j < xs.length), j < k → p xs[j] = false) ∧ ∃ n, wr = w.drewN n) (fun i _ => xs.length - (intOf i).toNat)
  case atStart => exact ⟨⟨0, by omega, rfl, by intro t _ h; omega⟩, 0, rfl⟩
  case round =>
    obtain ⟨⟨k, hk, rfl, hp⟩, n, rfl⟩ := hrel
    replace hp := Lib.hid hp
    by_cases hlt : k < xs.length
    · have hi := h.idx k hlt
      have hc : (w.drewN n).cell? (valAt v k) = some (.int .i64 xs[k]) := h.cell k hlt
      have hf := Lib.hid (hF.out xs[k] (by simp) n)
      go_wp2_with fail
      refine hf.out.mono ?_
      rintro e w' ⟨n2, rfl, rfl⟩
      cases hpk : p xs[k]
      · have HP := Lib.hid hpk
        go_wp2
        go_roundw
        case rel =>
          refine ⟨⟨k+1, by omega, by go_num, ?_⟩, _, rfl⟩
          intro j hj hjk
          by_cases e : j = k
          · subst e; exact HP.out
          · exact hp.out j hj (by omega)
        case measure => simp [intOf]; omega
      · have HP := Lib.hid hpk
        go_wp2
        go_ret
        exact ⟨_, ret_int (idxOf_at k hlt HP.out fun j hj h => hp.out j hj h).symm, rfl⟩
    · go_wp2
      go_ret
      refine ⟨n, ret_int (idxOf_neg fun x hx => ?_).symm, rfl⟩
      obtain ⟨j, hj, rfl⟩ := List.mem_iff_getElem.1 hx
      exact hp.out j hj (by omega)
theorem idxOf_any (p : Int → Bool) (xs : List Int) : (0 ≤ idxOf p xs) ↔ ∃ x ∈ xs, p x = true := by
  rcases idxOf_cases p xs with ⟨h1, h2⟩ | ⟨k, h1, h2, h3, _⟩
  · rw [h1]
    exact ⟨fun h => by omega, fun ⟨x, hx, hp⟩ => by rw [h2 x hx] at hp; cases hp⟩
  · rw [h1]
    exact ⟨fun _ => ⟨_, List.getElem_mem h2, h3⟩, fun _ => by omega⟩
theorem containsFunc2_any (v b c : Value) (F : Nat) (xs : List Int) (p : Int → Bool) (w : World) (h : IntsAt w v xs)
    (eg : ∀ args w, (callFunc F args).run Tryz.prog w = .ok (.enter F args) w)
    (hF : ∀ x : Int, x ∈ xs → ∀ n, Calls Tryz.prog F #[.int .i64 x, b, c] (w.drewN n) (RetB (p x) (w.drewN n))) :
    Calls Tryz.prog 61 #[v, .func (.func F) #[] #[b, c]] w (RetB (decide (0 ≤ idxOf p xs)) w) := by
  have hI := indexFunc2_any v b c F xs p w h eg hF
  clear hF eg
  go_enter Tryz.func61, Tryz.ntmps61
  go_wp2_with fail
  refine hI.mono ?_
  rintro e w' ⟨n, rfl, rfl⟩
  go_wp2
  go_ret
  exact ⟨n, ret_bool (by simp), rfl⟩

set_option maxHeartbeats 1000000 in
theorem loops1_any (t v bp bv : Nat) (pv : Value) (ps : List Int) (w : World) (hp : IntsAt w pv ps) (c1 : w.cell? ⟨bp, 0, none⟩ = some pv) (c2 : w.cell? ⟨bv, 0, none⟩ = some (.int .i64 v)) (ht : t < ps.length) (hv : v < ps.length) :
    Calls Tryz.prog 137 #[.int .i64 t, .pointer (some ⟨bp, 0, none⟩), .pointer (some ⟨bv, 0, none⟩)] w (RetB (decide (ps.getD t 0 = ps.getD v 0)) w) := by
  have iT := fun w' => hp.idx t ht w'
  have cT := hp.cellD t ht
  have iV := fun w' => hp.idx v hv w'
  have cV := hp.cellD v hv
  generalize ps.getD t 0 = a at *
  generalize ps.getD v 0 = b at *
  have heq : (a == b) = decide (a = b) := by by_cases e : a = b <;> simp [e]
  generalize valAt pv t = ta at *
  generalize valAt pv v = va at *
  replace hp := Lib.hid hp
  replace heq := Lib.hid heq
  generalize hd : decide (a = b) = d at *
  go_enter Tryz.func137, Tryz.ntmps137
  go_upto_region 1 with fail
  refine wp_region_plan (fun w' => w'.cell? ⟨bp, 0, none⟩ = some pv ∧ w'.cell? ⟨bv, 0, none⟩ = some (.int .i64 v) ∧ w'.cell? ta = some (.int .i64 a) ∧ w'.cell? va = some (.int .i64 b)) 9 [(0, true), (1, true), (2, true), (3, true), (4, true), (5, true), (6, true), (7, true), (8, true)] (by kernel_rfl) (by kernel_rfl) ?_
  have hS : w.drew.cell? ⟨bp, 0, none⟩ = some pv ∧ w.drew.cell? ⟨bv, 0, none⟩ = some (.int .i64 v) ∧ w.drew.cell? ta = some (.int .i64 a) ∧ w.drew.cell? va = some (.int .i64 b) := ⟨c1, c2, cT, cV⟩
  refine headY (v := ?_) (some 5) rfl rfl (Or.inl ⟨by rfl, ?_⟩) hS ?_
  rotate_left
  · rintro W' ⟨s0, s1, s2, s3⟩; go_simp; try with_reducible rfl
  simp only [Act.put, List.setIfInBounds_toArray, List.set_cons_zero, List.set_cons_succ]
  refine headY (v := ?_) (some 6) rfl rfl (Or.inl ⟨by rfl, ?_⟩) hS ?_
  rotate_left
  · rintro W' ⟨s0, s1, s2, s3⟩; go_simp; try with_reducible rfl
  simp only [Act.put, List.setIfInBounds_toArray, List.set_cons_zero, List.set_cons_succ]
  refine headY (v := ?_) (some 7) rfl rfl (Or.inl ⟨by rfl, ?_⟩) hS ?_
  rotate_left
  · rintro W' ⟨s0, s1, s2, s3⟩; go_simp; try with_reducible rfl
  simp only [Act.put, List.setIfInBounds_toArray, List.set_cons_zero, List.set_cons_succ]
  refine headY (v := ?_) (some 8) rfl rfl (Or.inl ⟨by rfl, ?_⟩) hS ?_
  rotate_left
  · rintro W' ⟨s0, s1, s2, s3⟩; go_simp; try with_reducible rfl
  simp only [Act.put, List.setIfInBounds_toArray, List.set_cons_zero, List.set_cons_succ]
  refine headY (v := ?_) (some 9) rfl rfl (Or.inl ⟨by rfl, ?_⟩) hS ?_
  rotate_left
  · rintro W' ⟨s0, s1, s2, s3⟩; go_simp; try with_reducible rfl
  simp only [Act.put, List.setIfInBounds_toArray, List.set_cons_zero, List.set_cons_succ]
  refine headY (v := ?_) (some 10) rfl rfl (Or.inl ⟨by rfl, ?_⟩) hS ?_
  rotate_left
  · rintro W' ⟨s0, s1, s2, s3⟩; go_simp; try with_reducible rfl
  simp only [Act.put, List.setIfInBounds_toArray, List.set_cons_zero, List.set_cons_succ]
  refine headY (v := ?_) (some 11) rfl rfl (Or.inl ⟨by rfl, ?_⟩) hS ?_
  rotate_left
  · rintro W' ⟨s0, s1, s2, s3⟩; go_simp; try with_reducible rfl
  simp only [Act.put, List.setIfInBounds_toArray, List.set_cons_zero, List.set_cons_succ]
  refine headY (v := ?_) (some 12) rfl rfl (Or.inl ⟨by rfl, ?_⟩) hS ?_
  rotate_left
  · rintro W' ⟨s0, s1, s2, s3⟩; go_simp; try with_reducible rfl
  simp only [Act.put, List.setIfInBounds_toArray, List.set_cons_zero, List.set_cons_succ]
  refine headY (v := ?_) (some 13) rfl rfl (Or.inl ⟨by rfl, ?_⟩) hS ?_
  rotate_left
  · rintro W' ⟨s0, s1, s2, s3⟩; go_simp; try with_reducible rfl
  simp only [Act.put, List.setIfInBounds_toArray, List.set_cons_zero, List.set_cons_succ]
  refine head0 ?_
  simp only [List.drop_succ_cons, List.drop_zero]
  clear hS
  go_wp2
  refine NoPanic.normal ?_
  go_wp2
  go_ret
  exact ⟨1, ret_bool heq.out, rfl⟩
theorem eg_loops1 (args : Array Value) (w : World) : (callFunc 137 args).run Tryz.prog w = .ok (.enter 137 args) w := by kernel_rfl

set_option maxHeartbeats 4000000 in
theorem loops14_any (r : Nat → Addr) (na : Option Addr) (nc : Nat) (G : List (List Int)) (w : World) (hg : Glob r w) (h : ListsAt w (.slice na G.length nc) G) (hsz : ∀ k, k < G.length → (G.getD k []).length ≤ 17592186044416) (hck : checkG G = none) (hok : GraphOk G) (hn : G.length ≤ 8200) :
    Calls Tryz.prog 103 #[.slice na G.length nc] w (Ret2 (fun x y w' => y = .nilIface ∧ ∃ on : Nat → Bool, OwnV 4 w.heap.size w' x (tabB G.length on) ∧ ∀ v, v < G.length → (on v = true ↔ OnLoop (adjOf G) v)) w) := by
  have hP := parts_any r na nc G w hg h hsz
  have hlg := h.len 3 w
  replace h := Lib.hid h
  replace hok := Lib.hid hok
  replace hck := Lib.hid hck
  go_enter Tryz.func103, Tryz.ntmps103
  go_wp2_with fail
  refine hP.mono ?_
  rintro e w1 ⟨pv, y, rfl, b1, hE, hps, -⟩
  rw [hck.out] at hE
  obtain rfl := hE.none_eq
  obtain ⟨ps, hpo, ho⟩ := hps hck.out
  have hpl := hpo.len
  obtain ⟨pa, pn, pc, rfl⟩ := ho.at.shape
  have b1a := belowAlloc w1 (.cells #[.slice pa pn pc] 22)
  obtain ⟨W1, hW1⟩ : ∃ W1 : World, W1 = w1.alloc (.cells #[.slice pa pn pc] 22) := ⟨_, rfl⟩
  have R1 := (Rows.void w.heap.size w).add (i := (2, 0)) (r' := rowI (.slice pa pn pc) ps) b1 ho (fun k hk => (ho.lt k hk).1)
  have hbx : OwnV 22 w1.heap.size (w1.alloc (.cells #[.slice pa pn pc] 22)) (.slice (some ⟨w1.heap.size, 0, none⟩) 1 1) [.slice pa pn pc] :=
    World.ownsRow_lit (base := w1.heap.size) (e := 22) (size := 1) w1 #[.slice pa pn pc] 1 (Nat.le_refl _) (by decide) rfl
  have R2 := R1.add (i := (3, 0)) (r' := rowV 22 (.slice (some ⟨w1.heap.size, 0, none⟩) 1 1) [.slice pa pn pc]) b1a (hbx.mono b1.size) (fun k hk => by cases hk; exact Nat.le_refl _)
  rw [← hW1] at R2 b1a
  have bW1 := Below.step b1 b1a
  obtain ⟨ov, w2, mk, hin, hb2⟩ := run_makeW oneBoolG (G.length : Int) G.length W1 rfl (by omega)
  obtain ⟨oa, on', oc, rfl⟩ := hin.shape
  rw [← tabB_none] at hin
  have R3 := R2.add (i := (1, 0)) (r' := rowV 4 (.slice oa on' oc) (tabB G.length fun _ => false)) hb2 (hin.mono bW1.size) (fun k hk => (hin.lt k hk).1)
  have bW2 := Below.step bW1 hb2
  have hf1 : upd (upd (upd (fun _ => Option.none) (2, 0) (some (rowI (.slice pa pn pc) ps))) (3, 0) (some (rowV 22 (.slice (some ⟨w1.heap.size, 0, none⟩) 1 1) [.slice pa pn pc]))) (1, 0) (some (rowV 4 (.slice oa on' oc) (tabB G.length fun _ => false))) (2, 0) = some (rowI (.slice pa pn pc) ps) := by rw [upd_ne _ _ (by simp), upd_ne _ _ (by simp), upd_same]
  have hf2 : upd (upd (upd (fun _ => Option.none) (2, 0) (some (rowI (.slice pa pn pc) ps))) (3, 0) (some (rowV 22 (.slice (some ⟨w1.heap.size, 0, none⟩) 1 1) [.slice pa pn pc]))) (1, 0) (some (rowV 4 (.slice oa on' oc) (tabB G.length fun _ => false))) (3, 0) = some (rowV 22 (.slice (some ⟨w1.heap.size, 0, none⟩) 1 1) [.slice pa pn pc]) := by rw [upd_ne _ _ (by simp), upd_same]
  have hf3 : upd (upd (upd (fun _ => Option.none) (2, 0) (some (rowI (.slice pa pn pc) ps))) (3, 0) (some (rowV 22 (.slice (some ⟨w1.heap.size, 0, none⟩) 1 1) [.slice pa pn pc]))) (1, 0) (some (rowV 4 (.slice oa on' oc) (tabB G.length fun _ => false))) (1, 0) = some (rowV 4 (.slice oa on' oc) (tabB G.length fun _ => false)) := by rw [upd_same]
  generalize upd (upd (upd (fun _ => Option.none) (2, 0) (some (rowI (.slice pa pn pc) ps))) (3, 0) (some (rowV 22 (.slice (some ⟨w1.heap.size, 0, none⟩) 1 1) [.slice pa pn pc]))) (1, 0) (some (rowV 4 (.slice oa on' oc) (tabB G.length fun _ => false))) = f1 at *
  replace hf1 := Lib.hid hf1
  replace hf2 := Lib.hid hf2
  replace hf3 := Lib.hid hf3
  replace R3 := Lib.hid R3
  replace hpo := Lib.hid hpo
  replace hpl := Lib.hid hpl
  clear hE hps ho R1 R2 hbx hin hP
  go_upto_region 4 with fail
  rw [← hW1]
  replace hW1 := Lib.hid hW1
  go_wp2_with fail
  clear mk
  go_loopw [22] (fun kv wr => ∃ (k : Nat) (F : Nat → Bool) (f : Names), k ≤ G.length ∧ kv = .int .i64 k ∧ Rows w.heap.size wr f ∧ Below w.heap.size w wr ∧ f (2, 0) = some (rowI (.slice pa pn pc) ps) ∧ f (3, 0) = some (rowV 22 (.slice (some ⟨w1.heap.size, 0, none⟩) 1 1) [.slice pa pn pc]) ∧ f (1, 0) = some (rowV 4 (.slice oa on' oc) (tabB G.length F)) ∧ ∀ x, x < k → (F x = true ↔ OnLoop (adjOf G) x)) (fun kv _ => G.length - (intOf kv).toNat)
  case atStart => exact ⟨0, _, f1, Nat.zero_le _, rfl, R3.out, bW2, hf1.out, hf2.out, hf3.out, fun x hx => by omega⟩
  case round =>
    clear R3 hf1 hf2 hf3
    obtain ⟨k, F, f2, hk, rfl, hR, hB, g2, g3, g1, hF⟩ := hrel
    obtain ⟨wo, rfl⟩ : ∃ wo : World, wo = wr := ⟨_, rfl⟩
    by_cases hlt : k < G.length
    · obtain ⟨mv, iR, cR0, hM0⟩ := h.out.row k hlt
      have cR := (hB.cell (World.block_lt_of_cell? _ _ cR0)).trans cR0
      have hM := hM0.below hB
      have hgp := hok.out k hlt
      have hon := onLoop_parts hok.out hpo.out hlt
      have hadj : adjOf G k = (G.getD k []).map Int.toNat := rfl
      rw [hadj] at hon
      generalize G.getD k [] = gx at *
      generalize valAt (.slice na G.length nc) k = ra at *
      obtain ⟨ma, mn, mc, rfl⟩ := hM.shape
      have ba := belowAlloc wo (.cells #[.int .i64 (k : Int)] 3)
      have cV : (wo.alloc (.cells #[.int .i64 (k : Int)] 3)).cell? ⟨wo.heap.size, 0, none⟩ = some (.int .i64 k) := by simp [go_sem]
      obtain ⟨W, hW⟩ : ∃ W : World, W = (wo.alloc (.cells #[.int .i64 (k : Int)] 3)).drew := ⟨_, rfl⟩
      have bW : Below wo.heap.size wo W := by rw [hW]; exact ba.drew
      have cVW : W.cell? ⟨wo.heap.size, 0, none⟩ = some (.int .i64 k) := by rw [hW]; exact cV
      have hRW := hR.below bW
      have hpW := (hRW.ownI g2).at
      have hMW := hM.below bW
      have cP : W.cell? ⟨w1.heap.size, 0, none⟩ = some (.slice pa pn pc) := by
        have := hRW.cell g3 (g := w1.heap.size) (cap := 1) rfl 0 (by simp)
        simpa using this
      have hcl : ∀ x : Int, x ∈ gx → ∀ n, Calls Tryz.prog 137 #[.int .i64 x, .pointer (some ⟨w1.heap.size, 0, none⟩), .pointer (some ⟨wo.heap.size, 0, none⟩)] (W.drewN n) (RetB (decide (ps.getD x.toNat 0 = ps.getD k 0)) (W.drewN n)) := fun x hx n => by
        obtain ⟨p1, p2⟩ := hgp x hx
        obtain ⟨t, rfl⟩ : ∃ t : Nat, x = t := Int.eq_ofNat_of_zero_le p1
        rw [Int.toNat_natCast]
        exact loops1_any t k w1.heap.size wo.heap.size (.slice pa pn pc) ps (W.drewN n) (hpW.drewN n) cP cVW (by rw [hpl.out]; omega) (by rw [hpl.out]; exact hlt)
      have hcf := containsFunc2_any (.slice ma mn mc) (.pointer (some ⟨w1.heap.size, 0, none⟩)) (.pointer (some ⟨wo.heap.size, 0, none⟩)) 137 gx (fun x => decide (ps.getD x.toNat 0 = ps.getD k 0)) W hMW eg_loops1 hcl
      obtain ⟨bb, hbb⟩ : ∃ bb, decide (0 ≤ idxOf (fun x => decide (ps.getD x.toNat 0 = ps.getD k 0)) gx) = bb := ⟨_, rfl⟩
      rw [hbb] at hcf
      have hF2 : ∀ x, x < k + 1 → (updN F k bb x = true ↔ OnLoop (adjOf G) x) := fun x hx => by
        by_cases e : x = k
        · subst e
          rw [updN_same, hon, ← hbb, decide_eq_true_iff, idxOf_any]
          constructor
          · rintro ⟨z, hz, hzp⟩
            exact ⟨z.toNat, List.mem_map.2 ⟨z, hz, rfl⟩, of_decide_eq_true hzp⟩
          · rintro ⟨t, ht, htp⟩
            obtain ⟨z, hz, rfl⟩ := List.mem_map.1 ht
            exact ⟨z, hz, decide_eq_true htp⟩
        · rw [updN_other _ _ _ e]; exact hF x (by omega)
      have hOV0 := hRW.ownV g1
      have iO := fun w' => hOV0.at.idx oneBoolG k (by rw [tabB_len]; exact hlt) w'
      replace hbb := Lib.hid hbb
      replace hF2 := Lib.hid hF2
      replace hF := Lib.hid hF
      replace hcf := Lib.hid hcf
      replace hcl := Lib.hid hcl
      replace hon := Lib.hid hon
      replace hgp := Lib.hid hgp
      replace hadj := Lib.hid hadj
      replace hR := Lib.hid hR
      replace hRW := Lib.hid hRW
      replace hOV0 := Lib.hid hOV0
      replace hM := Lib.hid hM
      replace hM0 := Lib.hid hM0
      replace hMW := Lib.hid hMW
      replace hpW := Lib.hid hpW
      replace g1 := Lib.hid g1
      replace g2 := Lib.hid g2
      replace g3 := Lib.hid g3
      clear cR0 cP
      go_upto_region 8 with fail
      refine wp_region_plan (fun w' => w'.cell? ⟨wo.heap.size, 0, none⟩ = some (.int .i64 k)) 6 [(0, true), (1, true), (2, true), (3, true), (4, false), (5, true)] (by kernel_rfl) (by kernel_rfl) ?_
      rw [← hW]
      replace hW := Lib.hid hW
      have hS : W.cell? ⟨wo.heap.size, 0, none⟩ = some (.int .i64 k) := cVW
      refine headY (v := ?_) (some 27) rfl rfl (Or.inl ⟨by rfl, ?_⟩) hS ?_
      rotate_left
      · rintro W' s0; go_simp; try with_reducible rfl
      simp only [Act.put, List.setIfInBounds_toArray, List.set_cons_zero, List.set_cons_succ]
      refine headY (v := ?_) (some 28) rfl rfl (Or.inl ⟨by rfl, ?_⟩) hS ?_
      rotate_left
      · rintro W' s0; go_simp; try with_reducible rfl
      simp only [Act.put, List.setIfInBounds_toArray, List.set_cons_zero, List.set_cons_succ]
      refine headY (v := ?_) (some 29) rfl rfl (Or.inl ⟨by rfl, ?_⟩) hS ?_
      rotate_left
      · rintro W' s0; go_simp; try with_reducible rfl
      simp only [Act.put, List.setIfInBounds_toArray, List.set_cons_zero, List.set_cons_succ]
      refine headY (v := ?_) (some 30) rfl rfl (Or.inl ⟨by rfl, ?_⟩) hS ?_
      rotate_left
      · rintro W' s0; go_simp; try with_reducible rfl
      simp only [Act.put, List.setIfInBounds_toArray, List.set_cons_zero, List.set_cons_succ]
      refine headC rfl (fun KK hK => ?_)
      go_simp
      refine hcf.out.mono ?_
      rintro e w5 h5
      obtain ⟨n5, rfl, rfl⟩ := h5
      have hS5 : (W.drewN n5).cell? ⟨wo.heap.size, 0, none⟩ = some (.int .i64 k) := cVW
      refine hK _ _ hS5 ?_
      clear hK KK
      refine headY (v := ?_) (some 32) rfl rfl (Or.inl ⟨by rfl, ?_⟩) hS5 ?_
      rotate_left
      · rintro W' s0; go_simp; try with_reducible rfl
      simp only [Act.put, List.setIfInBounds_toArray, List.set_cons_zero, List.set_cons_succ]
      refine head0 ?_
      simp only [List.drop_succ_cons, List.drop_zero]
      clear hS hS5
      have b5 : Below wo.heap.size wo (W.drewN n5) := below_drewN bW n5
      have hR5 := hRW.out.drewN n5
      have hOV := hR5.ownV g1.out
      have cT := hOV.at.cellV k (by rw [tabB_len]; exact hlt)
      rw [tabB_get _ _ _ hlt] at cT
      have fT := hOV.frz k (by rw [tabB_len]; exact hlt)
      have kT := (hOV.blkB k (by rw [tabB_len]; exact hlt)).2
      have hR6 := hR5.setV g1.out k (by rw [tabB_len]; exact hlt) (.bool bb)
      rw [tabB_upd] at hR6
      have b6 : Below w.heap.size w ((W.drewN n5).setCell (valAt (.slice oa on' oc) k) (.bool bb)) := (hB.trans (b5.mono hB.size)).setCell kT _
      generalize valAt (.slice oa on' oc) k = ta at *
      replace hR5 := Lib.hid hR5
      replace hR6 := Lib.hid hR6
      replace hOV := Lib.hid hOV
      clear iO
      go_wp2
      refine NoPanic.normal ?_
      go_wp2
      go_roundw
      case measure => simp [intOf]; omega
      case rel => exact ⟨k + 1, _, _, by omega, by go_num, hR6.out, b6, by rw [upd_ne _ _ (by simp)]; exact g2.out, by rw [upd_ne _ _ (by simp)]; exact g3.out, by rw [upd_same], hF2.out⟩
    · obtain rfl : k = G.length := by omega
      have hres := hR.ownV g1
      replace hres := Lib.hid hres
      replace hF := Lib.hid hF
      replace hR := Lib.hid hR
      replace g1 := Lib.hid g1
      replace g2 := Lib.hid g2
      replace g3 := Lib.hid g3
      go_wp2
      go_ret2
      exact ⟨_, _, rfl, hB, rfl, F, hres.out, hF.out⟩
end Go.Proofs.YtilpckngghffoaaGreatDoor

namespace Go.Proofs.YtilpckngghffoaaGreatDoor

/-- The queue behind the arrows of one vertex. -/
def extQ (q : List Nat) (l : List Nat) : List Nat := l.foldl (fun q t => if t ∈ q then q else q ++ [t]) q
theorem extQ_nil (q : List Nat) : extQ q [] = q := rfl
theorem extQ_snoc (q l : List Nat) (t : Nat) : extQ q (l ++ [t]) = if t ∈ extQ q l then extQ q l else extQ q l ++ [t] := by
  unfold extQ; rw [List.foldl_append]; rfl
/-- The queue when i of its vertices are gone through. -/
def runQ (adj : Nat → List Nat) (v : Nat) : Nat → List Nat
  | 0 => [v]
  | i + 1 => match (runQ adj v i)[i]? with
    | some u => extQ (runQ adj v i) (adj u)
    | none => runQ adj v i
theorem runQ_succ {adj : Nat → List Nat} {v i u : Nat} (h : (runQ adj v i)[i]? = some u) : runQ adj v (i + 1) = extQ (runQ adj v i) (adj u) := by
  rw [runQ, h]
/-- The first in the queue that is wanted. -/
def NearIs (adj : Nat → List Nat) (P : Nat → Prop) (v u : Nat) : Prop := ∃ i, (runQ adj v i)[i]? = some u ∧ P u ∧ ∀ j, j < i → ∀ x, (runQ adj v j)[j]? = some x → ¬ P x
/-- The search so far: i vertices gone through, none of them wanted, j arrows of the next. -/
def NRun (adj : Nat → List Nat) (P : Nat → Prop) (v : Nat) (q : List Nat) (i : Nat) : Prop := q = runQ adj v i ∧ ∀ j, j < i → ∀ x, (runQ adj v j)[j]? = some x → ¬ P x
def NRunIn (adj : Nat → List Nat) (P : Nat → Prop) (v : Nat) (q : List Nat) (i u j : Nat) : Prop := q = extQ (runQ adj v i) ((adj u).take j) ∧ (runQ adj v i)[i]? = some u ∧ ¬ P u ∧ ∀ j, j < i → ∀ x, (runQ adj v j)[j]? = some x → ¬ P x
theorem NRun.start (adj : Nat → List Nat) (P : Nat → Prop) (v : Nat) : NRun adj P v [v] 0 := ⟨rfl, fun _ h => absurd h (Nat.not_lt_zero _)⟩
theorem NRun.hit {adj : Nat → List Nat} {P : Nat → Prop} {v : Nat} {q : List Nat} {i u : Nat} (h : NRun adj P v q i) (hu : q[i]? = some u) (hp : P u) : NearIs adj P v u := ⟨i, by rw [← h.1]; exact hu, hp, h.2⟩
theorem NRun.enter {adj : Nat → List Nat} {P : Nat → Prop} {v : Nat} {q : List Nat} {i u : Nat} (h : NRun adj P v q i) (hu : q[i]? = some u) (hp : ¬ P u) : NRunIn adj P v q i u 0 := ⟨by rw [List.take_zero, extQ_nil]; exact h.1, by rw [← h.1]; exact hu, hp, h.2⟩
theorem NRunIn.push {adj : Nat → List Nat} {P : Nat → Prop} {v : Nat} {q : List Nat} {i u j t : Nat} (h : NRunIn adj P v q i u j) (ht : (adj u)[j]? = some t) (hq : t ∉ q) : NRunIn adj P v (q ++ [t]) i u (j + 1) := by
  refine ⟨?_, h.2⟩
  rw [List.take_add_one, ht, Option.toList_some, extQ_snoc, ← h.1, if_neg hq]
theorem NRunIn.old {adj : Nat → List Nat} {P : Nat → Prop} {v : Nat} {q : List Nat} {i u j t : Nat} (h : NRunIn adj P v q i u j) (ht : (adj u)[j]? = some t) (hq : t ∈ q) : NRunIn adj P v q i u (j + 1) := by
  refine ⟨?_, h.2⟩
  rw [List.take_add_one, ht, Option.toList_some, extQ_snoc, ← h.1, if_pos hq]
theorem NRunIn.leave {adj : Nat → List Nat} {P : Nat → Prop} {v : Nat} {q : List Nat} {i u : Nat} (h : NRunIn adj P v q i u (adj u).length) : NRun adj P v q (i + 1) := by
  refine ⟨?_, fun j hj x hx => ?_⟩
  · rw [runQ_succ h.2.1, h.1, List.take_length]
  · by_cases e : j = i
    · subst e
      rw [h.2.1] at hx
      obtain rfl := Option.some.inj hx
      exact h.2.2.1
    · exact h.2.2.2 j (by omega) x hx
end Go.Proofs.YtilpckngghffoaaGreatDoor

namespace Go.Proofs.YtilpckngghffoaaGreatDoor
open Go.RowKit
set_option maxRecDepth 100000

/-- The search: the queue's vertices are those that are seen; behind the first i all arrows have been followed. -/
structure NInv (n : Nat) (adj : Nat → List Nat) (v : Nat) (on m : Nat → Bool) (q : List Nat) (i : Nat) : Prop where
  nd : q.Nodup
  low : ∀ x ∈ q, x < n ∧ Goes adj v x
  seen : ∀ x, x < n → (m x = true ↔ x ∈ q)
  st : v ∈ q
  dn : ∀ j x, j < i → q[j]? = some x → on x = false ∧ ∀ t ∈ adj x, t ∈ q
theorem NInv.start {n : Nat} {adj : Nat → List Nat} {v : Nat} {on : Nat → Bool} (hv : v < n) : NInv n adj v on (updN (fun _ => false) v true) [v] 0 :=
  ⟨by simp, fun x hx => by rw [List.mem_singleton] at hx; subst hx; exact ⟨hv, .refl _⟩, fun x _ => by
    by_cases e : x = v
    · subst e; simp [updN_same]
    · rw [updN_other _ _ _ e]; simp [e], by simp, fun j x h => absurd h (Nat.not_lt_zero _)⟩
theorem NInv.len {n : Nat} {adj : Nat → List Nat} {v : Nat} {on m : Nat → Bool} {q : List Nat} {i : Nat} (h : NInv n adj v on m q i) : q.length ≤ n := nodup_len n q h.nd fun x hx => (h.low x hx).1
theorem NInv.push {n : Nat} {adj : Nat → List Nat} {v : Nat} {on m : Nat → Bool} {q : List Nat} {i u t : Nat} (h : NInv n adj v on m q i) (hu : u ∈ q) (ht : t ∈ adj u) (htn : t < n) (hm : m t = false) (hi : i ≤ q.length) : NInv n adj v on (updN m t true) (q ++ [t]) i := by
  have hnt : t ∉ q := fun e => by have := (h.seen t htn).2 e; rw [hm] at this; cases this
  refine ⟨List.nodup_append.2 ⟨h.nd, by simp, fun a ha b hb e => by rw [List.mem_singleton] at hb; subst hb; subst e; exact hnt ha⟩, fun x hx => ?_, fun x hx => ?_, List.mem_append_left _ h.st, fun j x hj hx => ?_⟩
  · rcases List.mem_append.1 hx with hx | hx
    · exact h.low x hx
    · rw [List.mem_singleton] at hx; subst hx; exact ⟨htn, (h.low u hu).2.step ht⟩
  · rw [List.mem_append, List.mem_singleton]
    by_cases e : x = t
    · subst e; simp [updN_same]
    · rw [updN_other _ _ _ e, h.seen x hx]; simp [e]
  · rw [List.getElem?_append_left (by omega)] at hx
    obtain ⟨h1, h2⟩ := h.dn j x hj hx
    exact ⟨h1, fun s hs => List.mem_append_left _ (h2 s hs)⟩
theorem NInv.next {n : Nat} {adj : Nat → List Nat} {v : Nat} {on m : Nat → Bool} {q : List Nat} {i u : Nat} (h : NInv n adj v on m q i) (hu : q[i]? = some u) (ho : on u = false) (ha : ∀ t ∈ adj u, t ∈ q) : NInv n adj v on m q (i + 1) :=
  ⟨h.nd, h.low, h.seen, h.st, fun j x hj hx => by
    by_cases e : j = i
    · subst e; rw [hu] at hx; cases hx; exact ⟨ho, ha⟩
    · exact h.dn j x (by omega) hx⟩
theorem NInv.stop {n : Nat} {adj : Nat → List Nat} {v : Nat} {on m : Nat → Bool} {q : List Nat} (h : NInv n adj v on m q q.length) {u : Nat} (ho : on u = true) (hg : Goes adj v u) : False := by
  have hc : u ∈ q := Goes.closed (P := fun x => x ∈ q) (fun x hx t ht => by
    obtain ⟨j, hj, e⟩ := List.mem_iff_getElem.1 hx
    exact (h.dn j x hj (by rw [List.getElem?_eq_getElem hj, e])).2 t ht) hg h.st
  obtain ⟨j, hj, e⟩ := List.mem_iff_getElem.1 hc
  have := (h.dn j u hj (by rw [List.getElem?_eq_getElem hj, e])).1
  rw [ho] at this; cases this

/-- The search's memory. -/
structure NB (f : Names) (sv qv : Value) (n : Nat) (m : Nat → Bool) (q : List Nat) : Prop where
  outs : f (1, 0) = some (rowV 4 sv (tabB n m))
  queue : f (2, 0) = some (rowI qv (castI q))
section
variable {B : Nat} {w : World} {f : Names} {ov qv : Value} {n : Nat} {m : Nat → Bool} {q : List Nat}
theorem NB.mark (h : NB f ov qv n m q) (hr : Rows B w f) (t : Nat) (ht : t < n) : ∃ f', Rows B (w.setCell (valAt ov t) (.bool true)) f' ∧ NB f' ov qv n (updN m t true) q := by
  have hs := hr.setV h.outs t (by rw [tabB_len]; exact ht) (.bool true)
  rw [tabB_upd] at hs
  exact ⟨_, hs, ⟨upd_same _ _ _, by rw [upd_ne _ _ (by simp)]; exact h.queue⟩⟩
theorem NB.push (h : NB f ov qv n m q) (hr : Rows B w f) {w1 : World} {qv' : Value} (t : Nat) (ho : OwnI B w1 qv' (castI q ++ [(t : Int)]))
    (hal : (roomOf qv' = roomOf qv ∧ w.grownBy w1 qv.ownBlock) ∨ (∃ k, qv'.ownBlock = some k ∧ w.heap.size ≤ k ∧ w.grownBy w1 none)) : ∃ f', Rows B w1 f' ∧ NB f' ov qv' n m (q ++ [t]) := by
  have hO := hr.ownI h.queue
  have hg : w.grownBy w1 qv.ownBlock := grown_via (hal.imp (·.2) (fun ⟨_, _, _, q⟩ => q))
  have hob : qv'.ownBlock = qv.ownBlock ∨ ∃ k, qv'.ownBlock = some k ∧ w.heap.size ≤ k := by
    rcases hal with ⟨q, _⟩ | ⟨k, h1, h2, _⟩
    · obtain ⟨a1, n1, c1, e1⟩ := hO.at.shape
      obtain ⟨a2, n2, c2, e2⟩ := ho.at.shape
      exact .inl (ownBlock_of_room e1 e2 q)
    · exact .inr ⟨k, h1, h2⟩
  exact ⟨_, hr.grown (r' := rowI qv' (castI q ++ [(t : Int)])) h.queue hg ho hob, ⟨by rw [upd_ne _ _ (by simp)]; exact h.outs, by rw [upd_same, castI_snoc]⟩⟩
end

set_option maxHeartbeats 4000000 in
theorem near_any (na : Option Addr) (nc : Nat) (G : List (List Int)) (bv : Value) (on : Nat → Bool) (v : Nat) (w : World) (h : ListsAt w (.slice na G.length nc) G) (hok : GraphOk G) (hn : G.length ≤ 8200) (hb : ValsAt w bv (tabB G.length on)) (hv : v < G.length)
    (hex : ∃ u, on u = true ∧ Goes (adjOf G) v u) (P : Nat → Prop) (hP : ∀ x, x < G.length → (on x = true ↔ P x)) :
    Calls Tryz.prog 104 #[.slice na G.length nc, bv, .int .i64 v] w (Ret1 (fun x _ => ∃ u, x = .int .i64 ((u : Nat) : Int) ∧ u < G.length ∧ on u = true ∧ Goes (adjOf G) v u ∧ NearIs (adjOf G) P v u) w) := by
  obtain ⟨sv, w1, mk, hin, hb1⟩ := run_makeW oneBoolG (G.length : Int) G.length w rfl (by omega)
  obtain ⟨sa, sn, sc, rfl⟩ := hin.shape
  rw [← tabB_none] at hin
  have R1 := (Rows.void w.heap.size w).add (i := (1, 0)) (r' := rowV 4 (.slice sa sn sc) (tabB G.length fun _ => false)) hb1 hin (fun k hk => (hin.lt k hk).1)
  have hOV := R1.ownV (upd_same _ _ _)
  have iV := fun w' => hOV.at.idx oneBoolG v (by rw [tabB_len]; exact hv) w'
  have cV := hOV.at.cellV v (by rw [tabB_len]; exact hv)
  have fV := hOV.frz v (by rw [tabB_len]; exact hv)
  have kV := (hOV.blkB v (by rw [tabB_len]; exact hv)).2
  rw [tabB_get _ _ _ hv] at cV
  have R2 := R1.setV (upd_same _ _ _) v (by rw [tabB_len]; exact hv) (.bool true)
  rw [tabB_upd] at R2
  have b2 : Below w.heap.size w (w1.setCell (valAt (.slice sa sn sc) v) (.bool true)) := hb1.setCell kV _
  generalize valAt (.slice sa sn sc) v = va at *
  obtain ⟨W2, hW2⟩ : ∃ W2 : World, W2 = w1.setCell va (.bool true) := ⟨_, rfl⟩
  rw [← hW2] at R2 b2
  have hB2 := b2.size
  have bL := belowAlloc W2 (.cells #[.int .i64 (v : Int)] 3)
  have R3 := R2.add (i := (2, 0)) (r' := rowI (.slice (some ⟨W2.heap.size, 0, none⟩) 1 1) (castI [v])) bL (OwnI.lit w.heap.size W2 hB2 (castI [v]) (by simp [maxLen, castI]) #[.int .i64 (v : Int)] rfl 1 rfl) (fun k hk => by cases hk; exact Nat.le_refl _)
  have h3 : NB (upd (upd (upd (fun _ => Option.none) (1, 0) (some (rowV 4 (.slice sa sn sc) (tabB G.length fun _ => false)))) (1, 0) (some (rowV 4 (.slice sa sn sc) (tabB G.length (updN (fun _ => false) v true))))) (2, 0) (some (rowI (.slice (some ⟨W2.heap.size, 0, none⟩) 1 1) (castI [v])))) (.slice sa sn sc) (.slice (some ⟨W2.heap.size, 0, none⟩) 1 1) G.length (updN (fun _ => false) v true) [v] := ⟨by rw [upd_ne _ _ (by simp), upd_same], by rw [upd_same]⟩
  generalize upd (upd (upd (fun _ => Option.none) (1, 0) (some (rowV 4 (.slice sa sn sc) (tabB G.length fun _ => false)))) (1, 0) (some (rowV 4 (.slice sa sn sc) (tabB G.length (updN (fun _ => false) v true))))) (2, 0) (some (rowI (.slice (some ⟨W2.heap.size, 0, none⟩) 1 1) (castI [v]))) = f3 at *
  have b3 := b2.trans (bL.mono hB2)
  replace hex := Lib.hid hex
  replace hP := Lib.hid hP
  replace h := Lib.hid h
  replace hok := Lib.hid hok
  replace hb := Lib.hid hb
  replace R3 := Lib.hid R3
  replace h3 := Lib.hid h3
  replace hW2 := Lib.hid hW2
  have hlg := h.out.len 3 w
  clear R1 R2 hOV hin
  go_enter Tryz.func104, Tryz.ntmps104
  go_upto_region 3 with fail
  rw [← hW2.out]
  clear mk iV cV fV
  go_wp2_with fail
  go_loopw [8, 9] (fun qv iv wr => ∃ (i : Nat) (m : Nat → Bool) (q : List Nat) (f : Names) (qw : Value), qw = qv ∧ iv = .int .i64 i ∧ i ≤ q.length ∧ Rows w.heap.size wr f ∧ Below w.heap.size w wr ∧ NB f (.slice sa sn sc) qw G.length m q ∧ NInv G.length (adjOf G) v on m q i ∧ NRun (adjOf G) P v q i) (fun _ iv _ => G.length - (intOf iv).toNat)
  case atStart => exact ⟨0, _, _, f3, _, rfl, rfl, Nat.zero_le _, R3.out, b3, h3.out, NInv.start hv, NRun.start _ _ _⟩
  case round =>
    clear h3 R3 b3
    obtain ⟨i, m, q, f4, qv, rfl, rfl, hi, hr4, b4, h4, hI, hN⟩ := hrel
    obtain ⟨wo, rfl⟩ : ∃ wo : World, wo = wr := ⟨_, rfl⟩
    have hql := hI.len
    have hOQ := hr4.ownI h4.queue
    have lQ := hOQ.at.len
    rw [castI_len] at lQ
    by_cases hil : i < q.length
    · obtain ⟨u, hu⟩ : ∃ u, q[i]? = some u := ⟨_, List.getElem?_eq_getElem hil⟩
      have hum := List.mem_of_getElem? hu
      obtain ⟨hun, hug⟩ := hI.low u hum
      have iQ := fun w' => hOQ.at.idx i (by rw [castI_len]; exact hil) w'
      have cQ := hOQ.at.cellD i (by rw [castI_len]; exact hil)
      rw [castI_get hu] at cQ
      have hbo := hb.out.below b4
      have iB := fun w' => hbo.idx oneBoolG u (by rw [tabB_len]; exact hun) w'
      have cB := hbo.cellV u (by rw [tabB_len]; exact hun)
      rw [tabB_get _ _ _ hun] at cB
      generalize valAt qv i = qa at *
      generalize valAt bv u = ba at *
      obtain ⟨bo, hbo2⟩ : ∃ bo, on u = bo := ⟨_, rfl⟩
      rw [hbo2] at cB
      replace hOQ := Lib.hid hOQ
      replace hbo := Lib.hid hbo
      cases bo with
      | true =>
        have hnr := hN.hit hu ((hP.out u hun).1 hbo2)
        replace hnr := Lib.hid hnr
        replace hN := Lib.hid hN
        replace hI := Lib.hid hI
        replace hr4 := Lib.hid hr4
        replace hu := Lib.hid hu
        replace hum := Lib.hid hum
        replace hbo2 := Lib.hid hbo2
        replace hug := Lib.hid hug
        go_wp2
        go_ret
        exact ⟨_, rfl, b4, u, rfl, hun, hbo2.out, hug.out, hnr.out⟩
      | false =>
        have hent := hN.enter hu (fun e => by have := (hP.out u hun).2 e; rw [hbo2] at this; cases this)
        replace hent := Lib.hid hent
        replace hN := Lib.hid hN
        obtain ⟨xv, iR, cR0, hM0⟩ := h.out.row u hun
        have cR := (b4.cell (World.block_lt_of_cell? _ _ cR0)).trans cR0
        have hM := hM0.below b4
        have hgp := hok.out u hun
        have hadj : adjOf G u = (G.getD u []).map Int.toNat := rfl
        generalize G.getD u [] = gx at *
        have lM := hM.len
        have hglen := hM.len_le
        generalize valAt (.slice na G.length nc) u = ra at *
        replace hM := Lib.hid hM
        replace hM0 := Lib.hid hM0
        replace hgp := Lib.hid hgp
        replace hadj := Lib.hid hadj
        replace hI := Lib.hid hI
        replace hr4 := Lib.hid hr4
        replace hu := Lib.hid hu
        replace hum := Lib.hid hum
        replace hbo2 := Lib.hid hbo2
        replace hug := Lib.hid hug
        have hil2 := Lib.hid hil
        go_wp2_with fail
        clear iQ cQ iB cB iR cR lM lQ
        go_loopw [8, 41] (fun qv jv wr => ∃ (j : Nat) (m : Nat → Bool) (q : List Nat) (f : Names) (qw : Value), qw = qv ∧ jv = .int .i64 j ∧ j ≤ gx.length ∧ Rows w.heap.size wr f ∧ Below w.heap.size w wr ∧ NB f (.slice sa sn sc) qw G.length m q ∧ NInv G.length (adjOf G) v on m q i ∧ q[i]? = some u ∧ (∀ s, s < j → (gx.getD s 0).toNat ∈ q) ∧ NRunIn (adjOf G) P v q i u j) (fun _ jv _ => gx.length - (intOf jv).toNat)
        case atStart => exact ⟨0, m, q, f4, _, rfl, rfl, by omega, hr4.out, b4, h4, hI.out, hu.out, (fun s hs => by omega), hent.out⟩
        case round =>
          clear hr4 h4 b4 hI hu hum hi hil hil2 hql hOQ hbo hM hN hent
          obtain ⟨j, m, q, f5, qv, rfl, rfl, hj, hr5, b5, h5, hI, hu, hdone, hNI⟩ := hrel
          obtain ⟨wo, rfl⟩ : ∃ wo : World, wo = wr := ⟨_, rfl⟩
          have hum := List.mem_of_getElem? hu
          have hil : i < q.length := (List.getElem?_eq_some_iff.1 hu).1
          have hql := hI.len
          by_cases hjl : j < gx.length
          · have hMj := hM0.out.below b5
            have hgj := hgp.out gx[j] (List.getElem_mem hjl)
            obtain ⟨t, hu2⟩ : ∃ t : Nat, gx[j] = t := Int.eq_ofNat_of_zero_le hgj.1
            have htn : t < G.length := by rw [hu2] at hgj; omega
            have hgd : gx.getD j 0 = (t : Int) := by rw [List.getD_eq_getElem?_getD, List.getElem?_eq_getElem hjl, hu2]; rfl
            have hta : t ∈ adjOf G u := by
              rw [hadj.out]
              exact List.mem_map.2 ⟨gx[j], List.getElem_mem hjl, by rw [hu2]; rfl⟩
            have htj : (adjOf G u)[j]? = some t := by
              rw [hadj.out, List.getElem?_map, List.getElem?_eq_getElem hjl, hu2]; rfl
            have iJ := fun w' => hMj.idx j hjl w'
            have cJ := hMj.cellD j hjl
            rw [hgd] at cJ
            have hOV := (hr5.ownV h5.outs)
            have iT := fun w' => hOV.at.idx oneBoolG t (by rw [tabB_len]; exact htn) w'
            have cT := hOV.at.cellV t (by rw [tabB_len]; exact htn)
            rw [tabB_get _ _ _ htn] at cT
            have fT := hOV.frz t (by rw [tabB_len]; exact htn)
            have kT := (hOV.blkB t (by rw [tabB_len]; exact htn)).2
            obtain ⟨f6, hr6, h6⟩ := h5.mark hr5 t htn
            have b6 : Below w.heap.size w (wo.setCell (valAt (.slice sa sn sc) t) (.bool true)) := b5.setCell kT _
            generalize valAt xv j = ja at *
            generalize valAt (.slice sa sn sc) t = ta at *
            obtain ⟨bt, hbt⟩ : ∃ bt, m t = bt := ⟨_, rfl⟩
            rw [hbt] at cT
            cases bt with
            | false =>
              have hpush := hI.push hum hta htn hbt (by omega)
              have hnp := hNI.push htj (fun e => by have := (hI.seen t htn).2 e; rw [hbt] at this; cases this)
              replace hnp := Lib.hid hnp
              replace hNI := Lib.hid hNI
              replace htj := Lib.hid htj
              have hu3 : (q ++ [t])[i]? = some u := by rw [List.getElem?_append_left hil]; exact hu
              have hdone2 : ∀ s, s < j + 1 → (gx.getD s 0).toNat ∈ q ++ [t] := fun s hs => by
                by_cases e : s = j
                · subst e; rw [hgd]; simp
                · exact List.mem_append_left _ (hdone s (by omega))
              replace hpush := Lib.hid hpush
              replace hu3 := Lib.hid hu3
              replace hdone2 := Lib.hid hdone2
              replace hdone := Lib.hid hdone
              replace hI := Lib.hid hI
              replace hbt := Lib.hid hbt
              replace hr5 := Lib.hid hr5
              replace hr6 := Lib.hid hr6
              replace hOV := Lib.hid hOV
              replace hMj := Lib.hid hMj
              replace hgd := Lib.hid hgd
              replace hgj := Lib.hid hgj
              replace hu2 := Lib.hid hu2
              replace hu := Lib.hid hu
              replace hum := Lib.hid hum
              replace hta := Lib.hid hta
              go_upto_region 15 with fail
              obtain ⟨W6, hW6⟩ : ∃ W6 : World, W6 = wo.setCell ta (.bool true) := ⟨_, rfl⟩
              rw [← hW6]
              rw [← hW6] at hr6 b6
              clear hW6 iJ cJ iT cT fT
              have hOQ := hr6.out.ownI h6.queue
              have hB6 : w.heap.size ≤ W6.heap.size := b6.size
              go_wp2_with (at_builtin; refine wpl_app1 rfl _ _ rfl w.heap.size qv (castI q) t hOQ rfl rfl (by rw [castI_len]; omega) hB6 ?_)
              intro qv' w7 ho7 b7 hal7
              obtain ⟨f7, hr7, h7⟩ := h6.push hr6.out t ho7 hal7
              replace hr7 := Lib.hid hr7
              replace ho7 := Lib.hid ho7
              clear hal7
              go_wp2
              go_roundw
              case measure => simp [intOf]; omega
              case rel => exact ⟨j + 1, updN m t true, q ++ [t], f7, qv', rfl, by go_num, by omega, hr7.out, b6.trans b7, h7, hpush.out, hu3.out, hdone2.out, hnp.out⟩
            | true =>
              have hnp := hNI.old htj ((hI.seen t htn).1 hbt)
              replace hnp := Lib.hid hnp
              replace hNI := Lib.hid hNI
              replace htj := Lib.hid htj
              have hdone2 : ∀ s, s < j + 1 → (gx.getD s 0).toNat ∈ q := fun s hs => by
                by_cases e : s = j
                · subst e; rw [hgd]; exact (hI.seen t htn).1 hbt
                · exact hdone s (by omega)
              replace hdone2 := Lib.hid hdone2
              replace hdone := Lib.hid hdone
              replace hI := Lib.hid hI
              replace hbt := Lib.hid hbt
              replace hr5 := Lib.hid hr5
              replace hr6 := Lib.hid hr6
              replace hOV := Lib.hid hOV
              replace hMj := Lib.hid hMj
              replace hgd := Lib.hid hgd
              replace hgj := Lib.hid hgj
              replace hu2 := Lib.hid hu2
              replace hu := Lib.hid hu
              replace hum := Lib.hid hum
              replace hta := Lib.hid hta
              go_wp2
              go_roundw
              case measure => simp [intOf]; omega
              case rel => exact ⟨j + 1, m, q, f5, qv, rfl, by go_num, by omega, hr5.out, b5, h5, hI.out, hu.out, hdone2.out, hnp.out⟩
          · obtain rfl : j = gx.length := by omega
            have hfin := hI.next hu hbo2.out (fun t ht => by
              rw [hadj.out] at ht
              obtain ⟨x, hx, rfl⟩ := List.mem_map.1 ht
              obtain ⟨s, hs, rfl⟩ := List.mem_iff_getElem.1 hx
              have := hdone s hs
              rw [List.getD_eq_getElem?_getD, List.getElem?_eq_getElem hs] at this
              exact this)
            have hnl : NRun (adjOf G) P v q (i + 1) := by
              have hl : gx.length = (adjOf G u).length := by rw [hadj.out, List.length_map]
              rw [hl] at hNI
              exact hNI.leave
            replace hnl := Lib.hid hnl
            replace hNI := Lib.hid hNI
            replace hfin := Lib.hid hfin
            replace hdone := Lib.hid hdone
            replace hI := Lib.hid hI
            replace hr5 := Lib.hid hr5
            replace hu := Lib.hid hu
            replace hum := Lib.hid hum
            go_wp2
            go_roundw
            case measure => simp [intOf]; omega
            case rel => exact ⟨i + 1, m, q, f5, qv, rfl, by go_num, by omega, hr5.out, b5, h5, hfin.out, hnl.out⟩
    · obtain rfl : i = q.length := by omega
      obtain ⟨u, ho, hg⟩ := hex.out
      exact absurd hg (fun hg => hI.stop ho hg)
end Go.Proofs.YtilpckngghffoaaGreatDoor
