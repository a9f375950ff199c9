/-
  Walks: pairs.Graph at what is no small rule; pairs.Apart.
  Walks: the two functions within pairs.Words.
  Walk: pairs.Words.
  Walk: pairs.Words along a list of vertices.
  Walk: graph.Path.
  Walk: graph.Loop.
  The chapter's graph: its parts, its live vertices, its way from 0 to 4, as plain mathematics; the walk that makes it.
  Walks: the helpers of edenlaw12: awake, heavy, vertex, leads, goes.
  Walk: edenlaw13.awake.
  Plain mathematics: the nodes along a word, symbol by symbol.
  Walk: overlap.Path.
  Walk: pairs.look.
  Walk: forms.made at a function that has captured one variable.
-/
import Derived.Test.YthnkdiejmclmkaaDoorMPk6
namespace Go.Proofs.YthnkdiejmclmkaaDoor
open Go.RowKit
set_option maxRecDepth 100000

theorem oddTo_ok {G : List (List Int)} (hok : GraphOk G) : ∀ k, k ≤ G.length → oddTo G k < 0
  | 0, _ => by simp [oddTo]
  | k + 1, hk => oddTo_miss (oddTo_ok hok k (by omega)) fun t ht => by
    have := hok k (by omega) t ht
    simp [oddT]; omega
theorem checkG_ok {G : List (List Int)} (h1 : G.length ≤ 8192) (h2 : arrowsTo G G.length ≤ 262144) (hok : GraphOk G) : checkG G = none := by
  unfold checkG
  rw [if_neg (by omega), if_neg (by omega), if_neg (by have := oddTo_ok hok G.length (Nat.le_refl _); omega)]
section
variable {K N : Nat} {T : List Int}
theorem pairG_len : (pairG K N T).length = N * N := rowsOf_len _ _
theorem pairG_row {p : Nat} (hp : p < N * N) : (pairG K N T).getD p [] = castI (pairL K N T p) := rowsOf_get _ _ _ hp
theorem pairG_adj {p : Nat} (hp : p < N * N) : adjOf (pairG K N T) p = pairL K N T p := by
  unfold adjOf
  rw [pairG_row hp, castI, List.map_map]
  exact List.map_id _
theorem pairG_ok (hN : 0 < N) : GraphOk (pairG K N T) := by
  intro v hv t ht
  rw [pairG_len] at hv
  rw [pairG_row hv] at ht
  obtain ⟨q, hq, rfl⟩ := List.mem_map.1 ht
  have := ((mem_pairL hN).1 hq).lt hN
  rw [pairG_len]
  omega
theorem pairG_arrows : ∀ k, k ≤ N * N → arrowsTo (pairG K N T) k ≤ k * (K * K)
  | 0, _ => by simp [arrowsTo]
  | k + 1, hk => by
    have := pairG_arrows k (by omega)
    simp only [arrowsTo]
    rw [pairG_row (by omega), castI_len, Nat.add_mul]
    have := pairL_len K N T k
    omega
theorem pairG_check (hN : 0 < N) (hN81 : N ≤ 81) (hNK : N * K ≤ 256) : checkG (pairG K N T) = none := by
  refine checkG_ok ?_ ?_ (pairG_ok hN)
  · rw [pairG_len]; have := Nat.mul_le_mul hN81 hN81; omega
  · rw [pairG_len]
    have := pairG_arrows (K := K) (N := N) (T := T) (N * N) (Nat.le_refl _)
    have h2 := Nat.mul_le_mul hNK hNK
    rw [show N * K * (N * K) = N * N * (K * K) by rw [Nat.mul_assoc, Nat.mul_left_comm K, ← Nat.mul_assoc]] at h2
    omega
theorem pairG_goes (hN : 0 < N) {x y : Nat} (h : Goes (pairL K N T) x y) (hx : x < N * N) : Goes (adjOf (pairG K N T)) x y ∧ y < N * N := by
  induction h with
  | refl => exact ⟨.refl _, hx⟩
  | step h hz ih =>
    exact ⟨.step ih.1 (by rw [pairG_adj ih.2]; exact hz), ((mem_pairL hN).1 hz).lt hN⟩
end
/-- The pairs of equal nodes are live. -/
theorem diag_live {K R : Nat} {T : List Int} {u : Nat} (hK : 1 ≤ K) (hu : u < pw K (2 * R)) : IsLive (pw K (2 * R) * pw K (2 * R)) (adjOf (pairG K (pw K (2 * R)) T)) (u * pw K (2 * R) + u) := by
  have hp := pair_lt hu hu
  have hN : 0 < pw K (2 * R) := by omega
  have ht := toN_lt (K := K) (u := u) (s := 0) hN
  have hl : OnLoop (adjOf (pairG K (pw K (2 * R)) T)) (u * pw K (2 * R) + u) :=
    ⟨toN K (pw K (2 * R)) u 0 * pw K (2 * R) + toN K (pw K (2 * R)) u 0, by rw [pairG_adj hp]; exact diag_arr hu hK, (pairG_goes hN (diag_goes hK ht hu) (pair_lt ht ht)).1⟩
  exact ⟨⟨_, hp, hl, .refl _⟩, ⟨_, hp, hl, .refl _⟩⟩

theorem pgraph_bad (r : Nat → Addr) (k R : Int) (va : Option Addr) (vn vc : Nat) (T : List Int) (t : Int × List (ByteArray × Int)) (w : World) (hg : Glob r w) (h : IntsAt w (.slice va vn vc) T) (hc : smallP k R T = some t) :
    Calls Tryd.prog 20 #[.agg #[.int .i64 k, .int .i64 R, .slice va vn vc]] w (Ret2 (fun x y w' => x = .slice none 0 0 ∧ ErrIs r w' (under sPairs 0 (some t)) y) w) := by
  have b0 := belowAlloc w (.cells #[.int .i64 k, .int .i64 R, .slice va vn vc] 24)
  replace hg := Lib.hid (hg.below b0)
  replace h := Lib.hid (h.below b0)
  replace hc := Lib.hid hc
  go_enter Tryd.func20, Tryd.ntmps20
  go_wp2_with fail
  refine (working_bad r k R va vn vc T t _ hg.out h.out hc.out).mono ?_
  rintro e w1 ⟨x, y, rfl, b1, rfl, hy⟩
  obtain ⟨T2, a2, rfl⟩ : ∃ T a, y = .iface T (.pointer (some a)) := by
    unfold under at hy
    exact ErrIs.some_shape hy
  have ba := belowAlloc w1 (.cells #[.int .i64 0, .int .i64 0, .slice none 0 0] 24)
  have hy2 := hy.below ba
  replace hy := Lib.hid hy
  replace hy2 := Lib.hid hy2
  go_wp2
  go_ret2
  exact ⟨_, _, rfl, Below.step b0 (Below.step b1 ba), rfl, hy2.out⟩

theorem papart_bad (r : Nat → Addr) (k R : Int) (va : Option Addr) (vn vc : Nat) (T : List Int) (t : Int × List (ByteArray × Int)) (w : World) (hg : Glob r w) (h : IntsAt w (.slice va vn vc) T) (hc : smallP k R T = some t) :
    Calls Tryd.prog 21 #[.agg #[.int .i64 k, .int .i64 R, .slice va vn vc]] w (Ret2 (fun x y w' => x = .slice none 0 0 ∧ ErrIs r w' (under sPairs 0 (some t)) y) w) := by
  have b0 := belowAlloc w (.cells #[.int .i64 k, .int .i64 R, .slice va vn vc] 24)
  replace hg := Lib.hid (hg.below b0)
  replace h := Lib.hid (h.below b0)
  replace hc := Lib.hid hc
  go_enter Tryd.func21, Tryd.ntmps21
  go_wp2_with fail
  refine (pgraph_bad r k R va vn vc T t _ hg.out h.out hc.out).mono ?_
  rintro e w1 ⟨x, y, rfl, b1, rfl, hy⟩
  obtain ⟨T2, a2, rfl⟩ : ∃ T a, y = .iface T (.pointer (some a)) := by
    unfold under at hy
    exact ErrIs.some_shape hy
  replace hy := Lib.hid hy
  go_wp2
  go_ret2
  exact ⟨_, _, rfl, Below.step b0 b1, rfl, hy.out⟩

set_option maxHeartbeats 1000000 in
theorem papart_ok (r : Nat → Addr) (K R : Nat) (va : Option Addr) (vn vc : Nat) (T : List Int) (w : World) (hg : Glob r w) (h : IntsAt w (.slice va vn vc) T) (hr : RuleOk K R T) (hl : T.length ≤ 256) :
    Calls Tryd.prog 21 #[.agg #[.int .i64 K, .int .i64 R, .slice va vn vc]] w (Ret2 (fun x y w' => y = .nilIface ∧ ∃ L, LiveList (pw K (2 * wkR R) * pw K (2 * wkR R)) (adjOf (pairG K (pw K (2 * wkR R)) (wkT K R T))) L ∧ OwnI w.heap.size w' x (castI (L.filter fun p => !decide (Diag (pw K (2 * wkR R)) p)))) w) := by
  have b0 := belowAlloc w (.cells #[.int .i64 K, .int .i64 R, .slice va vn vc] 24)
  have q : Box3 (w.alloc (.cells #[.int .i64 K, .int .i64 R, .slice va vn vc] 24)) w.heap.size (.int .i64 K) (.int .i64 R) (.slice va vn vc) := by simp [Box3, go_sem]
  have hk1 := hr.k1
  have hk4 := hr.k4
  have hokW := wk_ok hr
  have hlW := wk_small hr hl
  have hRW := wk_pos R
  have hN81 := nodes_le hokW hRW hlW
  obtain ⟨hdiv, hlen⟩ := hokW.half
  have hN1 := pw_pos (K := K) (2 * wkR R) hk1
  have hNK : pw K (2 * wkR R) * K ≤ 256 := by rw [← hlen]; exact hlW
  have hck := pairG_check (K := K) (N := pw K (2 * wkR R)) (T := wkT K R T) (by omega) hN81 hNK
  have hlive0 := diag_live (K := K) (R := wkR R) (T := wkT K R T) (u := 0) hk1 (by omega)
  have hgraph := fun (w' : World) (hgl : Glob r w') (hT : IntsAt w' (.slice va vn vc) T) => pgraph_ok r K R va vn vc T w' hgl hT hr hl
  have hwork := fun (w' : World) (hgl : Glob r w') (hT : IntsAt w' (.slice va vn vc) T) => working_ok r K R va vn vc T w' hgl hT hr hl
  have hNodes := fun (a : Option Addr) (n c : Nat) (w' : World) (hgl : Glob r w') (hT : IntsAt w' (.slice a n c) (wkT K R T)) => over_Nodes r K (wkR R) a n c (wkT K R T) w' hgl hT hokW hlW
  rw [hdiv] at hNodes
  generalize pw K (2 * wkR R) = N at *
  generalize wkT K R T = T' at *
  generalize wkR R = R' at *
  rw [Nat.zero_mul, Nat.zero_add] at hlive0
  replace hgraph := Lib.hid hgraph
  replace hwork := Lib.hid hwork
  replace hNodes := Lib.hid hNodes
  replace hck := Lib.hid hck
  replace hlive0 := Lib.hid hlive0
  replace hg := Lib.hid (hg.below b0)
  replace h := Lib.hid (h.below b0)
  replace hokW := Lib.hid hokW
  replace hr := Lib.hid hr
  replace hdiv := Lib.hid hdiv
  replace hlen := Lib.hid hlen
  go_enter Tryd.func21, Tryd.ntmps21
  go_wp2_with fail
  refine (hgraph.out _ hg.out h.out).mono ?_
  rintro e w1 ⟨gv, y, rfl, b1, rfl, f, vals, hrows, hwn⟩
  have hL : ListsAt w1 gv (pairG K N T') := hwn.lists hrows
  obtain ⟨ga, gc, rfl⟩ := hL.shape
  have hsz : ∀ k, k < (pairG K N T').length → ((pairG K N T').getD k []).length ≤ 17592186044416 := fun k hk => by
    rw [pairG_len] at hk
    rw [pairG_row hk, castI_len]
    have := pairL_len K N T' k
    have := Nat.mul_le_mul hk4 hk4
    omega
  have hM6 : N * N ≤ 6561 := Nat.mul_le_mul hN81 hN81
  replace hrows := Lib.hid hrows
  replace hwn := Lib.hid hwn
  replace hL := Lib.hid hL
  replace hsz := Lib.hid hsz
  go_wp2_with fail
  refine (live_any r ga gc (pairG K N T') w1 (hg.out.below b1) hL.out hsz.out).mono ?_
  rintro e w2 ⟨lv, y, rfl, b2, he, hls, _⟩
  rw [hck.out] at he hls
  obtain rfl := he.none_eq
  obtain ⟨L, hLL, ho⟩ := hls rfl
  rw [pairG_len] at hLL
  clear hls he
  have b12 := Below.step b1 b2
  have q2 := q.below b12
  obtain ⟨⟨z0, z1, z2⟩, -, -, -⟩ := q2
  replace hLL := Lib.hid hLL
  replace ho := Lib.hid ho
  go_wp2_with fail
  refine (hwork.out w2 (hg.out.below b12) (h.out.below b12)).mono ?_
  rintro e w3 ⟨x, y, rfl, b3, rfl, a, n, c, rfl, hT3⟩
  clear z0 z1 z2
  have b13 := Below.step b12 b3
  have ba := belowAlloc w3 (.cells #[.int .i64 K, .int .i64 R', .slice a n c] 24)
  have b14 := Below.step b13 ba
  have hT4 := hT3.below ba
  replace hT3 := Lib.hid hT3
  replace hT4 := Lib.hid hT4
  go_wp2_with fail
  refine (hNodes.out a n c _ (hg.out.below b14) hT4.out).mono ?_
  rintro e w5 ⟨x, y, rfl, b5, rfl, rfl⟩
  have b15 := Below.step b14 b5
  have bb := belowAlloc w5 (.cells #[.int .i64 N] 3)
  have b16 := Below.step b15 bb
  have b26 := Below.step b3 (Below.step ba (Below.step b5 bb))
  have ho6 := ho.out.below b26
  have cN : (w5.alloc (.cells #[.int .i64 N] 3)).cell? ⟨w5.heap.size, 0, none⟩ = some (.int .i64 N) := by simp [go_sem]
  have hne : lv.ownBlock ≠ some w5.heap.size := fun e => by
    have h1 := (ho.out.lt _ e).2
    have h2 := (Below.step b3 (Below.step ba b5)).size
    omega
  have hLne : castI L ≠ [] := fun e => by
    have : L = [] := by cases L with | nil => rfl | cons a l => simp [castI] at e
    have h0 := (hLL.out.mem 0).2 ⟨by have := Nat.mul_le_mul hN1 hN1; omega, hlive0.out⟩
    rw [this] at h0; cases h0
  replace ho6 := Lib.hid ho6
  replace hne := Lib.hid hne
  replace hLne := Lib.hid hLne
  replace cN := Lib.hid cN
  go_wp2_with fail
  refine (delete_own w1.heap.size lv (castI L) w5.heap.size N _ ho6.out hLne.out hN1 cN.out hne.out).mono ?_
  rintro e w7 ⟨x, rfl, _, ho7, b7⟩
  have hF : (castI L).filter (fun x => !dgI N x) = castI (L.filter fun p => !decide (Diag N p)) := by
    unfold castI
    rw [List.filter_map]
    congr 1
    refine List.filter_congr fun p hp => ?_
    have := ((hLL.out.mem p).1 hp).1
    show (!dgI N (p : Int)) = _
    rw [dgI_nat (by omega)]
  rw [hF] at ho7
  obtain ⟨xa, xn, xc, rfl⟩ := ho7.at.shape
  have ho8 := ho7.mono (B' := w.heap.size) (Nat.le_trans b0.size b1.size)
  have bE := (Below.step b0 b1).trans ((Below.step b2 b26).trans b7 |>.mono (Nat.le_trans b0.size b1.size))
  replace ho7 := Lib.hid ho7
  replace ho8 := Lib.hid ho8
  replace hF := Lib.hid hF
  go_wp2
  go_ret2
  exact ⟨_, _, rfl, bE, rfl, L, hLL.out, ho8.out⟩
end Go.Proofs.YthnkdiejmclmkaaDoor

namespace Go.Proofs.YthnkdiejmclmkaaDoor
open Go.RowKit
set_option maxRecDepth 100000

/-- Quotient and rest of small numbers, as the machine reckons them. -/
theorem dm (p N : Nat) (hp : p ≤ 100000000) : (p : Int).tdiv (N : Int) = ((p / N : Nat) : Int) ∧ (p : Int).tmod (N : Int) = ((p % N : Nat) : Int) ∧ (p : Int) / (N : Int) = ((p / N : Nat) : Int) ∧ (p : Int) % (N : Int) = ((p % N : Nat) : Int) ∧
    IntKind.i64.wrap ((p / N : Nat) : Int) = ((p / N : Nat) : Int) ∧ IntKind.i64.wrap ((p % N : Nat) : Int) = ((p % N : Nat) : Int) := by
  have h1 : p / N ≤ p := Nat.div_le_self _ _
  have h2 : p % N ≤ p := Nat.mod_le _ _
  refine ⟨by rw [Int.tdiv_eq_ediv_of_nonneg (by omega)]; simp, by rw [Int.tmod_eq_emod_of_nonneg (by omega)]; simp, by simp, by simp, ?_, ?_⟩
  · generalize p / N = a at *; exact wrapK (by omega) (by omega)
  · generalize p % N = a at *; exact wrapK (by omega) (by omega)

theorem words1_any (x : Int) (b N : Nat) (w : World) (hN : N ≤ 10000) (hb : w.cell? ⟨b, 0, none⟩ = some (.int .i64 N)) :
    Calls Tryd.prog 68 #[.int .i64 x, .pointer (some ⟨b, 0, none⟩)] w fun e w' => e = .returned (.bool (odd1 ((N * N : Nat) : Int) x)) ∧ w = w' := by
  have hM : (N : Int) * (N : Int) = ((N * N : Nat) : Int) := by simp
  have hM2 := Nat.mul_le_mul hN hN
  by_cases h : x < 0
  · have e : odd1 ((N * N : Nat) : Int) x = true := by simp [odd1, h]
    rw [e]
    clear hM hM2
    go_enter Tryd.func68, Tryd.ntmps68
    go_wp2
    go_ret
    exact ⟨rfl, rfl⟩
  · have e : odd1 ((N * N : Nat) : Int) x = decide (((N * N : Nat) : Int) ≤ x) := by simp [odd1, h]
    rw [e]
    generalize N * N = M at *
    clear e
    go_enter Tryd.func68, Tryd.ntmps68
    go_wp2
    go_ret
    exact ⟨ret_bool (by simp), rfl⟩
theorem eg_words1 (args : Array Value) (w : World) : (callFunc 68 args).run Tryd.prog w = .ok (.enter 68 args) w := by kernel_rfl

set_option maxHeartbeats 1000000 in
theorem words2_any (K R x q : Nat) (w : World) (hk1 : 1 ≤ K) (hk4 : K ≤ 4) (hR : R ≤ 3) (hx : x ≤ 100000) (q0 : w.cell? ⟨q, 0, none⟩ = some (.int .i64 K)) (q1 : w.cell? ⟨q, 1, none⟩ = some (.int .i64 R)) :
    Calls Tryd.prog 69 #[.int .i64 x, .pointer (some ⟨q, 0, none⟩)] w (Ret1 (fun y w' => OwnI w.heap.size w' y (digs K (2 * R) x)) w) := by
  obtain ⟨ov, w1, mk, ho, hb1⟩ := run_makeI (2 * (R : Int)) (2 * R) w (by omega) (by omega)
  have lo := ho.at.len
  rw [List.length_replicate] at lo
  obtain ⟨oa, on, oc, rfl⟩ := ho.at.shape
  have hql := World.block_lt_of_cell? _ _ q0
  have hK0 : ((K : Int) == 0) = false := by rw [beq_eq_false_iff_ne]; omega
  have hK1 : ¬ (K : Int) = 0 := by omega
  have hK2 : (0 : Int) < K := by omega
  have hK3 : ¬ K = 0 := by omega
  obtain ⟨N, hN⟩ : ∃ N, 2 * R = N := ⟨_, rfl⟩
  have hN6 : N ≤ 6 := by omega
  rw [hN] at ho lo ⊢
  have hNi : 2 * (R : Int) = (N : Int) := by omega
  have hNw : IntKind.i64.wrap (N : Int) = N := wrapK (by omega) (by omega)
  rw [hNi] at mk
  replace ho := Lib.hid ho
  replace hN := Lib.hid hN
  go_enter Tryd.func69, Tryd.ntmps69
  go_wp2_with fail
  clear mk
  go_loopw [0, 12] (fun xv jv wr => ∃ j : Nat, j ≤ N ∧ jv = .int .i64 j ∧ xv = .int .i64 (x / pw K j : Nat) ∧ OwnI w.heap.size wr (.slice oa on oc) ((List.replicate N (0 : Int)).take (N - j) ++ (digs K N x).drop (N - j)) ∧ Below w.heap.size w wr) (fun _ jv _ => N - (intOf jv).toNat)
  case atStart => exact ⟨0, by omega, rfl, by simp [pw], by rw [Nat.sub_zero, List.drop_of_length_le (by rw [digs_length]; exact Nat.le_refl _), List.append_nil, List.take_of_length_le (by simp)]; exact ho.out, hb1⟩
  case round =>
    obtain ⟨j, hj, rfl, rfl, hO, hbI⟩ := hrel
    obtain ⟨wi, rfl⟩ : ∃ wi : World, wi = wr := ⟨_, rfl⟩
    by_cases hjl : j < N
    · have hXl : ((List.replicate N (0 : Int)).take (N - j) ++ (digs K N x).drop (N - j)).length = N := by simp only [List.length_append, List.length_take, List.length_replicate, List.length_drop, digs_length]; omega
      have i1 : ∀ w', (Instr.indexAt 22 (.slice oa on oc) (.int .i64 ((N : Int) - 1 - (j : Int)))).run Tryd.prog w' = .ok (.pointer (some (valAt (.slice oa on oc) (N - 1 - j)))) w' := by
        intro w'
        have := hO.at.idxI ((N : Int) - 1 - (j : Int)) (by omega) (by rw [hXl]; omega) w'
        rwa [show ((N : Int) - 1 - (j : Int)).toNat = N - 1 - j by omega] at this
      have c1 := hO.at.cellD (N - 1 - j) (by rw [hXl]; omega)
      have f1 := hO.frz (N - 1 - j) (by rw [hXl]; omega)
      have hS := hO.set (N - 1 - j) (by rw [hXl]; omega) ((x / pw K j % K : Nat) : Int)
      have hbS := hO.setBelow hbI (N - 1 - j) (by rw [hXl]; omega) (.int .i64 ((x / pw K j % K : Nat) : Int))
      rw [digs_fill K N x j hjl _ (by simp)] at hS
      have hqd : x / pw K j / K = x / pw K (j + 1) := by rw [Nat.div_div_eq_div_mul, ← pw_succ]
      have hql : x / pw K j ≤ 100000 := Nat.le_trans (Nat.div_le_self _ _) hx
      have y0 := (hbI.cell (p := ⟨q, 0, none⟩) (World.block_lt_of_cell? _ _ q0)).trans q0
      have hbe := hO.blkB (N - 1 - j) (by rw [hXl]; omega)
      generalize ((List.replicate N (0 : Int)).take (N - j) ++ (digs K N x).drop (N - j)).getD (N - 1 - j) 0 = y at c1
      have y0' : (wi.setCell (valAt (.slice oa on oc) (N - 1 - j)) (.int .i64 ((x / pw K j % K : Nat) : Int))).cell? ⟨q, 0, none⟩ = some (.int .i64 K) := (hbS.cell (p := ⟨q, 0, none⟩) (World.block_lt_of_cell? _ _ q0)).trans q0
      have hlen' := lo
      generalize valAt (.slice oa on oc) (N - 1 - j) = ya at *
      generalize x / pw K j = z at *
      obtain ⟨a1, a2, a3, a4, a5, a6⟩ := dm z K (by omega)
      obtain ⟨d, hd⟩ : ∃ d, z % K = d := ⟨_, rfl⟩
      obtain ⟨e, he⟩ : ∃ e, z / K = e := ⟨_, rfl⟩
      rw [hd] at a2 a4 a6 hS hbS y0'
      rw [he] at a1 a3 a5 hqd
      replace hS := Lib.hid hS
      replace hbS := Lib.hid hbS
      replace hqd := Lib.hid hqd
      replace hO := Lib.hid hO
      replace hd := Lib.hid hd
      replace he := Lib.hid he
      clear hXl
      go_wp2
      go_roundw
      case rel => exact ⟨j + 1, by omega, by go_num, by rw [← hqd.out], hS.out, hbS.out⟩
      case measure => simp [intOf]; omega
    · obtain rfl : j = N := by omega
      rw [Nat.sub_self, List.take_zero, List.drop_zero, List.nil_append] at hO
      replace hO := Lib.hid hO
      go_wp2
      go_ret
      exact ⟨_, rfl, hbI, hO.out⟩
theorem eg_words2 (args : Array Value) (w : World) : (callFunc 69 args).run Tryd.prog w = .ok (.enter 69 args) w := by kernel_rfl
end Go.Proofs.YthnkdiejmclmkaaDoor

namespace Go.Proofs.YthnkdiejmclmkaaDoor
open Go.RowKit
set_option maxRecDepth 100000

theorem Rows.void (B : Nat) (w : World) : Rows B w (fun _ => Option.none) := by
  refine ⟨?_, ?_⟩
  · intro i r h; cases h
  · intro i j r s h; cases h
theorem Rows.push {B : Nat} {w w1 : World} {f : Names} {i : Nat × Nat} {v v' : Value} {xs : List Int} (h : Rows B w f) (hi : f i = some (rowI v xs)) (x : Int) (ho : OwnI B w1 v' (xs ++ [x]))
    (hg : w.grownBy w1 v.ownBlock) (hal : v'.ownBlock = v.ownBlock ∨ ∃ k, v'.ownBlock = some k ∧ w.heap.size ≤ k) : Rows B w1 (upd f i (some (rowI v' (xs ++ [x])))) :=
  h.grown (r' := rowI v' (xs ++ [x])) hi hg ho hal
theorem alongW_snoc (K m : Nat) (F : Nat → Nat) (l : List Nat) (p : Nat) (hl : l ≠ []) : alongW K m F (l ++ [p]) = alongW K m F l ++ [((F p % K : Nat) : Int)] := by
  cases l with
  | nil => exact absurd rfl hl
  | cons a l => simp [alongW, List.getD]
theorem alongW_one (K m : Nat) (F : Nat → Nat) (p : Nat) : alongW K m F [p] = digs K m (F p) := by simp [alongW, List.getD]

/-- pairs.wrong. -/
theorem pairs_wrong (r : Nat → Addr) (at_ n : Int) (w : World) (hg : Glob r w) (h1 : 1 ≤ n) (h2 : n ≤ 11) :
    Calls Tryd.prog 65 #[.int .i64 at_, .int .i64 n] w (Ret1 (fun v w' => ErrIs r w' (fresh sPairs at_ n) v) w) := by
  go_enter Tryd.func65, Tryd.ntmps65
  go_wp2_with fail
  refine (new_any r _ at_ n w hg h1 h2).mono ?_
  rintro e w' ⟨v, rfl, hb, he⟩
  go_wp2
  go_ret
  exact ⟨_, rfl, hb, he⟩

theorem pwords_bad (r : Nat → Addr) (k R : Int) (va : Option Addr) (vn vc : Nat) (T : List Int) (u : Value) (t : Int × List (ByteArray × Int)) (w : World) (hg : Glob r w) (h : IntsAt w (.slice va vn vc) T) (hc : smallP k R T = some t) :
    Calls Tryd.prog 23 #[.agg #[.int .i64 k, .int .i64 R, .slice va vn vc], u] w (Ret3 (fun x y z w' => x = .slice none 0 0 ∧ y = .slice none 0 0 ∧ ErrIs r w' (under sPairs 0 (some t)) z) w) := by
  have b0 := belowAlloc w (.cells #[.int .i64 k, .int .i64 R, .slice va vn vc] 24)
  replace hg := Lib.hid (hg.below b0)
  replace h := Lib.hid (h.below b0)
  replace hc := Lib.hid hc
  go_enter Tryd.func23, Tryd.ntmps23
  go_wp2_with fail
  refine (working_bad r k R va vn vc T t _ hg.out h.out hc.out).mono ?_
  rintro e w1 ⟨x, y, rfl, b1, rfl, hy⟩
  obtain ⟨T2, a2, rfl⟩ : ∃ T a, y = .iface T (.pointer (some a)) := by
    unfold under at hy
    exact ErrIs.some_shape hy
  have ba := belowAlloc w1 (.cells #[.int .i64 0, .int .i64 0, .slice none 0 0] 24)
  have hy2 := hy.below ba
  replace hy := Lib.hid hy
  replace hy2 := Lib.hid hy2
  go_wp2
  go_ret3
  exact ⟨_, _, _, rfl, Below.step b0 (Below.step b1 ba), rfl, rfl, hy2.out⟩

/-- Is it a list of vertices? -/
def WayOk (N : Nat) (way : List Int) : Prop := way ≠ [] ∧ ∀ p ∈ way, 0 ≤ p ∧ p < ((N * N : Nat) : Int)
def AllFit (K N : Nat) (T : List Int) (ns : List Nat) : Prop := ∀ i, i + 1 < ns.length → StepFits K N T (ns.getD i 0) (ns.getD (i + 1) 0)
theorem WayOk.nat {N : Nat} {way : List Int} (h : WayOk N way) : ∃ ns : List Nat, way = castI ns ∧ ns ≠ [] ∧ ∀ p ∈ ns, p < N * N := by
  refine ⟨way.map Int.toNat, ?_, by simpa using h.1, fun p hp => ?_⟩
  · unfold castI
    rw [List.map_map]
    refine (List.map_id _).symm.trans (List.map_congr_left fun p hp => ?_)
    have := h.2 p hp
    show p = ((p.toNat : Nat) : Int)
    omega
  · obtain ⟨q, hq, rfl⟩ := List.mem_map.1 hp
    have := h.2 q hq
    omega

set_option maxHeartbeats 1000000 in
theorem pwords_odd (r : Nat → Addr) (K R : Nat) (va : Option Addr) (vn vc : Nat) (T : List Int) (u : Value) (way : List Int) (w : World) (hg : Glob r w) (h : IntsAt w (.slice va vn vc) T) (hr : RuleOk K R T) (hl : T.length ≤ 256) (hu : IntsAt w u way) (hno : ¬ WayOk (pw K (2 * wkR R)) way) :
    Calls Tryd.prog 23 #[.agg #[.int .i64 K, .int .i64 R, .slice va vn vc], u] w (Ret3 (fun x y z w' => x = .slice none 0 0 ∧ y = .slice none 0 0 ∧ ErrIs r w' (fresh sPairs 1 3) z) w) := by
  have b0 := belowAlloc w (.cells #[.int .i64 K, .int .i64 R, .slice va vn vc] 24)
  have hk1 := hr.k1
  have hokW := wk_ok hr
  have hlW := wk_small hr hl
  have hRW := wk_pos R
  have hN81 := nodes_le hokW hRW hlW
  obtain ⟨hdiv, hlen⟩ := hokW.half
  have hwork := fun (w' : World) (hgl : Glob r w') (hT : IntsAt w' (.slice va vn vc) T) => working_ok r K R va vn vc T w' hgl hT hr hl
  have hNodes := fun (a : Option Addr) (n c : Nat) (w' : World) (hgl : Glob r w') (hT : IntsAt w' (.slice a n c) (wkT K R T)) => over_Nodes r K (wkR R) a n c (wkT K R T) w' hgl hT hokW hlW
  rw [hdiv] at hNodes
  generalize pw K (2 * wkR R) = N at *
  generalize wkT K R T = T' at *
  generalize wkR R = R' at *
  have lu := hu.len
  obtain ⟨ua, un, uc, rfl⟩ := hu.shape
  replace hwork := Lib.hid hwork
  replace hNodes := Lib.hid hNodes
  replace hg := Lib.hid (hg.below b0)
  replace h := Lib.hid (h.below b0)
  replace hu := Lib.hid (hu.below b0)
  replace hokW := Lib.hid hokW
  replace hr := Lib.hid hr
  replace hdiv := Lib.hid hdiv
  replace hlen := Lib.hid hlen
  go_enter Tryd.func23, Tryd.ntmps23
  go_wp2_with fail
  refine (hwork.out _ hg.out h.out).mono ?_
  rintro e w1 ⟨x, y, rfl, b1, rfl, a, n, c, rfl, hT1⟩
  have ba := belowAlloc w1 (.cells #[.int .i64 K, .int .i64 R', .slice a n c] 24)
  have b12 := Below.step b1 ba
  have hT2 := hT1.below ba
  replace hT1 := Lib.hid hT1
  replace hT2 := Lib.hid hT2
  go_wp2_with fail
  refine (hNodes.out a n c _ (hg.out.below b12) hT2.out).mono ?_
  rintro e w3 ⟨x, y, rfl, b3, rfl, rfl⟩
  have bb := belowAlloc w3 (.cells #[.int .i64 N] 3)
  have b14 := Below.step b12 (Below.step b3 bb)
  have cN : (w3.alloc (.cells #[.int .i64 N] 3)).cell? ⟨w3.heap.size, 0, none⟩ = some (.int .i64 N) := by simp [go_sem]
  have hcf := containsFunc_any (.slice ua un uc) (.pointer (some ⟨w3.heap.size, 0, none⟩)) 68 way (odd1 ((N * N : Nat) : Int)) _ (hu.out.below b14) eg_words1 (fun x _ => words1_any x w3.heap.size N _ (by omega) cN)
  replace hcf := Lib.hid hcf
  replace cN := Lib.hid cN
  have hg4 := hg.out.below b14
  replace hg4 := Lib.hid hg4
  by_cases hw : way = []
  · subst hw
    go_wp2_with fail
    refine (pairs_wrong r _ _ _ hg4.out (by decide) (by decide)).mono ?_
    rintro e w5 ⟨x, rfl, b5, he⟩
    go_wp2
    go_ret3
    exact ⟨_, _, _, rfl, Below.step b0 (Below.step b14 b5), rfl, rfl, he⟩
  · have hl0 : ¬ way.length = 0 := fun e => hw (List.length_eq_zero_iff.1 e)
    have hl1 : ((way.length : Int) == 0) = false := by rw [beq_eq_false_iff_ne]; omega
    have hhit : decide (0 ≤ idxOf (odd1 ((N * N : Nat) : Int)) way) = true := by
      rw [decide_eq_true_iff]
      rcases idxOf_cases (odd1 ((N * N : Nat) : Int)) way with ⟨_, q⟩ | ⟨k, q, _⟩
      · exact absurd ⟨hw, fun p hp => odd1_false.1 (q p hp)⟩ hno
      · rw [q]; omega
    replace hw := Lib.hid hw
    replace hhit := Lib.hid hhit
    go_wp2_with fail
    refine hcf.out.mono ?_
    rintro e w5 ⟨rfl, rfl⟩
    rw [hhit.out]
    go_wp2_with fail
    refine (pairs_wrong r _ _ _ hg4.out (by decide) (by decide)).mono ?_
    rintro e w5 ⟨x, rfl, b5, he⟩
    go_wp2
    go_ret3
    exact ⟨_, _, _, rfl, Below.step b0 (Below.step b14 b5), rfl, rfl, he⟩
end Go.Proofs.YthnkdiejmclmkaaDoor

namespace Go.Proofs.YthnkdiejmclmkaaDoor
open Go.RowKit
set_option maxRecDepth 100000

/-- What Words leaves, of a list of vertices. -/
def WordsPost (r : Nat → Addr) (w : World) (K R : Nat) (T : List Int) (ns : List Nat) (x y z : Value) (w' : World) : Prop :=
  (AllFit K (pw K (2 * R)) T ns ∧ z = .nilIface ∧ OwnI w.heap.size w' x (alongW K (2 * R) (· / pw K (2 * R)) ns) ∧ OwnI w.heap.size w' y (alongW K (2 * R) (· % pw K (2 * R)) ns) ∧ (x.ownBlock = none ∨ x.ownBlock ≠ y.ownBlock)) ∨
  (¬ AllFit K (pw K (2 * R)) T ns ∧ x = .slice none 0 0 ∧ y = .slice none 0 0 ∧ ErrIs r w' (fresh sPairs 1 3) z)

set_option maxHeartbeats 4000000 in
theorem pwords_way (r : Nat → Addr) (K R : Nat) (va : Option Addr) (vn vc : Nat) (T : List Int) (u : Value) (ns : List Nat) (w : World) (hg : Glob r w) (h : IntsAt w (.slice va vn vc) T) (hr : RuleOk K R T) (hl : T.length ≤ 256) (hu : IntsAt w u (castI ns)) (hne : ns ≠ []) (hlow : ∀ p ∈ ns, p < pw K (2 * wkR R) * pw K (2 * wkR R)) (hnl : ns.length ≤ 17592186044000) :
    Calls Tryd.prog 23 #[.agg #[.int .i64 K, .int .i64 R, .slice va vn vc], u] w (Ret3 (WordsPost r w K (wkR R) (wkT K R T) ns) w) := by
  have b0 := belowAlloc w (.cells #[.int .i64 K, .int .i64 R, .slice va vn vc] 24)
  have hk1 := hr.k1
  have hk4 := hr.k4
  have hokW := wk_ok hr
  have hlW := wk_small hr hl
  have hRW := wk_pos R
  have hN81 := nodes_le hokW hRW hlW
  obtain ⟨hdiv, hlen⟩ := hokW.half
  have hR3 := hokW.r3
  have hN1 := pw_pos (K := K) (2 * wkR R) hk1
  have hwork := fun (w' : World) (hgl : Glob r w') (hT : IntsAt w' (.slice va vn vc) T) => working_ok r K R va vn vc T w' hgl hT hr hl
  have hNodes := fun (a : Option Addr) (n c : Nat) (w' : World) (hgl : Glob r w') (hT : IntsAt w' (.slice a n c) (wkT K R T)) => over_Nodes r K (wkR R) a n c (wkT K R T) w' hgl hT hokW hlW
  have hEdge := fun (a : Option Addr) (n c u s : Nat) (w' : World) (hgl : Glob r w') (hT : IntsAt w' (.slice a n c) (wkT K R T)) (hu : u < pw K (2 * wkR R)) (hs : s < K) => over_Edge r K (wkR R) a n c (wkT K R T) u s w' hgl hT hokW hlW (by rw [hdiv]; exact hu) hs
  rw [hdiv] at hNodes hEdge
  have hpost := fun (x y z : Value) (w' : World) => @WordsPost r w K (wkR R) (wkT K R T) ns x y z w'
  obtain ⟨m, hm⟩ : ∃ m, 2 * wkR R = m := ⟨_, rfl⟩
  unfold WordsPost
  rw [hm] at hNodes hEdge hlow hN81 hN1 hdiv hlen ⊢
  obtain ⟨N, hN⟩ : ∃ N, pw K m = N := ⟨_, rfl⟩
  rw [hN] at hNodes hEdge hlow hN81 hN1 hdiv hlen ⊢
  generalize wkT K R T = T' at *
  generalize wkR R = R' at *
  clear hpost
  have lu := hu.len
  obtain ⟨up, hup, hupI⟩ := hu.post 1 (by rw [castI_len]; exact List.length_pos_iff.2 hne)
  have lup := hupI.len
  have hcl : (castI ns).length = ns.length := castI_len ns
  have hdl : ((castI ns).drop 1).length = ns.length - 1 := by rw [List.length_drop, castI_len]
  rw [hdl] at lup
  rw [hcl] at lu
  have hnp : 0 < ns.length := List.length_pos_iff.2 hne
  have iU := fun (i : Nat) (hi : i < ns.length) w' => hu.idx i (by rw [castI_len]; exact hi) w'
  have cU := fun (i : Nat) (hi : i < ns.length) => hu.cellD i (by rw [castI_len]; exact hi)
  have iP := fun (i : Nat) (hi : i + 1 < ns.length) w' => hupI.idx i (by rw [hdl]; omega) w'
  have cP := fun (i : Nat) (hi : i + 1 < ns.length) => hupI.cellD i (by rw [hdl]; omega)
  have gU : ∀ i, i < ns.length → (castI ns).getD i 0 = ((ns.getD i 0 : Nat) : Int) := fun i hi => by simp [castI, List.getD, hi]
  have gP : ∀ i, i + 1 < ns.length → ((castI ns).drop 1).getD i 0 = ((ns.getD (i + 1) 0 : Nat) : Int) := fun i hi => by
    rw [List.getD_eq_getElem?_getD, List.getElem?_drop, Nat.add_comm 1 i, ← List.getD_eq_getElem?_getD]; exact gU _ hi
  have cU2 := fun (i : Nat) (hi : i < ns.length) => (cU i hi).trans (by rw [gU i hi])
  have cP2 := fun (i : Nat) (hi : i + 1 < ns.length) => (cP i hi).trans (by rw [gP i hi])
  have hlow2 : ∀ i, i < ns.length → ns.getD i 0 < N * N := fun i hi => by
    simp only [List.getD_eq_getElem?_getD, List.getElem?_eq_getElem hi, Option.getD_some]
    exact hlow _ (List.getElem_mem hi)
  have hM6 : N * N ≤ 6561 := Nat.mul_le_mul hN81 hN81
  have hokway : decide (0 ≤ idxOf (odd1 ((N * N : Nat) : Int)) (castI ns)) = false := by
    rw [decide_eq_false_iff_not, idxOf_neg]
    · omega
    · intro x hx
      obtain ⟨p, hp, rfl⟩ := List.mem_map.1 hx
      have := hlow p hp
      rw [odd1_false]; omega
  have hl0 : ¬ ns.length = 0 := by omega
  have hl1 : ((ns.length : Int) == 0) = false := by rw [beq_eq_false_iff_ne]; omega
  obtain ⟨ua, un, uc, rfl⟩ := hu.shape
  obtain ⟨pa, pn, pc, rfl⟩ := hupI.shape
  replace hwork := Lib.hid hwork
  replace hNodes := Lib.hid hNodes
  replace hEdge := Lib.hid hEdge
  replace hg := Lib.hid (hg.below b0)
  replace h := Lib.hid (h.below b0)
  replace hu := Lib.hid (hu.below b0)
  replace hokW := Lib.hid hokW
  replace hr := Lib.hid hr
  replace hdiv := Lib.hid hdiv
  replace hlen := Lib.hid hlen
  replace hm := Lib.hid hm
  replace hN := Lib.hid hN
  replace iU := Lib.hid iU
  replace iP := Lib.hid iP
  replace cU2 := Lib.hid cU2
  replace cP2 := Lib.hid cP2
  replace hlow2 := Lib.hid hlow2
  replace hlow := Lib.hid hlow
  replace hokway := Lib.hid hokway
  replace hne := Lib.hid hne
  replace hupI := Lib.hid hupI
  clear cU cP gU gP hdl hcl
  go_enter Tryd.func23, Tryd.ntmps23
  go_wp2_with fail
  refine (hwork.out _ hg.out h.out).mono ?_
  rintro e w1 ⟨x, y, rfl, b1, rfl, a, n, c, rfl, hT1⟩
  have ba := belowAlloc w1 (.cells #[.int .i64 K, .int .i64 R', .slice a n c] 24)
  have qw : Box3 (w1.alloc (.cells #[.int .i64 K, .int .i64 R', .slice a n c] 24)) w1.heap.size (.int .i64 K) (.int .i64 R') (.slice a n c) := by simp [Box3, go_sem]
  have b12 := Below.step b1 ba
  have hT2 := hT1.below ba
  replace hT1 := Lib.hid hT1
  replace hT2 := Lib.hid hT2
  replace qw := Lib.hid qw
  go_wp2_with fail
  refine (hNodes.out a n c _ (hg.out.below b12) hT2.out).mono ?_
  rintro e w3 ⟨x, y, rfl, b3, rfl, rfl⟩
  have bb := belowAlloc w3 (.cells #[.int .i64 N] 3)
  have b34 := Below.step b3 bb
  have b14 := Below.step b12 b34
  have cN : (w3.alloc (.cells #[.int .i64 N] 3)).cell? ⟨w3.heap.size, 0, none⟩ = some (.int .i64 N) := by simp [go_sem]
  have hcf := containsFunc_any (.slice ua un uc) (.pointer (some ⟨w3.heap.size, 0, none⟩)) 68 (castI ns) (odd1 ((N * N : Nat) : Int)) _ (hu.out.below b14) eg_words1 (fun x _ => words1_any x w3.heap.size N _ (by omega) cN)
  replace hcf := Lib.hid hcf
  replace cN := Lib.hid cN
  go_wp2_with fail
  refine hcf.out.mono ?_
  rintro e w5 ⟨rfl, hw5⟩
  rw [hokway.out]
  have cN5 := cN.out
  have qw5 := qw.out.below b34
  have hT5 := hT2.out.below b34
  rw [hw5] at b14 cN5 qw5 hT5
  clear hcf cN hw5 bb b34 b3 b12
  have b05 := Below.step b0 b14
  have hg5 := hg.out.below b14
  clear b14
  -- region 8
  obtain ⟨L1, hL1⟩ : ∃ L1, ns.length = L1 + 1 := ⟨ns.length - 1, by omega⟩
  rw [hL1, Nat.add_sub_cancel] at lup
  have hLbig : L1 ≤ 17592186044000 := by omega
  have hup1 : ∀ w', (Instr.slice 22 (.slice ua un uc) (some (.int .i64 1)) none none).run Tryd.prog w' = .ok (.slice pa pn pc) w' := hup
  obtain ⟨p0, hp0⟩ : ∃ p, ns.getD 0 0 = p := ⟨_, rfl⟩
  have hp0l : p0 < N * N := by rw [← hp0]; exact hlow2.out 0 hnp
  have i0 : ∀ w', (Instr.indexAt 22 (.slice ua un uc) (.int .i64 0)).run Tryd.prog w' = .ok (.pointer (some (valAt (.slice ua un uc) 0))) w' := fun w' => iU.out 0 hnp w'
  have c0 := cU2.out 0 hnp
  rw [hp0] at c0
  have c05 := (b05.cell (World.block_lt_of_cell? _ _ c0)).trans c0
  have hN0 : ((N : Int) == 0) = false := by rw [beq_eq_false_iff_ne]; omega
  have hN2 : ¬ (N : Int) = 0 := by omega
  have hN3 : ¬ N = 0 := by omega
  have hK0 : ((K : Int) == 0) = false := by rw [beq_eq_false_iff_ne]; omega
  have hK1 : ¬ (K : Int) = 0 := by omega
  have hK3 : ¬ K = 0 := by omega
  obtain ⟨d1, d2, d3, d4, d5, d6⟩ := dm p0 N (by omega)
  obtain ⟨u0, hu0⟩ : ∃ z, p0 / N = z := ⟨_, rfl⟩
  obtain ⟨v0, hv0⟩ : ∃ z, p0 % N = z := ⟨_, rfl⟩
  rw [hu0] at d1 d3 d5
  rw [hv0] at d2 d4 d6
  have hu0l : u0 < N := by rw [← hu0]; exact div_lt_of hp0l
  have hv0l : v0 < N := by rw [← hv0]; exact Nat.mod_lt _ (by omega)
  clear c0
  generalize valAt (.slice ua un uc) 0 = t0 at *
  replace hL1 := Lib.hid hL1
  replace hp0 := Lib.hid hp0
  replace hu0 := Lib.hid hu0
  replace hv0 := Lib.hid hv0
  replace hT5 := Lib.hid hT5
  replace hg5 := Lib.hid hg5
  go_upto_region 8 with fail
  refine wp_region_plan (fun w' => w'.cell? t0 = some (.int .i64 p0) ∧ w'.cell? ⟨w3.heap.size, 0, none⟩ = some (.int .i64 N)) 15 [(0, true), (1, true), (2, true), (3, true), (4, true), (5, true), (7, true), (8, true), (9, true), (10, true), (11, true), (12, true), (6, false), (13, false), (14, true)] (by kernel_rfl) (by kernel_rfl) ?_
  have hS : w5.drew.cell? t0 = some (.int .i64 p0) ∧ w5.drew.cell? ⟨w3.heap.size, 0, none⟩ = some (.int .i64 N) := ⟨c05, cN5⟩
  refine headY (v := ?_) (some 47) rfl rfl (Or.inl ⟨by rfl, ?_⟩) hS ?_
  rotate_left
  · rintro W' ⟨s0, s1⟩; go_simp; try with_reducible rfl
  simp only [Act.put, List.setIfInBounds_toArray, List.set_cons_zero, List.set_cons_succ]
  refine headY (v := ?_) (some 48) rfl rfl (Or.inl ⟨by rfl, ?_⟩) hS ?_
  rotate_left
  · rintro W' ⟨s0, s1⟩; go_simp; try with_reducible rfl
  simp only [Act.put, List.setIfInBounds_toArray, List.set_cons_zero, List.set_cons_succ]
  refine headY (v := ?_) (some 49) rfl rfl (Or.inl ⟨by rfl, ?_⟩) hS ?_
  rotate_left
  · rintro W' ⟨s0, s1⟩; go_simp; try with_reducible rfl
  simp only [Act.put, List.setIfInBounds_toArray, List.set_cons_zero, List.set_cons_succ]
  refine headY (v := ?_) (some 50) rfl rfl (Or.inl ⟨by rfl, ?_⟩) hS ?_
  rotate_left
  · rintro W' ⟨s0, s1⟩; go_simp; try with_reducible rfl
  simp only [Act.put, List.setIfInBounds_toArray, List.set_cons_zero, List.set_cons_succ]
  refine headY (v := ?_) (some 51) rfl rfl (Or.inl ⟨by rfl, ?_⟩) hS ?_
  rotate_left
  · rintro W' ⟨s0, s1⟩; go_simp; try with_reducible rfl
  simp only [Act.put, List.setIfInBounds_toArray, List.set_cons_zero, List.set_cons_succ]
  refine headY (v := ?_) (some 52) rfl rfl (Or.inl ⟨by rfl, ?_⟩) hS ?_
  rotate_left
  · rintro W' ⟨s0, s1⟩; go_simp; try with_reducible rfl
  simp only [Act.put, List.setIfInBounds_toArray, List.set_cons_zero, List.set_cons_succ]
  refine headY (v := ?_) (some 54) rfl rfl (Or.inl ⟨by rfl, ?_⟩) hS ?_
  rotate_left
  · rintro W' ⟨s0, s1⟩; go_simp; try with_reducible rfl
  simp only [Act.put, List.setIfInBounds_toArray, List.set_cons_zero, List.set_cons_succ]
  refine headY (v := ?_) (some 55) rfl rfl (Or.inl ⟨by rfl, ?_⟩) hS ?_
  rotate_left
  · rintro W' ⟨s0, s1⟩; go_simp; try with_reducible rfl
  simp only [Act.put, List.setIfInBounds_toArray, List.set_cons_zero, List.set_cons_succ]
  refine headY (v := ?_) (some 56) rfl rfl (Or.inl ⟨by rfl, ?_⟩) hS ?_
  rotate_left
  · rintro W' ⟨s0, s1⟩; go_simp; try with_reducible rfl
  simp only [Act.put, List.setIfInBounds_toArray, List.set_cons_zero, List.set_cons_succ]
  refine headY (v := ?_) (some 57) rfl rfl (Or.inl ⟨by rfl, ?_⟩) hS ?_
  rotate_left
  · rintro W' ⟨s0, s1⟩; go_simp; try with_reducible rfl
  simp only [Act.put, List.setIfInBounds_toArray, List.set_cons_zero, List.set_cons_succ]
  refine headY (v := ?_) (some 58) rfl rfl (Or.inl ⟨by rfl, ?_⟩) hS ?_
  rotate_left
  · rintro W' ⟨s0, s1⟩; go_simp; try with_reducible rfl
  simp only [Act.put, List.setIfInBounds_toArray, List.set_cons_zero, List.set_cons_succ]
  refine headY (v := ?_) (some 59) rfl rfl (Or.inl ⟨by rfl, ?_⟩) hS ?_
  rotate_left
  · rintro W' ⟨s0, s1⟩; go_simp; try with_reducible rfl
  simp only [Act.put, List.setIfInBounds_toArray, List.set_cons_zero, List.set_cons_succ]
  refine headC rfl (fun KK hK => ?_)
  go_simp
  refine (words2_any K R' u0 w1.heap.size w5.drew hk1 hk4 hR3 (by omega) qw5.1.1 qw5.1.2.1).mono ?_
  rintro e w6 ⟨av, rfl, b6, ho6⟩
  have hS6 : w6.cell? t0 = some (.int .i64 p0) ∧ w6.cell? ⟨w3.heap.size, 0, none⟩ = some (.int .i64 N) := ⟨(b6.cell (World.block_lt_of_cell? _ _ hS.1)).trans hS.1, cell_keep b6 hS.2⟩
  have qw6 := qw5.below (w' := w6) (Below.trans ((Below.refl _ _).drew) b6)
  refine hK _ _ hS6 ?_
  clear hK KK
  refine headC rfl (fun KK hK => ?_)
  go_simp
  refine (words2_any K R' v0 w1.heap.size w6 hk1 hk4 hR3 (by omega) qw6.1.1 qw6.1.2.1).mono ?_
  rintro e w7 ⟨bv, rfl, b7, ho7⟩
  have hS7 : w7.cell? t0 = some (.int .i64 p0) ∧ w7.cell? ⟨w3.heap.size, 0, none⟩ = some (.int .i64 N) := ⟨(b7.cell (World.block_lt_of_cell? _ _ hS6.1)).trans hS6.1, cell_keep b7 hS6.2⟩
  refine hK _ _ hS7 ?_
  clear hK KK
  refine headY (v := ?_) (some 12) rfl rfl (Or.inl ⟨by rfl, ?_⟩) hS7 ?_
  rotate_left
  · rintro W' ⟨s0, s1⟩; go_simp; try with_reducible rfl
  simp only [Act.put, List.setIfInBounds_toArray, List.set_cons_zero, List.set_cons_succ]
  refine head0 ?_
  simp only [List.drop_succ_cons, List.drop_zero]
  have b56 : Below w5.heap.size w5 w6 := Below.trans ((Below.refl _ _).drew) b6
  have b57 := Below.step b56 b7
  rw [hm.out] at ho6 ho7
  have r1 := (Rows.void w5.heap.size w5).add (i := (1, 0)) (r' := rowI av (digs K m u0)) b56 ho6 (fun k hk => (ho6.lt k hk).1)
  have r2 := r1.add (i := (2, 0)) (r' := rowI bv (digs K m v0)) b7 (ho7.mono b56.size) (fun k hk => (ho7.lt k hk).1)
  obtain ⟨f, hf⟩ : ∃ f, f = upd (upd (fun _ => none) (1, 0) (some (rowI av (digs K m u0)))) (2, 0) (some (rowI bv (digs K m v0))) := ⟨_, rfl⟩
  have hfa : f (1, 0) = some (rowI av (digs K m u0)) := by rw [hf, upd_ne _ _ (by simp), upd_same]
  have hfb : f (2, 0) = some (rowI bv (digs K m v0)) := by rw [hf, upd_same]
  rw [← hf] at r2
  have htk : ns.take 1 = [p0] := by
    cases hns : ns with
    | nil => exact absurd hns hne.out
    | cons a l => have := hp0.out; rw [hns] at this; simp at this; simp [this]
  have ha1 : alongW K m (· / N) (ns.take 1) = digs K m u0 := by rw [htk, alongW_one, hu0.out]
  have hb1 : alongW K m (· % N) (ns.take 1) = digs K m v0 := by rw [htk, alongW_one, hv0.out]
  rw [← ha1] at hfa
  rw [← hb1] at hfb
  clear hS hS6 hS7 ho6 ho7 r1 hf htk ha1 hb1 qw6 i0 c05 d1 d2 d3 d4 d5 d6
  obtain ⟨aa, an, ac, rfl⟩ := (r2.ownI hfa).at.shape
  obtain ⟨ba', bn, bc, rfl⟩ := (r2.ownI hfb).at.shape
  replace r2 := Lib.hid r2
  replace hfa := Lib.hid hfa
  replace hfb := Lib.hid hfb
  replace qw5 := Lib.hid qw5
  replace cN5 := Lib.hid cN5
  go_wp2
  refine NoPanic.normal ?_
  go_wp2_with fail
  clear hup hup1
  go_loopw [12, 13, 64] (fun xa xb jv wr => ∃ (j : Nat) (f : Names) (va' vb' : Value), j ≤ L1 ∧ jv = .int .i64 j ∧ va' = xa ∧ vb' = xb ∧ Rows w5.heap.size wr f ∧ Below w5.heap.size w5 wr ∧ f (1, 0) = some (rowI va' (alongW K m (· / N) (ns.take (j + 1)))) ∧ f (2, 0) = some (rowI vb' (alongW K m (· % N) (ns.take (j + 1)))) ∧ (∀ i, i < j → StepFits K N T' (ns.getD i 0) (ns.getD (i + 1) 0))) (fun _ _ jv _ => L1 - (intOf jv).toNat)
  case atStart => exact ⟨0, f, _, _, by omega, rfl, rfl, rfl, r2.out, b57, hfa.out, hfb.out, fun i hi => by omega⟩
  case round =>
    clear hfa hfb r2 b57 b56 b6 b7
    obtain ⟨j, f2, av, bv, hj, rfl, rfl, rfl, hr, bI, hfa, hfb, hfit⟩ := hrel
    obtain ⟨wo, rfl⟩ : ∃ wo : World, wo = wr := ⟨_, rfl⟩
    have b0o := b05.trans (bI.mono b05.size)
    by_cases hjl : j < L1
    · obtain ⟨p, hp⟩ : ∃ p, ns.getD (j + 1) 0 = p := ⟨_, rfl⟩
      obtain ⟨pj, hpj⟩ : ∃ p, ns.getD j 0 = p := ⟨_, rfl⟩
      have hll := hL1.out
      have hjl2 := Lib.hid hjl
      have hpl : p < N * N := by rw [← hp]; exact hlow2.out (j + 1) (by omega)
      have hpjl : pj < N * N := by rw [← hpj]; exact hlow2.out j (by omega)
      have iJ := fun w' => iP.out j (by omega) w'
      have cJ := cP2.out j (by omega)
      have iI := fun w' => iU.out j (by omega) w'
      have cI := cU2.out j (by omega)
      rw [hp] at cJ
      rw [hpj] at cI
      have cJo := (b0o.cell (World.block_lt_of_cell? _ _ cJ)).trans cJ
      have cIo := (b0o.cell (World.block_lt_of_cell? _ _ cI)).trans cI
      have htk : ns.take (j + 1 + 1) = ns.take (j + 1) ++ [p] := by
        rw [List.take_add_one, List.getElem?_eq_getElem (show j + 1 < ns.length by omega)]
        have : ns[j + 1]'(by omega) = p := by rw [← hp]; simp [List.getD, show j + 1 < ns.length by omega]
        rw [this]; rfl
      have htn : ns.take (j + 1) ≠ [] := by
        intro e
        have := congrArg List.length e
        rw [List.length_take, List.length_nil] at this; omega
      have haS := alongW_snoc K m (· / N) (ns.take (j + 1)) p htn
      have hbS := alongW_snoc K m (· % N) (ns.take (j + 1)) p htn
      rw [← htk] at haS hbS
      obtain ⟨d1, d2, d3, d4, d5, d6⟩ := dm p N (by omega)
      obtain ⟨u1, hu1⟩ : ∃ z, p / N = z := ⟨_, rfl⟩
      obtain ⟨v1, hv1⟩ : ∃ z, p % N = z := ⟨_, rfl⟩
      rw [hu1] at d1 d3 d5 haS
      rw [hv1] at d2 d4 d6 hbS
      have hu1l : u1 < N := by rw [← hu1]; exact div_lt_of hpl
      have hv1l : v1 < N := by rw [← hv1]; exact Nat.mod_lt _ (by omega)
      obtain ⟨g1, g2, g3, g4, g5, g6⟩ := dm pj N (by omega)
      obtain ⟨uj, huj⟩ : ∃ z, pj / N = z := ⟨_, rfl⟩
      obtain ⟨vj, hvj⟩ : ∃ z, pj % N = z := ⟨_, rfl⟩
      rw [huj] at g1 g3 g5
      rw [hvj] at g2 g4 g6
      have hujl : uj < N := by rw [← huj]; exact div_lt_of hpjl
      have hvjl : vj < N := by rw [← hvj]; exact Nat.mod_lt _ (by omega)
      obtain ⟨_, x2, _, x4, _, x6⟩ := dm u1 K (by omega)
      obtain ⟨_, z2, _, z4, _, z6⟩ := dm v1 K (by omega)
      obtain ⟨s, hs⟩ : ∃ z, u1 % K = z := ⟨_, rfl⟩
      obtain ⟨t, ht⟩ : ∃ z, v1 % K = z := ⟨_, rfl⟩
      rw [hs] at x2 x4 x6 haS
      rw [ht] at z2 z4 z6 hbS
      have hsl : s < K := by rw [← hs]; exact Nat.mod_lt _ (by omega)
      have htl : t < K := by rw [← ht]; exact Nat.mod_lt _ (by omega)
      have hstep : StepFits K N T' pj p ↔ toN K N uj s = u1 ∧ toN K N vj t = v1 ∧ labN K T' uj s = labN K T' vj t := by
        unfold StepFits; rw [hu1, hv1, huj, hvj, hs, ht]
      have qwo := qw5.out.below bI
      have cNo := cell_keep bI cN5.out
      clear cJ cI
      generalize valAt (.slice pa pn pc) j = tj at *
      generalize valAt (.slice ua un uc) j = ti at *
      have hoa := hr.ownI hfa
      have hob := hr.ownI hfb
      have hm6 : m ≤ 6 := by have := hm.out; omega
      have hLa : (alongW K m (· / N) (ns.take (j + 1))).length ≤ 17592186044100 := by rw [alongW_len, List.length_take]; omega
      have hLb : (alongW K m (· % N) (ns.take (j + 1))).length ≤ 17592186044100 := by rw [alongW_len, List.length_take]; omega
      replace hp := Lib.hid hp
      replace hpj := Lib.hid hpj
      replace hll := Lib.hid hll
      replace htk := Lib.hid htk
      replace htn := Lib.hid htn
      replace haS := Lib.hid haS
      replace hbS := Lib.hid hbS
      replace hu1 := Lib.hid hu1
      replace hv1 := Lib.hid hv1
      replace huj := Lib.hid huj
      replace hvj := Lib.hid hvj
      replace hs := Lib.hid hs
      replace ht := Lib.hid ht
      replace hstep := Lib.hid hstep
      replace hfit := Lib.hid hfit
      replace hr := Lib.hid hr
      replace hfa := Lib.hid hfa
      replace hfb := Lib.hid hfb
      replace hoa := Lib.hid hoa
      replace hob := Lib.hid hob
      go_upto_region 12 with fail
      refine wp_region_plan (fun w' => w'.cell? ⟨w1.heap.size, 0, none⟩ = some (.int .i64 K) ∧ w'.cell? ⟨w3.heap.size, 0, none⟩ = some (.int .i64 N)) 13 [(0, true), (1, true), (2, true), (3, true), (4, true), (5, true), (6, true), (7, true), (8, true), (9, true), (10, true), (11, true), (12, true)] (by kernel_rfl) (by kernel_rfl) ?_
      have hS : wo.drew.cell? ⟨w1.heap.size, 0, none⟩ = some (.int .i64 K) ∧ wo.drew.cell? ⟨w3.heap.size, 0, none⟩ = some (.int .i64 N) := ⟨qwo.1.1, cNo⟩
      refine headY (v := ?_) (some 69) rfl rfl (Or.inl ⟨by rfl, ?_⟩) hS ?_
      rotate_left
      · rintro W' ⟨s0, s1⟩; go_simp; try with_reducible rfl
      simp only [Act.put, List.setIfInBounds_toArray, List.set_cons_zero, List.set_cons_succ]
      refine headY (v := ?_) (some 70) rfl rfl (Or.inl ⟨by rfl, ?_⟩) hS ?_
      rotate_left
      · rintro W' ⟨s0, s1⟩; go_simp; try with_reducible rfl
      simp only [Act.put, List.setIfInBounds_toArray, List.set_cons_zero, List.set_cons_succ]
      refine headY (v := ?_) (some 71) rfl rfl (Or.inl ⟨by rfl, ?_⟩) hS ?_
      rotate_left
      · rintro W' ⟨s0, s1⟩; go_simp; try with_reducible rfl
      simp only [Act.put, List.setIfInBounds_toArray, List.set_cons_zero, List.set_cons_succ]
      refine headY (v := ?_) (some 72) rfl rfl (Or.inl ⟨by rfl, ?_⟩) hS ?_
      rotate_left
      · rintro W' ⟨s0, s1⟩; go_simp; try with_reducible rfl
      simp only [Act.put, List.setIfInBounds_toArray, List.set_cons_zero, List.set_cons_succ]
      refine headY (v := ?_) (some 73) rfl rfl (Or.inl ⟨by rfl, ?_⟩) hS ?_
      rotate_left
      · rintro W' ⟨s0, s1⟩; go_simp; try with_reducible rfl
      simp only [Act.put, List.setIfInBounds_toArray, List.set_cons_zero, List.set_cons_succ]
      refine headY (v := ?_) (some 74) rfl rfl (Or.inl ⟨by rfl, ?_⟩) hS ?_
      rotate_left
      · rintro W' ⟨s0, s1⟩; go_simp; try with_reducible rfl
      simp only [Act.put, List.setIfInBounds_toArray, List.set_cons_zero, List.set_cons_succ]
      refine headY (v := ?_) (some 75) rfl rfl (Or.inl ⟨by rfl, ?_⟩) hS ?_
      rotate_left
      · rintro W' ⟨s0, s1⟩; go_simp; try with_reducible rfl
      simp only [Act.put, List.setIfInBounds_toArray, List.set_cons_zero, List.set_cons_succ]
      refine headY (v := ?_) (some 76) rfl rfl (Or.inl ⟨by rfl, ?_⟩) hS ?_
      rotate_left
      · rintro W' ⟨s0, s1⟩; go_simp; try with_reducible rfl
      simp only [Act.put, List.setIfInBounds_toArray, List.set_cons_zero, List.set_cons_succ]
      refine headY (v := ?_) (some 77) rfl rfl (Or.inl ⟨by rfl, ?_⟩) hS ?_
      rotate_left
      · rintro W' ⟨s0, s1⟩; go_simp; try with_reducible rfl
      simp only [Act.put, List.setIfInBounds_toArray, List.set_cons_zero, List.set_cons_succ]
      refine headY (v := ?_) (some 78) rfl rfl (Or.inl ⟨by rfl, ?_⟩) hS ?_
      rotate_left
      · rintro W' ⟨s0, s1⟩; go_simp; try with_reducible rfl
      simp only [Act.put, List.setIfInBounds_toArray, List.set_cons_zero, List.set_cons_succ]
      refine headY (v := ?_) (some 79) rfl rfl (Or.inl ⟨by rfl, ?_⟩) hS ?_
      rotate_left
      · rintro W' ⟨s0, s1⟩; go_simp; try with_reducible rfl
      simp only [Act.put, List.setIfInBounds_toArray, List.set_cons_zero, List.set_cons_succ]
      refine headY (v := ?_) (some 80) rfl rfl (Or.inl ⟨by rfl, ?_⟩) hS ?_
      rotate_left
      · rintro W' ⟨s0, s1⟩; go_simp; try with_reducible rfl
      simp only [Act.put, List.setIfInBounds_toArray, List.set_cons_zero, List.set_cons_succ]
      refine headY (v := ?_) (some 16) rfl rfl (Or.inl ⟨by rfl, ?_⟩) hS ?_
      rotate_left
      · rintro W' ⟨s0, s1⟩; go_simp; try with_reducible rfl
      simp only [Act.put, List.setIfInBounds_toArray, List.set_cons_zero, List.set_cons_succ]
      refine head0 ?_
      simp only [List.drop_succ_cons, List.drop_zero]
      clear hS
      go_wp2
      refine NoPanic.normal ?_
      go_upto_region 13 with fail
      refine wp_region_plan (fun w' => w'.cell? ⟨w1.heap.size, 0, none⟩ = some (.int .i64 K) ∧ w'.cell? ⟨w1.heap.size, 1, none⟩ = some (.int .i64 R') ∧ w'.cell? ⟨w1.heap.size, 2, none⟩ = some (.slice a n c) ∧ w'.cell? ⟨w3.heap.size, 0, none⟩ = some (.int .i64 N) ∧ w'.cell? ti = some (.int .i64 pj)) 15 [(0, true), (1, true), (2, true), (3, true), (4, true), (5, true), (6, true), (7, true), (8, false), (9, true), (10, true), (11, true), (12, true), (13, true), (14, true)] (by kernel_rfl) (by kernel_rfl) ?_
      have hS : wo.drew.drew.cell? ⟨w1.heap.size, 0, none⟩ = some (.int .i64 K) ∧ wo.drew.drew.cell? ⟨w1.heap.size, 1, none⟩ = some (.int .i64 R') ∧ wo.drew.drew.cell? ⟨w1.heap.size, 2, none⟩ = some (.slice a n c) ∧ wo.drew.drew.cell? ⟨w3.heap.size, 0, none⟩ = some (.int .i64 N) ∧ wo.drew.drew.cell? ti = some (.int .i64 pj) := ⟨qwo.1.1, qwo.1.2.1, qwo.1.2.2, cNo, cIo⟩
      refine headY (v := ?_) (some 82) rfl rfl (Or.inl ⟨by rfl, ?_⟩) hS ?_
      rotate_left
      · rintro W' ⟨s0, s1, s2, s3, s4⟩; go_simp; try with_reducible rfl
      simp only [Act.put, List.setIfInBounds_toArray, List.set_cons_zero, List.set_cons_succ]
      refine headY (v := ?_) (some 83) rfl rfl (Or.inl ⟨by rfl, ?_⟩) hS ?_
      rotate_left
      · rintro W' ⟨s0, s1, s2, s3, s4⟩; go_simp; try with_reducible rfl
      simp only [Act.put, List.setIfInBounds_toArray, List.set_cons_zero, List.set_cons_succ]
      refine headY (v := ?_) (some 84) rfl rfl (Or.inl ⟨by rfl, ?_⟩) hS ?_
      rotate_left
      · rintro W' ⟨s0, s1, s2, s3, s4⟩; go_simp; try with_reducible rfl
      simp only [Act.put, List.setIfInBounds_toArray, List.set_cons_zero, List.set_cons_succ]
      refine headY (v := ?_) (some 85) rfl rfl (Or.inl ⟨by rfl, ?_⟩) hS ?_
      rotate_left
      · rintro W' ⟨s0, s1, s2, s3, s4⟩; go_simp; try with_reducible rfl
      simp only [Act.put, List.setIfInBounds_toArray, List.set_cons_zero, List.set_cons_succ]
      refine headY (v := ?_) (some 86) rfl rfl (Or.inl ⟨by rfl, ?_⟩) hS ?_
      rotate_left
      · rintro W' ⟨s0, s1, s2, s3, s4⟩; go_simp; try with_reducible rfl
      simp only [Act.put, List.setIfInBounds_toArray, List.set_cons_zero, List.set_cons_succ]
      refine headY (v := ?_) (some 87) rfl rfl (Or.inl ⟨by rfl, ?_⟩) hS ?_
      rotate_left
      · rintro W' ⟨s0, s1, s2, s3, s4⟩; go_simp; try with_reducible rfl
      simp only [Act.put, List.setIfInBounds_toArray, List.set_cons_zero, List.set_cons_succ]
      refine headY (v := ?_) (some 88) rfl rfl (Or.inl ⟨by rfl, ?_⟩) hS ?_
      rotate_left
      · rintro W' ⟨s0, s1, s2, s3, s4⟩; go_simp; try with_reducible rfl
      simp only [Act.put, List.setIfInBounds_toArray, List.set_cons_zero, List.set_cons_succ]
      refine headY (v := ?_) (some 89) rfl rfl (Or.inl ⟨by rfl, ?_⟩) hS ?_
      rotate_left
      · rintro W' ⟨s0, s1, s2, s3, s4⟩; go_simp; try with_reducible rfl
      simp only [Act.put, List.setIfInBounds_toArray, List.set_cons_zero, List.set_cons_succ]
      refine headC rfl (fun KK hK => ?_)
      go_simp
      refine (hEdge.out a n c uj s wo.drew.drew (hg5.out.below bI.drew.drew) (hT5.out.below bI.drew.drew) hujl hsl).mono ?_
      rintro e w6 ⟨x, y, z, rfl, b6, rfl, rfl, rfl⟩
      obtain ⟨X1, hX1⟩ : ∃ X, toN K N uj s = X := ⟨_, rfl⟩
      obtain ⟨O1, hO1⟩ : ∃ X, labN K T' uj s = X := ⟨_, rfl⟩
      rw [hX1, hO1]
      have bo6 : Below wo.heap.size wo w6 := Below.trans ((Below.refl _ _).drew.drew) b6
      have hS6 : w6.cell? ⟨w1.heap.size, 0, none⟩ = some (.int .i64 K) ∧ w6.cell? ⟨w1.heap.size, 1, none⟩ = some (.int .i64 R') ∧ w6.cell? ⟨w1.heap.size, 2, none⟩ = some (.slice a n c) ∧ w6.cell? ⟨w3.heap.size, 0, none⟩ = some (.int .i64 N) ∧ w6.cell? ti = some (.int .i64 pj) := ⟨cell_keep b6 hS.1, cell_keep b6 hS.2.1, cell_keep b6 hS.2.2.1, cell_keep b6 hS.2.2.2.1, (b6.cell (World.block_lt_of_cell? _ _ hS.2.2.2.2)).trans hS.2.2.2.2⟩
      refine hK _ _ hS6 ?_
      clear hK KK
      refine headY (v := ?_) (some 81) rfl rfl (Or.inl ⟨by rfl, ?_⟩) hS6 ?_
      rotate_left
      · rintro W' ⟨s0, s1, s2, s3, s4⟩; go_simp; try with_reducible rfl
      simp only [Act.put, List.setIfInBounds_toArray, List.set_cons_zero, List.set_cons_succ]
      refine headY (v := ?_) (some 91) rfl rfl (Or.inl ⟨by rfl, ?_⟩) hS6 ?_
      rotate_left
      · rintro W' ⟨s0, s1, s2, s3, s4⟩; go_simp; try with_reducible rfl
      simp only [Act.put, List.setIfInBounds_toArray, List.set_cons_zero, List.set_cons_succ]
      refine headY (v := ?_) (some 92) rfl rfl (Or.inl ⟨by rfl, ?_⟩) hS6 ?_
      rotate_left
      · rintro W' ⟨s0, s1, s2, s3, s4⟩; go_simp; try with_reducible rfl
      simp only [Act.put, List.setIfInBounds_toArray, List.set_cons_zero, List.set_cons_succ]
      refine headY (v := ?_) (some 93) rfl rfl (Or.inl ⟨by rfl, ?_⟩) hS6 ?_
      rotate_left
      · rintro W' ⟨s0, s1, s2, s3, s4⟩; go_simp; try with_reducible rfl
      simp only [Act.put, List.setIfInBounds_toArray, List.set_cons_zero, List.set_cons_succ]
      refine headY (v := ?_) (some 18) rfl rfl (Or.inl ⟨by rfl, ?_⟩) hS6 ?_
      rotate_left
      · rintro W' ⟨s0, s1, s2, s3, s4⟩; go_simp; try with_reducible rfl
      simp only [Act.put, List.setIfInBounds_toArray, List.set_cons_zero, List.set_cons_succ]
      refine headY (v := ?_) (some 19) rfl rfl (Or.inl ⟨by rfl, ?_⟩) hS6 ?_
      rotate_left
      · rintro W' ⟨s0, s1, s2, s3, s4⟩; go_simp; try with_reducible rfl
      simp only [Act.put, List.setIfInBounds_toArray, List.set_cons_zero, List.set_cons_succ]
      refine head0 ?_
      simp only [List.drop_succ_cons, List.drop_zero]
      have bI6 := bI.trans (bo6.mono bI.size)
      have hS6' := Lib.hid hS6
      clear hS hS6
      go_wp2
      refine NoPanic.normal ?_
      go_upto_region 14 with fail
      refine wp_region_plan (fun w' => w'.cell? ⟨w1.heap.size, 0, none⟩ = some (.int .i64 K) ∧ w'.cell? ⟨w1.heap.size, 1, none⟩ = some (.int .i64 R') ∧ w'.cell? ⟨w1.heap.size, 2, none⟩ = some (.slice a n c) ∧ w'.cell? ⟨w3.heap.size, 0, none⟩ = some (.int .i64 N) ∧ w'.cell? ti = some (.int .i64 pj)) 15 [(0, true), (1, true), (2, true), (3, true), (4, true), (5, true), (6, true), (7, true), (8, false), (9, true), (10, true), (11, true), (12, true), (13, true), (14, true)] (by kernel_rfl) (by kernel_rfl) ?_
      have hS : w6.drew.cell? ⟨w1.heap.size, 0, none⟩ = some (.int .i64 K) ∧ w6.drew.cell? ⟨w1.heap.size, 1, none⟩ = some (.int .i64 R') ∧ w6.drew.cell? ⟨w1.heap.size, 2, none⟩ = some (.slice a n c) ∧ w6.drew.cell? ⟨w3.heap.size, 0, none⟩ = some (.int .i64 N) ∧ w6.drew.cell? ti = some (.int .i64 pj) := hS6'.out
      refine headY (v := ?_) (some 95) rfl rfl (Or.inl ⟨by rfl, ?_⟩) hS ?_
      rotate_left
      · rintro W' ⟨s0, s1, s2, s3, s4⟩; go_simp; try with_reducible rfl
      simp only [Act.put, List.setIfInBounds_toArray, List.set_cons_zero, List.set_cons_succ]
      refine headY (v := ?_) (some 96) rfl rfl (Or.inl ⟨by rfl, ?_⟩) hS ?_
      rotate_left
      · rintro W' ⟨s0, s1, s2, s3, s4⟩; go_simp; try with_reducible rfl
      simp only [Act.put, List.setIfInBounds_toArray, List.set_cons_zero, List.set_cons_succ]
      refine headY (v := ?_) (some 97) rfl rfl (Or.inl ⟨by rfl, ?_⟩) hS ?_
      rotate_left
      · rintro W' ⟨s0, s1, s2, s3, s4⟩; go_simp; try with_reducible rfl
      simp only [Act.put, List.setIfInBounds_toArray, List.set_cons_zero, List.set_cons_succ]
      refine headY (v := ?_) (some 98) rfl rfl (Or.inl ⟨by rfl, ?_⟩) hS ?_
      rotate_left
      · rintro W' ⟨s0, s1, s2, s3, s4⟩; go_simp; try with_reducible rfl
      simp only [Act.put, List.setIfInBounds_toArray, List.set_cons_zero, List.set_cons_succ]
      refine headY (v := ?_) (some 99) rfl rfl (Or.inl ⟨by rfl, ?_⟩) hS ?_
      rotate_left
      · rintro W' ⟨s0, s1, s2, s3, s4⟩; go_simp; try with_reducible rfl
      simp only [Act.put, List.setIfInBounds_toArray, List.set_cons_zero, List.set_cons_succ]
      refine headY (v := ?_) (some 100) rfl rfl (Or.inl ⟨by rfl, ?_⟩) hS ?_
      rotate_left
      · rintro W' ⟨s0, s1, s2, s3, s4⟩; go_simp; try with_reducible rfl
      simp only [Act.put, List.setIfInBounds_toArray, List.set_cons_zero, List.set_cons_succ]
      refine headY (v := ?_) (some 101) rfl rfl (Or.inl ⟨by rfl, ?_⟩) hS ?_
      rotate_left
      · rintro W' ⟨s0, s1, s2, s3, s4⟩; go_simp; try with_reducible rfl
      simp only [Act.put, List.setIfInBounds_toArray, List.set_cons_zero, List.set_cons_succ]
      refine headY (v := ?_) (some 102) rfl rfl (Or.inl ⟨by rfl, ?_⟩) hS ?_
      rotate_left
      · rintro W' ⟨s0, s1, s2, s3, s4⟩; go_simp; try with_reducible rfl
      simp only [Act.put, List.setIfInBounds_toArray, List.set_cons_zero, List.set_cons_succ]
      refine headC rfl (fun KK hK => ?_)
      go_simp
      refine (hEdge.out a n c vj t w6.drew (hg5.out.below bI6.drew) (hT5.out.below bI6.drew) hvjl htl).mono ?_
      rintro e w7 ⟨x, y, z, rfl, b7, rfl, rfl, rfl⟩
      obtain ⟨X2, hX2⟩ : ∃ X, toN K N vj t = X := ⟨_, rfl⟩
      obtain ⟨O2, hO2⟩ : ∃ X, labN K T' vj t = X := ⟨_, rfl⟩
      rw [hX2, hO2]
      have b67 : Below w6.heap.size w6 w7 := Below.trans ((Below.refl _ _).drew) b7
      have bo7 := Below.step bo6 b67
      have bI7 := bI.trans (bo7.mono bI.size)
      have hS7 : w7.cell? ⟨w1.heap.size, 0, none⟩ = some (.int .i64 K) ∧ w7.cell? ⟨w1.heap.size, 1, none⟩ = some (.int .i64 R') ∧ w7.cell? ⟨w1.heap.size, 2, none⟩ = some (.slice a n c) ∧ w7.cell? ⟨w3.heap.size, 0, none⟩ = some (.int .i64 N) ∧ w7.cell? ti = some (.int .i64 pj) := ⟨cell_keep b7 hS.1, cell_keep b7 hS.2.1, cell_keep b7 hS.2.2.1, cell_keep b7 hS.2.2.2.1, (b7.cell (World.block_lt_of_cell? _ _ hS.2.2.2.2)).trans hS.2.2.2.2⟩
      refine hK _ _ hS7 ?_
      clear hK KK
      refine headY (v := ?_) (some 94) rfl rfl (Or.inl ⟨by rfl, ?_⟩) hS7 ?_
      rotate_left
      · rintro W' ⟨s0, s1, s2, s3, s4⟩; go_simp; try with_reducible rfl
      simp only [Act.put, List.setIfInBounds_toArray, List.set_cons_zero, List.set_cons_succ]
      refine headY (v := ?_) (some 104) rfl rfl (Or.inl ⟨by rfl, ?_⟩) hS7 ?_
      rotate_left
      · rintro W' ⟨s0, s1, s2, s3, s4⟩; go_simp; try with_reducible rfl
      simp only [Act.put, List.setIfInBounds_toArray, List.set_cons_zero, List.set_cons_succ]
      refine headY (v := ?_) (some 105) rfl rfl (Or.inl ⟨by rfl, ?_⟩) hS7 ?_
      rotate_left
      · rintro W' ⟨s0, s1, s2, s3, s4⟩; go_simp; try with_reducible rfl
      simp only [Act.put, List.setIfInBounds_toArray, List.set_cons_zero, List.set_cons_succ]
      refine headY (v := ?_) (some 106) rfl rfl (Or.inl ⟨by rfl, ?_⟩) hS7 ?_
      rotate_left
      · rintro W' ⟨s0, s1, s2, s3, s4⟩; go_simp; try with_reducible rfl
      simp only [Act.put, List.setIfInBounds_toArray, List.set_cons_zero, List.set_cons_succ]
      refine headY (v := ?_) (some 21) rfl rfl (Or.inl ⟨by rfl, ?_⟩) hS7 ?_
      rotate_left
      · rintro W' ⟨s0, s1, s2, s3, s4⟩; go_simp; try with_reducible rfl
      simp only [Act.put, List.setIfInBounds_toArray, List.set_cons_zero, List.set_cons_succ]
      refine headY (v := ?_) (some 22) rfl rfl (Or.inl ⟨by rfl, ?_⟩) hS7 ?_
      rotate_left
      · rintro W' ⟨s0, s1, s2, s3, s4⟩; go_simp; try with_reducible rfl
      simp only [Act.put, List.setIfInBounds_toArray, List.set_cons_zero, List.set_cons_succ]
      refine head0 ?_
      simp only [List.drop_succ_cons, List.drop_zero]
      obtain ⟨k0, k1, k2, k3, k4⟩ := hS7
      clear hS hS6' cIo cJo k0 k1 k2 k4 cNo
      rw [hX1, hO1, hX2, hO2] at hstep
      replace hX1 := Lib.hid hX1
      replace hX2 := Lib.hid hX2
      replace hO1 := Lib.hid hO1
      replace hO2 := Lib.hid hO2
      go_wp2
      refine NoPanic.normal ?_
      by_cases e1 : X1 = u1
      · have q1 : ((X1 : Int) != (u1 : Int)) = false := by rw [bne_eq_false_iff_eq]; omega
        by_cases e2 : X2 = v1
        · have q2 : ((X2 : Int) != (v1 : Int)) = false := by rw [bne_eq_false_iff_eq]; omega
          by_cases e3 : O1 = O2
          · have q3 : (O1 != O2) = false := by rw [bne_eq_false_iff_eq]; exact e3
            have hnow := hstep.out.2 ⟨e1, e2, e3⟩
            have hr7 := hr.out.below bo7
            have hoa7 := hoa.out.below bo7
            have hB7 := bI7.size
            replace e1 := Lib.hid e1
            replace e2 := Lib.hid e2
            replace e3 := Lib.hid e3
            replace hr7 := Lib.hid hr7
            go_wp2_with (at_builtin; go_loud (refine wpl_append1 rfl _ _ rfl w5.heap.size av _ s hoa7 rfl rfl (by omega) hB7 ?_))
            intro av2 w8 ho8 b8 hgr8 hal8
            have hr8 := hr7.out.push hfa.out (s : Int) ho8 hgr8 hal8
            have hfb8 : upd f2 (1, 0) (some (rowI av2 (alongW K m (· / N) (ns.take (j + 1)) ++ [(s : Int)]))) (2, 0) = some (rowI bv (alongW K m (· % N) (ns.take (j + 1)))) := by rw [upd_ne _ _ (by simp)]; exact hfb.out
            have hob8 := hr8.ownI hfb8
            have hB8 : w5.heap.size ≤ w8.heap.size := Nat.le_trans hB7 b8.size
            obtain ⟨a2a, a2n, a2c, rfl⟩ := ho8.at.shape
            replace hr8 := Lib.hid hr8
            replace ho8 := Lib.hid ho8
            clear hgr8 hal8 hoa7
            go_wp2_with (at_builtin; go_loud (refine wpl_append1 rfl _ _ rfl w5.heap.size bv _ t hob8 rfl rfl (by omega) hB8 ?_))
            intro bv2 w9 ho9 b9 hgr9 hal9
            have hr9 := hr8.out.push hfb8 (t : Int) ho9 hgr9 hal9
            obtain ⟨b2a, b2n, b2c, rfl⟩ := ho9.at.shape
            replace hr9 := Lib.hid hr9
            replace ho9 := Lib.hid ho9
            replace hfb8 := Lib.hid hfb8
            clear hgr9 hal9 hob8
            go_wp2
            go_roundw
            case measure => have := hjl2.out; simp [intOf]; omega
            case rel =>
              refine ⟨j + 1, _, _, _, by have := hjl2.out; omega, by go_num, rfl, rfl, hr9.out, bI7.trans (b8.trans b9), ?_, ?_, fun i hi => ?_⟩
              · rw [upd_ne _ _ (by simp), upd_same, haS.out]
              · rw [upd_same, hbS.out]
              · by_cases e : i = j
                · subst e; rw [hpj.out, hp.out]; exact hnow
                · exact hfit.out i (by omega)
          · have q3 : (O1 != O2) = true := by rw [bne_iff_ne]; exact e3
            have hnow : ¬ AllFit K N T' ns := fun hA => by
              have := hA j (by have := hll.out; have := hjl2.out; omega)
              rw [hpj.out, hp.out, hstep.out] at this
              exact e3 this.2.2
            replace hnow := Lib.hid hnow
            go_wp2_with fail
            refine (pairs_wrong r _ _ w7 (hg5.out.below bI7) (by decide) (by decide)).mono ?_
            rintro e w8 ⟨x, rfl, b8, he⟩
            replace he := Lib.hid he
            have bE := Below.step (b05.trans (bI7.mono b05.size)) b8
            go_wp2
            go_ret3
            exact ⟨_, _, _, rfl, bE, .inr ⟨hnow.out, rfl, rfl, he.out⟩⟩
        · have q2 : ((X2 : Int) != (v1 : Int)) = true := by rw [bne_iff_ne]; omega
          have hnow : ¬ AllFit K N T' ns := fun hA => by
            have := hA j (by have := hll.out; have := hjl2.out; omega)
            rw [hpj.out, hp.out, hstep.out] at this
            exact e2 this.2.1
          replace hnow := Lib.hid hnow
          go_wp2_with fail
          refine (pairs_wrong r _ _ w7 (hg5.out.below bI7) (by decide) (by decide)).mono ?_
          rintro e w8 ⟨x, rfl, b8, he⟩
          replace he := Lib.hid he
          have bE := Below.step (b05.trans (bI7.mono b05.size)) b8
          go_wp2
          go_ret3
          exact ⟨_, _, _, rfl, bE, .inr ⟨hnow.out, rfl, rfl, he.out⟩⟩
      · have q1 : ((X1 : Int) != (u1 : Int)) = true := by rw [bne_iff_ne]; omega
        have hnow : ¬ AllFit K N T' ns := fun hA => by
          have := hA j (by have := hll.out; have := hjl2.out; omega)
          rw [hpj.out, hp.out, hstep.out] at this
          exact e1 this.1
        replace hnow := Lib.hid hnow
        go_wp2_with fail
        refine (pairs_wrong r _ _ w7 (hg5.out.below bI7) (by decide) (by decide)).mono ?_
        rintro e w8 ⟨x, rfl, b8, he⟩
        replace he := Lib.hid he
        have bE := Below.step (b05.trans (bI7.mono b05.size)) b8
        go_wp2
        go_ret3
        exact ⟨_, _, _, rfl, bE, .inr ⟨hnow.out, rfl, rfl, he.out⟩⟩
    · obtain rfl : j = L1 := by omega
      have hall : ns.take (j + 1) = ns := List.take_of_length_le (by have := hL1.out; omega)
      rw [hall] at hfa hfb
      have hoa := hr.ownI hfa
      have hob := hr.ownI hfb
      have hdis := hr.2 (1, 0) (2, 0) _ _ hfa hfb (by simp)
      have hAll : AllFit K N T' ns := fun i hi => hfit i (by have := hL1.out; omega)
      have hoa' := hoa.mono (B' := w.heap.size) b05.size
      have hob' := hob.mono (B' := w.heap.size) b05.size
      obtain ⟨a2a, a2n, a2c, rfl⟩ := hoa.at.shape
      obtain ⟨b2a, b2n, b2c, rfl⟩ := hob.at.shape
      replace hr := Lib.hid hr
      replace hfa := Lib.hid hfa
      replace hfb := Lib.hid hfb
      replace hoa := Lib.hid hoa
      replace hob := Lib.hid hob
      replace hoa' := Lib.hid hoa'
      replace hob' := Lib.hid hob'
      replace hdis := Lib.hid hdis
      replace hAll := Lib.hid hAll
      replace hfit := Lib.hid hfit
      go_wp2
      go_ret3
      exact ⟨_, _, _, rfl, b0o, .inl ⟨hAll.out, rfl, hoa'.out, hob'.out, hdis.out⟩⟩
end Go.Proofs.YthnkdiejmclmkaaDoor

namespace Go.Proofs.YthnkdiejmclmkaaDoor
open Go.RowKit
set_option maxRecDepth 100000

/-- No vertex of G. -/
def outG (G : List (List Int)) (a : Int) : Prop := a < 0 ∨ (G.length : Int) ≤ a
instance (G : List (List Int)) (a : Int) : Decidable (outG G a) := by unfold outG; infer_instance
/-- What Path tells of its arguments. -/
def pathE (G : List (List Int)) (a b : Int) : PErr :=
  match checkG G with
  | some t => some t
  | none => if outG G a then fresh sGraph 1 3 else if outG G b then fresh sGraph 2 3 else none
theorem pathE_none {G : List (List Int)} {a b : Int} (h : pathE G a b = none) : checkG G = none ∧ ∃ x y : Nat, a = x ∧ b = y ∧ x < G.length ∧ y < G.length := by
  unfold pathE at h
  cases hc : checkG G with
  | some t => rw [hc] at h; cases h
  | none =>
    rw [hc] at h
    dsimp only at h
    by_cases ha : outG G a
    · rw [if_pos ha] at h; cases h
    rw [if_neg ha] at h
    by_cases hb : outG G b
    · rw [if_pos hb] at h; cases h
    unfold outG at ha hb
    exact ⟨rfl, a.toNat, b.toNat, by omega, by omega, by omega, by omega⟩
theorem pathE_ok {G : List (List Int)} {x y : Nat} (hc : checkG G = none) (hx : x < G.length) (hy : y < G.length) : pathE G x y = none := by
  unfold pathE
  rw [hc]
  dsimp only
  rw [if_neg (by unfold outG; omega), if_neg (by unfold outG; omega)]
/-- What Path leaves. -/
def PathPost (r : Nat → Addr) (w : World) (G : List (List Int)) (a b : Int) (x y : Value) (w' : World) : Prop :=
  ErrIs r w' (pathE G a b) y ∧ (pathE G a b = none → FirstPost w (adjOf G) a.toNat b.toNat x w') ∧ (pathE G a b ≠ none → x = .slice none 0 0)
theorem FirstPost.step {w1 w2 w3 : World} {adj : Nat → List Nat} {a b : Nat} {x : Value} (h : FirstPost w2 adj a b x w3) (hs : w1.heap.size ≤ w2.heap.size) : FirstPost w1 adj a b x w3 := by
  rcases h with ⟨u, h1, h2⟩ | h
  · exact .inl ⟨u, h1, h2.mono hs⟩
  · exact .inr h
theorem FirstPost.shape {w w' : World} {adj : Nat → List Nat} {a b : Nat} {x : Value} (h : FirstPost w adj a b x w') : ∃ p n c, x = .slice p n c := by
  rcases h with ⟨u, _, h2⟩ | ⟨_, h⟩
  · exact h2.at.shape
  · exact ⟨_, _, _, h⟩

set_option maxHeartbeats 4000000 in
theorem path_any (r : Nat → Addr) (na : Option Addr) (nc : Nat) (G : List (List Int)) (a b : Int) (w : World) (hg : Glob r w) (h : ListsAt w (.slice na G.length nc) G) (hsz : ∀ k, k < G.length → (G.getD k []).length ≤ 17592186044416) :
    Calls Tryd.prog 103 #[.slice na G.length nc, .int .i64 a, .int .i64 b] w (Ret2 (PathPost r w G a b) w) := by
  have hC := graph_check r na nc G w hg h hsz
  cases hck : checkG G with
  | some t =>
    rw [hck] at hC
    have hp : pathE G a b = some t := by unfold pathE; rw [hck]
    replace hp := Lib.hid hp
    replace hck := Lib.hid hck
    replace h := Lib.hid h
    replace hg := Lib.hid hg
    replace hsz := Lib.hid hsz
    go_enter Tryd.func103, Tryd.ntmps103
    go_wp2_with fail
    refine hC.mono ?_
    rintro e w1 ⟨y, rfl, b1, he⟩
    obtain ⟨T, p, rfl⟩ := he.some_shape
    replace he := Lib.hid he
    go_wp2
    go_ret2
    exact ⟨_, _, rfl, b1, ⟨by rw [hp.out]; exact he.out, ⟨fun q => (by rw [hp.out] at q; cases q), fun _ => rfl⟩⟩⟩
  | none =>
    rw [hck] at hC
    obtain ⟨hn, harr, hok⟩ := checkG_none hck
    by_cases ha : outG G a
    · have hp : pathE G a b = fresh sGraph 1 3 := by unfold pathE; rw [hck]; dsimp only; rw [if_pos ha]
      replace hp := Lib.hid hp
      replace hck := Lib.hid hck
      replace h := Lib.hid h
      replace hg := Lib.hid hg
      replace hsz := Lib.hid hsz
      replace hok := Lib.hid hok
      rcases ha with ha | ha
      · go_enter Tryd.func103, Tryd.ntmps103
        go_wp2_with fail
        refine hC.mono ?_
        rintro e w1 ⟨y, rfl, b1, he⟩
        obtain rfl := he.none_eq
        clear he hC
        go_wp2_with fail
        refine (graph_wrong r _ _ _ (hg.out.below b1) (by decide) (by decide)).mono ?_
        rintro e w2 ⟨y, rfl, b2, he⟩
        replace he := Lib.hid he
        go_wp2
        go_ret2
        exact ⟨_, _, rfl, Below.step b1 b2, ⟨by rw [hp.out]; exact he.out, ⟨fun q => (by rw [hp.out] at q; cases q), fun _ => rfl⟩⟩⟩
      · have ha0 : ¬ a < 0 := by omega
        go_enter Tryd.func103, Tryd.ntmps103
        go_wp2_with fail
        refine hC.mono ?_
        rintro e w1 ⟨y, rfl, b1, he⟩
        obtain rfl := he.none_eq
        clear he hC
        go_wp2_with fail
        refine (graph_wrong r _ _ _ (hg.out.below b1) (by decide) (by decide)).mono ?_
        rintro e w2 ⟨y, rfl, b2, he⟩
        replace he := Lib.hid he
        go_wp2
        go_ret2
        exact ⟨_, _, rfl, Below.step b1 b2, ⟨by rw [hp.out]; exact he.out, ⟨fun q => (by rw [hp.out] at q; cases q), fun _ => rfl⟩⟩⟩
    · have ha1 : 0 ≤ a ∧ a < G.length := by unfold outG at ha; omega
      obtain ⟨ha1, ha2⟩ := ha1
      by_cases hb : outG G b
      · have hp : pathE G a b = fresh sGraph 2 3 := by unfold pathE; rw [hck]; dsimp only; rw [if_neg ha, if_pos hb]
        replace hp := Lib.hid hp
        replace hck := Lib.hid hck
        replace h := Lib.hid h
        replace hg := Lib.hid hg
        replace hsz := Lib.hid hsz
        replace hok := Lib.hid hok
        clear ha
        rcases hb with hb | hb
        · go_enter Tryd.func103, Tryd.ntmps103
          go_wp2_with fail
          refine hC.mono ?_
          rintro e w1 ⟨y, rfl, b1, he⟩
          obtain rfl := he.none_eq
          clear he hC
          go_wp2_with fail
          refine (graph_wrong r _ _ _ (hg.out.below b1) (by decide) (by decide)).mono ?_
          rintro e w2 ⟨y, rfl, b2, he⟩
          replace he := Lib.hid he
          go_wp2
          go_ret2
          exact ⟨_, _, rfl, Below.step b1 b2, ⟨by rw [hp.out]; exact he.out, ⟨fun q => (by rw [hp.out] at q; cases q), fun _ => rfl⟩⟩⟩
        · have hb0 : ¬ b < 0 := by omega
          go_enter Tryd.func103, Tryd.ntmps103
          go_wp2_with fail
          refine hC.mono ?_
          rintro e w1 ⟨y, rfl, b1, he⟩
          obtain rfl := he.none_eq
          clear he hC
          go_wp2_with fail
          refine (graph_wrong r _ _ _ (hg.out.below b1) (by decide) (by decide)).mono ?_
          rintro e w2 ⟨y, rfl, b2, he⟩
          replace he := Lib.hid he
          go_wp2
          go_ret2
          exact ⟨_, _, rfl, Below.step b1 b2, ⟨by rw [hp.out]; exact he.out, ⟨fun q => (by rw [hp.out] at q; cases q), fun _ => rfl⟩⟩⟩
      · have hb1 : 0 ≤ b ∧ b < G.length := by unfold outG at hb; omega
        obtain ⟨hb1, hb2⟩ := hb1
        have hp : pathE G a b = none := by unfold pathE; rw [hck]; dsimp only; rw [if_neg ha, if_neg hb]
        obtain ⟨x, rfl⟩ := Int.eq_ofNat_of_zero_le ha1
        obtain ⟨y, rfl⟩ := Int.eq_ofNat_of_zero_le hb1
        have hx : x < G.length := by omega
        have hy : y < G.length := by omega
        clear ha hb ha1 hb1 ha2 hb2
        replace hp := Lib.hid hp
        replace hck := Lib.hid hck
        replace h := Lib.hid h
        replace hg := Lib.hid hg
        replace hsz := Lib.hid hsz
        replace hok := Lib.hid hok
        go_enter Tryd.func103, Tryd.ntmps103
        go_wp2_with fail
        refine hC.mono ?_
        rintro e w1 ⟨y', rfl, b1, he⟩
        obtain rfl := he.none_eq
        clear he hC
        go_wp2_with fail
        refine (first_any na nc G x y _ (h.out.below b1) hok.out (by omega) hx hy hsz.out).mono ?_
        rintro e w2 ⟨z, rfl, b2, hz⟩
        obtain ⟨zp, zn, zc, rfl⟩ := hz.shape
        replace hz := Lib.hid hz
        go_wp2
        go_ret2
        exact ⟨_, _, rfl, Below.step b1 b2, ⟨by rw [hp.out]; rfl, ⟨fun _ => by rw [Int.toNat_natCast, Int.toNat_natCast]; exact hz.out.step b1.size, fun q => absurd hp.out q⟩⟩⟩
end Go.Proofs.YthnkdiejmclmkaaDoor

namespace Go.Proofs.YthnkdiejmclmkaaDoor
open Go.RowKit
set_option maxRecDepth 100000

/-- Arrows to v now lead to n. -/
def mapW (v n : Nat) (l : List Int) : List Int := l.map fun t => if t = (v : Int) then (n : Int) else t
theorem mapW_len (v n : Nat) (l : List Int) : (mapW v n l).length = l.length := by simp [mapW]
/-- The lists behind the first k. -/
def wideTo (G : List (List Int)) (v k : Nat) : Nat → List Int := fun u => if u < k then mapW v G.length (G.getD u []) else []
def wideG (G : List (List Int)) (v : Nat) : List (List Int) := rowsOf (G.length + 1) (wideTo G v G.length)
/-- Within a list: the first j. -/
def midW (v n : Nat) (l : List Int) (j : Nat) : List Int := mapW v n (l.take j) ++ l.drop j
theorem midW_zero (v n : Nat) (l : List Int) : midW v n l 0 = l := by simp [midW, mapW]
theorem midW_full (v n : Nat) (l : List Int) : midW v n l l.length = mapW v n l := by simp [midW]
theorem midW_len (v n : Nat) (l : List Int) (j : Nat) (hj : j ≤ l.length) : (midW v n l j).length = l.length := by simp [midW, mapW_len]; omega
theorem mapW_append (v n : Nat) (a b : List Int) : mapW v n (a ++ b) = mapW v n a ++ mapW v n b := by unfold mapW; exact List.map_append
theorem midW_next (v n : Nat) (l : List Int) (j : Nat) (hj : j < l.length) : midW v n l (j + 1) = mapW v n (l.take j) ++ (if l[j] = (v : Int) then (n : Int) else l[j]) :: l.drop (j + 1) := by
  unfold midW
  rw [take_snoc l j hj, mapW_append, List.append_assoc]
  rfl
theorem midW_now (v n : Nat) (l : List Int) (j : Nat) (hj : j < l.length) : midW v n l j = mapW v n (l.take j) ++ l[j] :: l.drop (j + 1) := by
  unfold midW
  rw [← List.drop_eq_getElem_cons hj]
theorem midW_step (v n : Nat) (l : List Int) (j : Nat) (hj : j < l.length) : midW v n l (j + 1) = (midW v n l j).set j (if l[j] = (v : Int) then (n : Int) else l[j]) := by
  have hl : (mapW v n (l.take j)).length = j := by rw [mapW_len, List.length_take]; omega
  rw [midW_next v n l j hj, midW_now v n l j hj, List.set_append_right _ _ (by omega), hl, Nat.sub_self, List.set_cons_zero]
theorem midW_same (v n : Nat) (l : List Int) (j : Nat) (hj : j < l.length) (he : l[j] ≠ (v : Int)) : midW v n l (j + 1) = midW v n l j := by
  rw [midW_next v n l j hj, midW_now v n l j hj, if_neg he]
theorem updN_updN {α : Type} (f : Nat → α) (k : Nat) (a b : α) : updN (updN f k a) k b = updN f k b := by
  funext x
  by_cases e : x = k
  · subst e; rw [updN_same, updN_same]
  · rw [updN_other _ _ _ e, updN_other _ _ _ e, updN_other _ _ _ e]
theorem wideTo_succ (G : List (List Int)) (v k : Nat) : updN (wideTo G v k) k (mapW v G.length (G.getD k [])) = wideTo G v (k + 1) := by
  funext u
  unfold wideTo
  by_cases e : u = k
  · subst e; rw [updN_same, if_pos (by omega)]
  · rw [updN_other _ _ _ e]
    by_cases q : u < k
    · rw [if_pos q, if_pos (by omega)]
    · rw [if_neg q, if_neg (by omega)]
theorem wideG_len (G : List (List Int)) (v : Nat) : (wideG G v).length = G.length + 1 := rowsOf_len _ _
theorem wideG_row (G : List (List Int)) (v u : Nat) (hu : u < G.length) : (wideG G v).getD u [] = mapW v G.length (G.getD u []) := by
  unfold wideG
  rw [rowsOf_get _ _ _ (by omega)]
  exact if_pos hu
theorem wideG_last (G : List (List Int)) (v : Nat) : (wideG G v).getD G.length [] = [] := by
  unfold wideG
  rw [rowsOf_get _ _ _ (by omega)]
  exact if_neg (by omega)
theorem wideG_ok {G : List (List Int)} (hok : GraphOk G) (v : Nat) : GraphOk (wideG G v) := by
  intro u hu t ht
  rw [wideG_len] at hu ⊢
  by_cases e : u < G.length
  · rw [wideG_row G v u e] at ht
    obtain ⟨x, hx, rfl⟩ := List.mem_map.1 ht
    have := hok u e x hx
    split <;> omega
  · obtain rfl : u = G.length := by omega
    rw [wideG_last] at ht; cases ht
theorem wide_adj {G : List (List Int)} (hok : GraphOk G) (v : Nat) {u : Nat} (hu : u < G.length) (t : Nat) : t ∈ adjOf (wideG G v) u ↔ (t ≠ v ∧ t ∈ adjOf G u ∧ t < G.length) ∨ (t = G.length ∧ v ∈ adjOf G u) := by
  unfold adjOf
  rw [wideG_row G v u hu]
  simp only [List.mem_map, mapW]
  constructor
  · rintro ⟨y, ⟨x, hx, rfl⟩, rfl⟩
    have := hok u hu x hx
    by_cases e : x = (v : Int)
    · rw [if_pos e]; exact .inr ⟨by simp, x, hx, by rw [e]; simp⟩
    · rw [if_neg e]; exact .inl ⟨by omega, ⟨x, hx, rfl⟩, by omega⟩
  · rintro (⟨h1, ⟨x, hx, rfl⟩, _⟩ | ⟨rfl, x, hx, he⟩)
    · have := hok u hu x hx
      exact ⟨x, ⟨x, hx, if_neg (by omega)⟩, rfl⟩
    · have := hok u hu x hx
      exact ⟨(G.length : Int), ⟨x, hx, if_pos (by omega)⟩, by simp⟩
theorem wide_end (G : List (List Int)) (v : Nat) : adjOf (wideG G v) G.length = [] := by unfold adjOf; rw [wideG_last]; rfl
/-- What Loop tells of its arguments. -/
def loopE (G : List (List Int)) (a : Int) : PErr :=
  match checkG G with
  | some t => some t
  | none => if outG G a then fresh sGraph 1 3 else none
theorem loopE_ok {G : List (List Int)} {x : Nat} (hc : checkG G = none) (hx : x < G.length) : loopE G x = none := by
  unfold loopE
  rw [hc]
  dsimp only
  rw [if_neg (by unfold outG; omega)]
def LoopWay (w : World) (G : List (List Int)) (v : Nat) (x : Value) (w' : World) : Prop :=
  (∃ u, IsFirst (adjOf (wideG G v)) v G.length u ∧ OwnI w.heap.size w' x (castI u.dropLast)) ∨ (¬ Goes (adjOf (wideG G v)) v G.length ∧ x = .slice none 0 0)
/-- What Loop leaves. -/
def LoopPost (r : Nat → Addr) (w : World) (G : List (List Int)) (a : Int) (x y : Value) (w' : World) : Prop :=
  ErrIs r w' (loopE G a) y ∧ (loopE G a = none → LoopWay w G a.toNat x w') ∧ (loopE G a ≠ none → x = .slice none 0 0)
/-- One's own slice, cut at its end. -/
theorem OwnI.cut {B : Nat} {w : World} {g m c : Nat} {xs : List Int} (h : OwnI B w (.slice (some ⟨g, 0, none⟩) (m + 1) c) xs) (hl : xs.length = m + 1) : OwnI B w (.slice (some ⟨g, 0, none⟩) m c) (xs.take m) := by
  rcases h.2 with ⟨e, _⟩ | ⟨g', cap', cur, e, hB, hg, hn, hm, hs, ht⟩
  · cases e
  · injection e with e1 e2 e3
    injection e1 with e1
    injection e1 with e1
    subst e1; subst e3
    have hml : (xs.take m).length = m := by simp; omega
    refine ⟨by simp, .inr ⟨g, c, cur, by rw [hml], hB, hg, by rw [hml]; omega, hm, hs, ?_⟩⟩
    rw [hml]
    rw [hl] at ht
    have := congrArg (List.take m) ht
    rw [List.take_take] at this
    simp only [Nat.mul_one] at this ⊢
    rw [Nat.min_eq_left (by omega)] at this
    rw [this, List.map_take]

set_option maxHeartbeats 1000000 in
theorem loopG_any (r : Nat → Addr) (na : Option Addr) (nc : Nat) (G : List (List Int)) (a : Int) (w : World) (hg : Glob r w) (h : ListsAt w (.slice na G.length nc) G) (hsz : ∀ k, k < G.length → (G.getD k []).length ≤ 17592186044416) :
    Calls Tryd.prog 102 #[.slice na G.length nc, .int .i64 a] w (Ret2 (LoopPost r w G a) w) := by
  have hC := graph_check r na nc G w hg h hsz
  cases hck : checkG G with
  | some t =>
    rw [hck] at hC
    have hp : loopE G a = some t := by unfold loopE; rw [hck]
    replace hp := Lib.hid hp
    replace hck := Lib.hid hck
    replace h := Lib.hid h
    replace hg := Lib.hid hg
    replace hsz := Lib.hid hsz
    go_enter Tryd.func102, Tryd.ntmps102
    go_wp2_with fail
    refine hC.mono ?_
    rintro e w1 ⟨y, rfl, b1, he⟩
    obtain ⟨T, p, rfl⟩ := he.some_shape
    replace he := Lib.hid he
    go_wp2
    go_ret2
    exact ⟨_, _, rfl, b1, ⟨by rw [hp.out]; exact he.out, ⟨fun q => (by rw [hp.out] at q; cases q), fun _ => rfl⟩⟩⟩
  | none =>
    rw [hck] at hC
    obtain ⟨hn, harr, hok⟩ := checkG_none hck
    by_cases ha : outG G a
    · have hp : loopE G a = fresh sGraph 1 3 := by unfold loopE; rw [hck]; dsimp only; rw [if_pos ha]
      replace hp := Lib.hid hp
      replace hck := Lib.hid hck
      replace h := Lib.hid h
      replace hg := Lib.hid hg
      replace hsz := Lib.hid hsz
      replace hok := Lib.hid hok
      rcases ha with ha | ha
      · go_enter Tryd.func102, Tryd.ntmps102
        go_wp2_with fail
        refine hC.mono ?_
        rintro e w1 ⟨y, rfl, b1, he⟩
        obtain rfl := he.none_eq
        clear he hC
        go_wp2_with fail
        refine (graph_wrong r _ _ _ (hg.out.below b1) (by decide) (by decide)).mono ?_
        rintro e w2 ⟨y, rfl, b2, he⟩
        replace he := Lib.hid he
        go_wp2
        go_ret2
        exact ⟨_, _, rfl, Below.step b1 b2, ⟨by rw [hp.out]; exact he.out, ⟨fun q => (by rw [hp.out] at q; cases q), fun _ => rfl⟩⟩⟩
      · have ha0 : ¬ a < 0 := by omega
        go_enter Tryd.func102, Tryd.ntmps102
        go_wp2_with fail
        refine hC.mono ?_
        rintro e w1 ⟨y, rfl, b1, he⟩
        obtain rfl := he.none_eq
        clear he hC
        go_wp2_with fail
        refine (graph_wrong r _ _ _ (hg.out.below b1) (by decide) (by decide)).mono ?_
        rintro e w2 ⟨y, rfl, b2, he⟩
        replace he := Lib.hid he
        go_wp2
        go_ret2
        exact ⟨_, _, rfl, Below.step b1 b2, ⟨by rw [hp.out]; exact he.out, ⟨fun q => (by rw [hp.out] at q; cases q), fun _ => rfl⟩⟩⟩
    · have ha1 : 0 ≤ a ∧ a < G.length := by unfold outG at ha; omega
      obtain ⟨ha1, ha2⟩ := ha1
      obtain ⟨v, rfl⟩ := Int.eq_ofNat_of_zero_le ha1
      have hv : v < G.length := by omega
      have hp : loopE G (v : Int) = none := loopE_ok hck hv
      have hd1 : decide ((v : Int) < 0) = false := by simp
      have hd2 : decide (G.length ≤ v) = false := by simp; omega
      clear ha ha1 ha2
      replace hp := Lib.hid hp
      replace hck := Lib.hid hck
      replace h := Lib.hid h
      replace hg := Lib.hid hg
      replace hsz := Lib.hid hsz
      replace hok := Lib.hid hok
      go_enter Tryd.func102, Tryd.ntmps102
      go_wp2_with fail
      refine hC.mono ?_
      rintro e w1 ⟨y', rfl, b1, he⟩
      obtain rfl := he.none_eq
      clear he hC
      obtain ⟨ov, w2, mk, ho, hb2⟩ := run_makeW oneLists ((G.length : Int) + 1) (G.length + 1) w1 (by omega) (by omega)
      obtain ⟨f1, hr1, h1⟩ := WN.made (G.length + 1) hb2 (Nat.le_refl _) ho
      have h1 : WN f1 ov (List.replicate (G.length + 1) (.slice none 0 0)) (G.length + 1) (wideTo G v 0) := by
        have : (fun _ : Nat => ([] : List Int)) = wideTo G v 0 := by funext u; unfold wideTo; rw [if_neg (by omega)]
        rw [← this]; exact h1
      obtain ⟨oa, on, oc, rfl⟩ := ho.shape
      replace ho := Lib.hid ho
      replace hr1 := Lib.hid hr1
      go_wp2_with fail
      clear mk
      go_loopw [35] (fun kv wr => ∃ (k : Nat) (f : Names) (vals : List Value), k ≤ G.length ∧ kv = .int .i64 k ∧ Rows w1.heap.size wr f ∧ Below w1.heap.size w1 wr ∧ WN f (.slice oa on oc) vals (G.length + 1) (wideTo G v k)) (fun kv _ => G.length - (intOf kv).toNat)
      case atStart => exact ⟨0, f1, _, by omega, rfl, hr1.out, hb2, h1⟩
      case round =>
        clear h1 ho hr1
        obtain ⟨k, f2, vals, hk, rfl, hr2, b2, h2⟩ := hrel
        obtain ⟨wo, rfl⟩ : ∃ wo : World, wo = wr := ⟨_, rfl⟩
        by_cases hlt : k < G.length
        · obtain ⟨mv, iR, cR0, hM0⟩ := h.out.row k hlt
          have hbw : Below w.heap.size w wo := b1.trans (b2.mono b1.size)
          have cR := (hbw.cell (World.block_lt_of_cell? _ _ cR0)).trans cR0
          have hM := hM0.below hbw
          have hglen := hsz.out k hlt
          have hsucc := wideTo_succ G v k
          generalize G.getD k [] = gk at *
          have hcl := clone_any mv gk wo hM hglen
          have hOV := (hr2.ownV h2.outer).at
          have iO := fun w' => hOV.idx oneLists k (by rw [h2.len]; omega) w'
          have hput := fun (w1' : World) (v' : Value) (xs : List Int) => h2.put (B := w1.heap.size) (w1 := w1') (u := k) (by omega) (v' := v') (xs := xs)
          have hnew := fun (w1' : World) (v' : Value) (xs : List Int) => h2.new (B := w1.heap.size) hr2 (w1 := w1') k (v' := v') (xs := xs)
          have hBo := b2.size
          generalize valAt (.slice na G.length nc) k = ra at *
          obtain ⟨ua, hua⟩ : ∃ ua, valAt (.slice oa on oc) k = ua := ⟨_, rfl⟩
          rw [hua] at iO
          simp only [hua] at hput
          replace hua := Lib.hid hua
          replace hput := Lib.hid hput
          replace hnew := Lib.hid hnew
          replace hOV := Lib.hid hOV
          replace hr2 := Lib.hid hr2
          replace hM := Lib.hid hM
          replace hM0 := Lib.hid hM0
          replace hcl := Lib.hid hcl
          replace hsucc := Lib.hid hsucc
          go_wp2_with fail
          clear cR cR0 iR hbw
          refine hcl.out.mono ?_
          rintro e w3 ⟨cv, rfl, b3, hcv⟩
          have hR3 := hnew.out w3 cv gk b3 hBo hcv
          obtain ⟨y1, y2, y3, f4, hr4, h4, _⟩ := hput.out w3 cv gk hR3
          obtain ⟨va, vn, vc, rfl⟩ := hcv.at.shape
          have b4 : Below w1.heap.size w1 (w3.setCell ua (.slice va vn vc)) := (b2.trans (b3.mono hBo)).setCell y3 _
          have h4 : WN f4 (.slice oa on oc) (vals.set k (.slice va vn vc)) (G.length + 1) (updN (wideTo G v k) k (midW v G.length gk 0)) := by rw [midW_zero]; exact h4
          have lM := (hM0.out.below (b1.trans (b4.mono b1.size))).len
          obtain ⟨W4, hW4⟩ : ∃ W4 : World, W4 = w3.setCell ua (.slice va vn vc) := ⟨_, rfl⟩
          rw [← hW4] at hr4 b4
          replace hr4 := Lib.hid hr4
          replace hR3 := Lib.hid hR3
          replace hcv := Lib.hid hcv
          clear hcl
          go_upto_region 12 with fail
          rw [← hW4]
          clear hW4 y1 y2 iO
          go_wp2_with fail
          clear lM
          generalize vals.set k (.slice va vn vc) = vals at *
          go_loopw [47] (fun jv wr => ∃ (j : Nat) (f : Names) (vals : List Value), j ≤ gk.length ∧ jv = .int .i64 j ∧ Rows w1.heap.size wr f ∧ Below w1.heap.size w1 wr ∧ WN f (.slice oa on oc) vals (G.length + 1) (updN (wideTo G v k) k (midW v G.length gk j))) (fun jv _ => gk.length - (intOf jv).toNat)
          case atStart => exact ⟨0, f4, _, by omega, rfl, hr4.out, b4, h4⟩
          case round =>
            clear hr4 h4 b4 hR3 hcv hM hr2 hnew hput hOV y3
            obtain ⟨j, f5, vals, hj, rfl, hr5, b5, h5⟩ := hrel
            obtain ⟨wo, rfl⟩ : ∃ wo : World, wo = wr := ⟨_, rfl⟩
            by_cases hjl : j < gk.length
            · have hMj := hM0.out.below (b1.trans (b5.mono b1.size))
              have iJ := fun w' => hMj.idx j hjl w'
              have cJ := hMj.cell j hjl
              generalize valAt mv j = ja at *
              have hstep := midW_step v G.length gk j hjl
              have hsame := midW_same v G.length gk j hjl
              obtain ⟨t, ht⟩ : ∃ t, gk[j] = t := ⟨_, rfl⟩
              rw [ht] at cJ hstep hsame
              replace hMj := Lib.hid hMj
              replace ht := Lib.hid ht
              by_cases htv : t = (v : Int)
              · have hq : (t == (v : Int)) = true := by simp [htv]
                rw [if_pos htv] at hstep
                have hOV := (hr5.ownV h5.outer).at
                have iO := fun w' => hOV.idx oneLists k (by rw [h5.len]; omega) w'
                have cO := hOV.cellV k (by rw [h5.len]; omega)
                have hrow := hr5.ownI (h5.rows k (by omega))
                rw [updN_same] at hrow
                have hml : (midW v G.length gk j).length = gk.length := midW_len _ _ _ _ hj
                have iE := fun w' => hrow.at.idx j (by rw [hml]; exact hjl) w'
                have cE := hrow.at.cellD j (by rw [hml]; exact hjl)
                have fE := hrow.frz j (by rw [hml]; exact hjl)
                have kE := (hrow.toV.blkB j (by rw [List.length_map, hml]; exact hjl)).2
                obtain ⟨f6, hr6, h6⟩ := h5.elem hr5 k (by omega) j (by rw [updN_same, hml]; exact hjl) (G.length : Int)
                rw [updN_same, ← hstep, updN_updN] at h6
                have b6 : Below w1.heap.size w1 (wo.setCell (valAt (vAt vals k) j) (.int .i64 (G.length : Int))) := b5.setCell kE _
                generalize valAt (vAt vals k) j = ea at *
                generalize vAt vals k = ev at *
                generalize valAt (.slice oa on oc) k = ua at *
                generalize (midW v G.length gk j).getD j 0 = eo at *
                subst htv
                replace hr6 := Lib.hid hr6
                replace hr5 := Lib.hid hr5
                replace hOV := Lib.hid hOV
                replace hrow := Lib.hid hrow
                replace hstep := Lib.hid hstep
                replace hsame := Lib.hid hsame
                replace hml := Lib.hid hml
                go_wp2
                go_roundw
                case measure => simp [intOf]; omega
                case rel => exact ⟨j + 1, f6, vals, by omega, by go_num, hr6.out, b6, h6⟩
              · have hq : (t == (v : Int)) = false := by simp [htv]
                have h6 := h5
                rw [← hsame htv] at h6
                replace hr5 := Lib.hid hr5
                replace hstep := Lib.hid hstep
                replace hsame := Lib.hid hsame
                go_wp2
                go_roundw
                case measure => simp [intOf]; omega
                case rel => exact ⟨j + 1, f5, vals, by omega, by go_num, hr5.out, b5, h6⟩
            · obtain rfl : j = gk.length := by omega
              rw [midW_full, hsucc.out] at h5
              replace hr5 := Lib.hid hr5
              go_wp2
              go_roundw
              case measure => simp [intOf]; omega
              case rel => exact ⟨k + 1, f5, vals, by omega, by go_num, hr5.out, b5, h5⟩
        · obtain rfl : k = G.length := by omega
          have hWL := h2.lists hr2
          have hWL : ListsAt wo (.slice oa on oc) (wideG G v) := hWL
          obtain ⟨oa', oc', he⟩ := hWL.shape
          injection he with he1 he2 he3
          clear he1 he3
          rw [he2] at hWL
          have hF := first_any oa oc (wideG G v) v G.length wo hWL (wideG_ok hok.out v) (by rw [wideG_len]; omega) (by rw [wideG_len]; omega) (by rw [wideG_len]; omega) (fun u hu => by
            rw [wideG_len] at hu
            by_cases e : u < G.length
            · rw [wideG_row G v u e, mapW_len]; exact hsz.out u e
            · obtain rfl : u = G.length := by omega
              rw [wideG_last]; exact Nat.zero_le _)
          rw [← he2] at hF
          replace hF := Lib.hid hF
          replace he2 := Lib.hid he2
          replace hWL := Lib.hid hWL
          replace hr2 := Lib.hid hr2
          go_wp2_with fail
          refine hF.out.mono ?_
          rintro e w5 ⟨xv, rfl, b5, hx⟩
          have hbw : Below w.heap.size w wo := b1.trans (b2.mono b1.size)
          rcases hx with ⟨u, hu, hxo⟩ | ⟨hno, rfl⟩
          · have hul := hu.way.pos
            obtain ⟨g, c, e1, e2⟩ := row_shape (show w5.ownsRow wo.heap.size 3 1 xv (castI u).length ((castI u).map (Value.int .i64)) from hxo) (by rw [castI_len]; exact hul)
            obtain ⟨m, hm⟩ : ∃ m, u.length = m + 1 := ⟨u.length - 1, by omega⟩
            rw [castI_len, hm] at e1 e2
            subst e1
            have hcut := hxo.cut (by rw [castI_len, hm])
            have hdl : (castI u).take m = castI u.dropLast := by
              unfold castI
              rw [List.dropLast_eq_take, hm, ← List.map_take]; rfl
            rw [hdl] at hcut
            have hmb : m ≤ 9223372036854775806 := by
              have := hxo.at.len_le
              rw [castI_len, hm] at this; omega
            have hwr : IntKind.i64.wrap (m : Int) = m := wrapK (by omega) (by omega)
            have hsl : (0 ≤ (m : Int) ∧ (m : Int) ≤ (c : Int)) := ⟨by omega, by omega⟩
            have hne : (((m : Int) + 1) == 0) = false := by rw [beq_eq_false_iff_ne]; omega
            replace hcut := Lib.hid hcut
            replace hxo := Lib.hid hxo
            replace hdl := Lib.hid hdl
            replace hm := Lib.hid hm
            go_wp2
            go_ret2
            exact ⟨_, _, rfl, Below.step hbw b5, ⟨by rw [hp.out]; rfl, ⟨fun _ => by rw [Int.toNat_natCast]; exact .inl ⟨u, hu, hcut.out.mono hbw.size⟩, fun q => absurd hp.out q⟩⟩⟩
          · replace hno := Lib.hid hno
            go_wp2
            go_ret2
            exact ⟨_, _, rfl, Below.step hbw b5, ⟨by rw [hp.out]; rfl, ⟨fun _ => by rw [Int.toNat_natCast]; exact .inr ⟨hno.out, rfl⟩, fun q => absurd hp.out q⟩⟩⟩
end Go.Proofs.YthnkdiejmclmkaaDoor

namespace Go.Proofs.YthnkdiejmclmkaaDoor
open Go.RowKit
set_option maxRecDepth 100000

def sixG : List (List Int) := [[1], [2], [1, 3], [4], [4], [0]]
theorem six_check : checkG sixG = none := by rfl
theorem six_ok : GraphOk sixG := (checkG_none six_check).2.2
theorem six_sz : ∀ k, k < sixG.length → (sixG.getD k []).length ≤ 17592186044416 := by
  intro k hk
  have : k < 6 := hk
  match k, this with
  | 0, _ => decide
  | 1, _ => decide
  | 2, _ => decide
  | 3, _ => decide
  | 4, _ => decide
  | 5, _ => decide
/-- A number for each vertex that no arrow lowers. -/
def rk6 (v : Nat) : Nat := [1, 2, 2, 3, 4, 0].getD v 9
theorem adj6 (v : Nat) : adjOf sixG v = [[1], [2], [1, 3], [4], [4], [0]].getD v [] := by
  match v with
  | 0 => rfl
  | 1 => rfl
  | 2 => rfl
  | 3 => rfl
  | 4 => rfl
  | 5 => rfl
  | n + 6 => rfl
theorem rk6_step {x t : Nat} (ht : t ∈ adjOf sixG x) : rk6 x ≤ rk6 t := by
  rw [adj6] at ht
  match x, ht with
  | 0, ht => simp at ht; subst ht; decide
  | 1, ht => simp at ht; subst ht; decide
  | 2, ht => simp at ht; rcases ht with rfl | rfl <;> decide
  | 3, ht => simp at ht; subst ht; decide
  | 4, ht => simp at ht; subst ht; decide
  | 5, ht => simp at ht; subst ht; decide
  | n + 6, ht => simp at ht
theorem rk6_goes {x y : Nat} (h : Goes (adjOf sixG) x y) : rk6 x ≤ rk6 y := by
  induction h with
  | refl => exact Nat.le_refl _
  | step _ hz ih => exact Nat.le_trans ih (rk6_step hz)
theorem g01 : Goes (adjOf sixG) 0 1 := .one (by rw [adj6]; decide)
theorem g12 : Goes (adjOf sixG) 1 2 := .one (by rw [adj6]; decide)
theorem g21 : Goes (adjOf sixG) 2 1 := .one (by rw [adj6]; decide)
theorem g23 : Goes (adjOf sixG) 2 3 := .one (by rw [adj6]; decide)
theorem g34 : Goes (adjOf sixG) 3 4 := .one (by rw [adj6]; decide)
theorem six_parts {ps : List Int} (h : PartsOf sixG.length (adjOf sixG) ps) : ps = [0, 1, 1, 2, 3, 4] := by
  obtain ⟨p, hp, rfl⟩ := h
  have ne : ∀ x y, x < 6 → y < 6 → rk6 x ≠ rk6 y → p x ≠ p y := fun x y hx hy hr he => by
    obtain ⟨a, b⟩ := (hp x y hx hy).1 he
    have := rk6_goes a
    have := rk6_goes b
    omega
  have e12 : p 2 = p 1 := (hp 2 1 (by decide) (by decide)).2 ⟨g21, g12⟩
  have h10 := ne 1 0 (by decide) (by decide) (by decide)
  have h30 := ne 3 0 (by decide) (by decide) (by decide)
  have h31 := ne 3 1 (by decide) (by decide) (by decide)
  have h40 := ne 4 0 (by decide) (by decide) (by decide)
  have h41 := ne 4 1 (by decide) (by decide) (by decide)
  have h43 := ne 4 3 (by decide) (by decide) (by decide)
  have h50 := ne 5 0 (by decide) (by decide) (by decide)
  have h51 := ne 5 1 (by decide) (by decide) (by decide)
  have h53 := ne 5 3 (by decide) (by decide) (by decide)
  have h54 := ne 5 4 (by decide) (by decide) (by decide)
  have o0 : numO p 0 = 0 := by simp [numO, numM, updM]
  have o1 : numO p 1 = 1 := by simp [numO, numM, updM, h10]
  have o2 : numO p 2 = 1 := by rw [(numO_eq p 2 1).2 e12]; exact o1
  have m2 : numM p 3 = numM p 2 := by
    show (if _ then _ else _) = _
    rw [if_pos]
    rw [e12]
    have := numM_own p 1
    rw [this]; rfl
  have m2s : (numM p 2).2 = 2 := by simp [numM, updM, h10]
  have m2n : ∀ q, q ≠ p 0 → q ≠ p 1 → (numM p 2).1 q = none := fun q h0 h1 => by simp [numM, updM, h10, h0, h1]
  have m3 : numM p 4 = (updM (numM p 2).1 (p 3) 2, 3) := by
    show (if ((numM p 3).1 (p 3)).isSome then _ else _) = _
    rw [m2, m2n _ h30 h31, m2s]; rfl
  have o3 : numO p 3 = 2 := by unfold numO; rw [m3]; simp [updM]
  have m4 : numM p 5 = (updM (updM (numM p 2).1 (p 3) 2) (p 4) 3, 4) := by
    have e : (updM (numM p 2).1 (p 3) 2) (p 4) = none := by unfold updM; rw [if_neg h43]; exact m2n _ h40 h41
    show (if ((numM p 4).1 (p 4)).isSome then _ else _) = _
    rw [if_neg (by rw [m3]; show ¬ ((updM (numM p 2).1 (p 3) 2) (p 4)).isSome = true; rw [e]; decide), m3]; rfl
  have o4 : numO p 4 = 3 := by unfold numO; rw [m4]; simp [updM]
  have m5 : numM p 6 = (updM (updM (updM (numM p 2).1 (p 3) 2) (p 4) 3) (p 5) 4, 5) := by
    have e : (updM (updM (numM p 2).1 (p 3) 2) (p 4) 3) (p 5) = none := by unfold updM; rw [if_neg h54, if_neg h53]; exact m2n _ h50 h51
    show (if ((numM p 5).1 (p 5)).isSome then _ else _) = _
    rw [if_neg (by rw [m4]; show ¬ ((updM (updM (numM p 2).1 (p 3) 2) (p 4) 3) (p 5)).isSome = true; rw [e]; decide), m4]; rfl
  have o5 : numO p 5 = 4 := by unfold numO; rw [m5]; simp [updM]
  show [numO p 0, numO p 1, numO p 2, numO p 3, numO p 4, numO p 5] = _
  rw [o0, o1, o2, o3, o4, o5]
theorem six_live {L : List Nat} (h : LiveList sixG.length (adjOf sixG) L) : L = [1, 2, 3, 4] := by
  refine h.unique ⟨by decide, fun v => ?_⟩
  have l1 : OnLoop (adjOf sixG) 1 := ⟨2, by rw [adj6]; decide, g21⟩
  have l4 : OnLoop (adjOf sixG) 4 := ⟨4, by rw [adj6]; decide, .refl 4⟩
  have onl : ∀ u, OnLoop (adjOf sixG) u → u < 6 → 2 ≤ rk6 u := fun u ⟨t, ht, hg⟩ hu => by
    rw [adj6] at ht
    match u, ht, hu with
    | 0, ht, _ => simp at ht; subst ht; have := rk6_goes hg; exact absurd this (by decide)
    | 1, _, _ => decide
    | 2, _, _ => decide
    | 3, _, _ => decide
    | 4, _, _ => decide
    | 5, ht, _ => simp at ht; subst ht; have := rk6_goes hg; exact absurd this (by decide)
    | n + 6, _, hu => omega
  constructor
  · intro hv
    simp at hv
    rcases hv with rfl | rfl | rfl | rfl
    · exact ⟨by decide, ⟨1, by decide, l1, .refl 1⟩, 4, by decide, l4, g12.trans (g23.trans g34)⟩
    · exact ⟨by decide, ⟨1, by decide, l1, g12⟩, 4, by decide, l4, g23.trans g34⟩
    · exact ⟨by decide, ⟨1, by decide, l1, g12.trans g23⟩, 4, by decide, l4, g34⟩
    · exact ⟨by decide, ⟨1, by decide, l1, g12.trans (g23.trans g34)⟩, 4, by decide, l4, .refl 4⟩
  · rintro ⟨hv, ⟨u, hu, h1, h2⟩, _⟩
    have a := onl u h1 hu
    have b := rk6_goes h2
    have hv : v < 6 := hv
    match v, hv, b with
    | 0, _, b => exact absurd (Nat.le_trans a b) (by decide)
    | 1, _, _ => decide
    | 2, _, _ => decide
    | 3, _, _ => decide
    | 4, _, _ => decide
    | 5, _, b => exact absurd (Nat.le_trans a b) (by decide)
    | n + 6, hv, _ => omega
/-- How many arrows to 4, at the least. -/
def ds6 (v : Nat) : Nat := [4, 3, 2, 1, 0, 5].getD v 9
theorem ds6_way {x y : Nat} {w : List Nat} (h : Way (adjOf sixG) x y w) : y = 4 → ds6 x + 1 ≤ w.length := by
  induction h with
  | one x => intro h; subst h; decide
  | @cons x t y w ht h ih =>
    intro hy
    have := ih hy
    have hx : ds6 x ≤ ds6 t + 1 := by
      rw [adj6] at ht
      match x, ht with
      | 0, ht => simp at ht; subst ht; decide
      | 1, ht => simp at ht; subst ht; decide
      | 2, ht => simp at ht; rcases ht with rfl | rfl <;> decide
      | 3, ht => simp at ht; subst ht; decide
      | 4, ht => simp at ht; subst ht; decide
      | 5, ht => simp at ht; subst ht; decide
      | n + 6, ht => simp at ht
    simp only [List.length_cons]; omega
theorem six_path {u : List Nat} (h : IsFirst (adjOf sixG) 0 4 u) : u = [0, 1, 2, 3, 4] := by
  have hw : Way (adjOf sixG) 0 4 [0, 1, 2, 3, 4] := .cons (by rw [adj6]; decide) (.cons (by rw [adj6]; decide) (.cons (by rw [adj6]; decide) (.cons (by rw [adj6]; decide) (.one 4))))
  have h5 := h.short _ hw
  have hu := h.way
  cases hu with
  | cons ht h1 =>
    rw [adj6] at ht; simp at ht; subst ht
    cases h1 with
    | cons ht h2 =>
      rw [adj6] at ht; simp at ht; subst ht
      cases h2 with
      | cons ht h3 =>
        rw [adj6] at ht; simp at ht
        rcases ht with rfl | rfl
        · have := ds6_way h3 rfl
          simp only [List.length_cons] at h5
          have e : ds6 1 = 3 := rfl
          simp at h5
          omega
        · cases h3 with
          | cons ht h4 =>
            rw [adj6] at ht; simp at ht; subst ht
            cases h4 with
            | one => rfl
            | cons ht h6 =>
              have := h6.pos
              simp only [List.length_cons, List.length_nil] at h5
              omega
theorem six_goes : Goes (adjOf sixG) 0 4 := g01.trans (g12.trans (g23.trans g34))

end Go.Proofs.YthnkdiejmclmkaaDoor

namespace Go.Proofs.YthnkdiejmclmkaaDoor
open Go.RowKit
set_option maxRecDepth 100000

theorem lit_ints (w : World) (xs : List Int) (cs : Array Value) (hc : cs.toList = xs.map (Value.int .i64)) (hl : xs.length ≤ 10) : IntsAt (w.alloc (.cells cs 3)) (.slice (some ⟨w.heap.size, 0, none⟩) xs.length xs.length) xs :=
  (OwnI.lit w.heap.size w (Nat.le_refl _) xs (by unfold maxLen; omega) cs hc xs.length rfl).at

/-- heavy: what it tells of lists that are not. -/
def HeavyPost (G : List (List Int)) (x : Value) : Prop := ∃ b : Bool, x = .bool b ∧ (b = false → G.length ≤ 300 ∧ arrowsTo G G.length ≤ 4000)
/-- vertex: what it tells where it says yes. -/
def VertexPost (G : List (List Int)) (a : Int) (x : Value) : Prop := ∃ b : Bool, x = .bool b ∧ (b = true → G.length ≤ 300 ∧ arrowsTo G G.length ≤ 4000 ∧ checkG G = none ∧ ∃ v : Nat, a = v ∧ v < G.length)
end Go.Proofs.YthnkdiejmclmkaaDoor

namespace Go.Proofs.YthnkdiejmclmkaaDoor
open Go.RowKit
set_option maxRecDepth 100000

def zT : List Int := List.replicate 8 0
theorem zT_ok : RuleOk 2 1 zT := ⟨by decide, by decide, by decide, by decide, fun x hx => by rw [List.eq_of_mem_replicate hx]; decide⟩
theorem zT_two : ∀ p, p < 16 → ∀ q, q < 16 → ∃ t ∈ pairL 2 4 zT p, q ∈ pairL 2 4 zT t := by decide +kernel
theorem zT_goes {p q : Nat} (hp : p < 16) (hq : q < 16) : Goes (adjOf (pairG 2 4 zT)) p q := by
  obtain ⟨t, ht, hqt⟩ := zT_two p hp q hq
  exact (pairG_goes (by decide) (.step (.one ht) hqt) hp).1
theorem zT_loop {p : Nat} (hp : p < 16) : OnLoop (adjOf (pairG 2 4 zT)) p := by
  obtain ⟨t, ht, hqt⟩ := zT_two p hp p hp
  refine ⟨t, by rw [pairG_adj (N := 4) hp]; exact ht, ?_⟩
  have htl : t < 16 := ((mem_pairL (N := 4) (by decide)).1 ht).lt (by decide)
  exact zT_goes htl hp
theorem zT_live {L : List Nat} (h : LiveList 16 (adjOf (pairG 2 4 zT)) L) : L = List.range 16 :=
  h.unique ⟨List.pairwise_lt_range, fun v => by
    rw [List.mem_range]
    exact ⟨fun q => ⟨q, ⟨v, q, zT_loop q, .refl _⟩, ⟨v, q, zT_loop q, .refl _⟩⟩, fun q => q.1⟩⟩
theorem zT_words : AllFit 2 4 zT [1, 6, 13] := by
  intro i hi
  have : i = 0 ∨ i = 1 := by simp at hi; omega
  rcases this with rfl | rfl <;> decide

theorem zT_wkR : wkR 1 = 1 := rfl
theorem zT_wkT : wkT 2 1 zT = zT := rfl
theorem zT_pw : pw 2 (2 * 1) = 4 := by decide
theorem zT_pwords (r : Nat → Addr) (ta : Option Addr) (tn tc : Nat) (u : Value) (w : World) (hg : Glob r w) (h : IntsAt w (.slice ta tn tc) zT) (hu : IntsAt w u [1, 6, 13]) :
    Calls Tryd.prog 23 #[.agg #[.int .i64 2, .int .i64 1, .slice ta tn tc], u] w (Ret3 (fun x y z w' => z = .nilIface ∧ IntsAt w' x [0, 0, 1, 1] ∧ IntsAt w' y [0, 1, 0, 1]) w) := by
  have hc := pwords_way r 2 1 ta tn tc zT u [1, 6, 13] w hg h zT_ok (by decide) hu (by simp)
  rw [zT_wkR, zT_pw] at hc
  refine (hc (by decide) (by decide)).mono ?_
  rintro e w' ⟨x, y, z, rfl, b, hp⟩
  refine ⟨x, y, z, rfl, b, ?_⟩
  unfold WordsPost at hp
  rw [zT_wkT, zT_pw] at hp
  rcases hp with ⟨_, h1, h2, h3, _⟩ | ⟨hno, _⟩
  · have exa : alongW 2 (2 * 1) (· / 4) [1, 6, 13] = [0, 0, 1, 1] := by decide
    have exb : alongW 2 (2 * 1) (· % 4) [1, 6, 13] = [0, 1, 0, 1] := by decide
    rw [exa] at h2
    rw [exb] at h3
    exact ⟨h1, h2.at, h3.at⟩
  · exact absurd zT_words hno
theorem zT_papart (r : Nat → Addr) (ta : Option Addr) (tn tc : Nat) (w : World) (hg : Glob r w) (h : IntsAt w (.slice ta tn tc) zT) :
    Calls Tryd.prog 21 #[.agg #[.int .i64 2, .int .i64 1, .slice ta tn tc]] w (Ret2 (fun x y w' => y = .nilIface ∧ IntsAt w' x [1, 2, 3, 4, 6, 7, 8, 9, 11, 12, 13, 14]) w) := by
  have hc := papart_ok r 2 1 ta tn tc zT w hg h zT_ok (by decide)
  rw [zT_wkR, zT_wkT, zT_pw] at hc
  refine hc.mono ?_
  rintro e w' ⟨x, y, rfl, b, h1, L, hL, ho⟩
  have hLe : L = List.range 16 := zT_live hL
  subst hLe
  refine ⟨x, y, rfl, b, h1, ?_⟩
  have hF : castI ((List.range 16).filter (fun p => !decide (Diag 4 p))) = [1, 2, 3, 4, 6, 7, 8, 9, 11, 12, 13, 14] := by decide
  rw [hF] at ho
  exact ho.at

set_option maxHeartbeats 400000 in
theorem awake13 (r : Nat → Addr) (w : World) (hg : Glob r w) : Calls Tryd.prog 19 #[] w (Ret1 (fun x _ => x = .bool true) w) := by
  obtain ⟨tv, w1, mk, ho, b1⟩ := run_makeI (8 : Int) 8 w rfl (by omega)
  have hT : IntsAt w1 tv zT := ho.at
  obtain ⟨ta, tn, tc, rfl⟩ := ho.at.shape
  have ba := belowAlloc w1 (.cells #[.int .i64 2, .int .i64 1, .slice ta tn tc] 24)
  have q : Box3 (w1.alloc (.cells #[.int .i64 2, .int .i64 1, .slice ta tn tc] 24)) w1.heap.size (.int .i64 2) (.int .i64 1) (.slice ta tn tc) := by simp [Box3, go_sem]
  have b02 := Below.step b1 ba
  have hT2 := hT.below ba
  obtain ⟨W2, hW2⟩ : ∃ W2 : World, W2 = w1.alloc (.cells #[.int .i64 2, .int .i64 1, .slice ta tn tc] 24) := ⟨_, rfl⟩
  rw [← hW2] at b02 hT2 q
  have bl := belowAlloc W2 (.cells #[.int .i64 1, .int .i64 6, .int .i64 13] 3)
  have hlit := lit_ints W2 [1, 6, 13] #[.int .i64 1, .int .i64 6, .int .i64 13] rfl (by decide)
  have b03 := Below.step b02 bl
  replace hg := Lib.hid hg
  replace ho := Lib.hid ho
  replace hT := Lib.hid hT
  replace hT2 := Lib.hid hT2
  replace q := Lib.hid q
  replace hlit := Lib.hid hlit
  go_enter Tryd.func19, Tryd.ntmps19
  go_upto_region 2 with fail
  rw [← hW2]
  replace hW2 := Lib.hid hW2
  obtain ⟨⟨y0, y1, y2⟩, -, -, -⟩ := q.out
  go_wp2_with fail
  clear y0 y1 y2
  refine (zT_pwords r ta tn tc _ _ (hg.out.below b03) (hT2.out.below bl) hlit.out).mono ?_
  rintro e w4 ⟨xa, xb, z, rfl, b4, rfl, hxa, hxb⟩
  have b24 := Below.step bl b4
  have b04 := Below.step b03 b4
  obtain ⟨⟨z0, z1, z2⟩, -, -, -⟩ := q.out.below b24
  replace hxa := Lib.hid hxa
  replace hxb := Lib.hid hxb
  clear mk
  go_wp2_with fail
  refine (zT_papart r ta tn tc w4 (hg.out.below b04) (hT2.out.below b24)).mono ?_
  rintro e w5 ⟨lv, y, rfl, b5, rfl, hlo⟩
  have ll := hlo.len
  have i4 : ∀ w', (Instr.indexAt 22 lv (.int .i64 4)).run Tryd.prog w' = .ok (.pointer (some (valAt lv 4))) w' := fun w' => hlo.idx 4 (by decide) w'
  have c4 := hlo.cellD 4 (by decide)
  rw [show ([1, 2, 3, 4, 6, 7, 8, 9, 11, 12, 13, 14] : List Int).getD 4 0 = 6 by decide] at c4
  rw [show ([1, 2, 3, 4, 6, 7, 8, 9, 11, 12, 13, 14] : List Int).length = 12 by decide] at ll
  clear z0 z1 z2
  generalize valAt lv 4 = la at *
  obtain ⟨l1, l2, l3, rfl⟩ := hlo.shape
  replace hlo := Lib.hid hlo
  have b05 := Below.step b04 b5
  have bl1 := belowAlloc w5 (.cells #[.int .i64 0, .int .i64 0, .int .i64 1, .int .i64 1] 3)
  have hlit1 := lit_ints w5 [0, 0, 1, 1] #[.int .i64 0, .int .i64 0, .int .i64 1, .int .i64 1] rfl (by decide)
  replace hlit1 := Lib.hid hlit1
  go_wp2_with fail
  refine (ints_any xa _ _ _ _ ((hxa.out.below b5).below bl1) hlit1.out).mono ?_
  rintro e w7 h7
  obtain ⟨rfl, b7⟩ := h7.below
  clear h7
  rw [show decide (([0, 0, 1, 1] : List Int) = [0, 0, 1, 1]) = true by decide]
  have b57 := Below.step bl1 b7
  have bl2 := belowAlloc w7 (.cells #[.int .i64 0, .int .i64 1, .int .i64 0, .int .i64 1] 3)
  have hlit2 := lit_ints w7 [0, 1, 0, 1] #[.int .i64 0, .int .i64 1, .int .i64 0, .int .i64 1] rfl (by decide)
  replace hlit2 := Lib.hid hlit2
  go_wp2_with fail
  refine (ints_any xb _ _ _ _ ((hxb.out.below (Below.step b5 b57)).below bl2) hlit2.out).mono ?_
  rintro e w8 h8
  obtain ⟨rfl, b8⟩ := h8.below
  clear h8
  rw [show decide (([0, 1, 0, 1] : List Int) = [0, 1, 0, 1]) = true by decide]
  have b58 := Below.step b57 (Below.step bl2 b8)
  have c8 := (b58.cell (World.block_lt_of_cell? _ _ c4)).trans c4
  go_wp2
  go_ret
  exact ⟨_, rfl, Below.step b05 b58, rfl⟩
end Go.Proofs.YthnkdiejmclmkaaDoor

namespace Go.Proofs.YthnkdiejmclmkaaDoor

/-- The nodes told behind i symbols. -/
def pathN (K m : Nat) (x : List Int) (i : Nat) : List Nat := (List.range (i + 1 - m)).map (nodeAt K m x)
theorem pathN_zero {K m : Nat} {x : List Int} (hm : 1 ≤ m) : pathN K m x 0 = [] := by unfold pathN; rw [show 0 + 1 - m = 0 by omega]; rfl
theorem pathN_len (K m : Nat) (x : List Int) (i : Nat) : (pathN K m x i).length = i + 1 - m := by simp [pathN]
theorem take_next {x : List Int} {j : Nat} (h : j < x.length) : x.take (j + 1) = x.take j ++ [x.getD j 0] := by
  rw [List.take_add_one]; simp [List.getD, h]
theorem pathN_next {K m : Nat} {x : List Int} {j : Nat} (hx : Syms K x) (h : j < x.length) (hm : m ≤ j + 1) : pathN K m x (j + 1) = pathN K m x j ++ [numW K (x.take (j + 1)) % pw K m] := by
  unfold pathN
  rw [show j + 1 + 1 - m = (j + 1 - m) + 1 by omega, List.range_succ, List.map_append, List.map_cons, List.map_nil]
  congr 2
  have e : x.take (j + 1) = x.take (j + 1 - m) ++ (x.drop (j + 1 - m)).take m := by
    conv => lhs; rw [show j + 1 = (j + 1 - m) + m by omega]
    rw [List.take_add]
  have hl : ((x.drop (j + 1 - m)).take m).length = m := by simp; omega
  have hs : Syms K ((x.drop (j + 1 - m)).take m) := syms_take (syms_drop hx _) _
  have := numW_mod (K := K) (u := x.take (j + 1 - m)) hs
  rw [hl, ← e] at this
  exact this.symm
theorem pathN_skip {K m : Nat} {x : List Int} {j : Nat} (hm : ¬ m ≤ j + 1) : pathN K m x (j + 1) = pathN K m x j := by
  unfold pathN
  rw [show j + 1 + 1 - m = 0 by omega, show j + 1 - m = 0 by omega]
theorem node_step {K : Nat} {x : List Int} {j : Nat} (N : Nat) (h : j < x.length) : numW K (x.take (j + 1)) % N = (numW K (x.take j) % N * K + (x.getD j 0).toNat) % N := by
  rw [take_next h, numW_step]
theorem at_step {K N a s : Nat} (hN : 0 < N) (hs : s < K) : (a * K + s) % (N * K) = a % N * K + s := by
  have e : a * K + s = (a % N * K + s) + N * K * (a / N) := by
    have h1 := Nat.mod_add_div a N
    have h2 : a * K = (a % N + N * (a / N)) * K := by rw [h1]
    rw [Nat.add_mul] at h2
    have h3 : N * K * (a / N) = N * (a / N) * K := by rw [Nat.mul_assoc, Nat.mul_comm K, ← Nat.mul_assoc]
    omega
  rw [e, Nat.add_mul_mod_self_left]
  apply Nat.mod_eq_of_lt
  have h1 : a % N + 1 ≤ N := Nat.mod_lt _ hN
  have h2 : (a % N + 1) * K ≤ N * K := Nat.mul_le_mul_right _ h1
  rw [Nat.add_mul, Nat.one_mul] at h2
  omega
theorem img_next {K R : Nat} {T x : List Int} {j : Nat} (hK : 1 ≤ K) (hT : T.length = pw K (2 * R + 1)) (hx : Syms K x) (h : j < x.length) (hR : 2 * R ≤ j) :
    imgP K R T (x.take (j + 1)) = imgP K R T (x.take j) ++ [T.getD (numW K (x.take j) % pw K (2 * R) * K + (x.getD j 0).toNat) 0] := by
  have hs : Syms K (x.take j ++ [x.getD j 0]) := by rw [← take_next h]; exact syms_take hx _
  rw [take_next h, imgP_snoc hT hs, if_pos (by rw [List.length_take]; omega), numW_snoc, hT, pw_succ, at_step (pw_pos (K := K) (2 * R) hK) (syms_at hx h).2.2]
theorem img_skip {K R : Nat} {T x : List Int} {j : Nat} (hT : T.length = pw K (2 * R + 1)) (hx : Syms K x) (h : j < x.length) (hR : ¬ 2 * R ≤ j) :
    imgP K R T (x.take (j + 1)) = imgP K R T (x.take j) := by
  have hs : Syms K (x.take j ++ [x.getD j 0]) := by rw [← take_next h]; exact syms_take hx _
  rw [take_next h, imgP_snoc hT hs, if_neg (by rw [List.length_take]; omega)]
end Go.Proofs.YthnkdiejmclmkaaDoor

namespace Go.Proofs.YthnkdiejmclmkaaDoor
open Go.RowKit
set_option maxRecDepth 100000

theorem overP_none {K R : Nat} {T x : List Int} (hr : RuleOk K R T) (hl : T.length ≤ 256) (hx : Syms K x) (hxl : x.length ≤ 4096) : overP K R T x 4096 = none := by
  unfold overP
  rw [smallP_small hr hl]
  simp only
  rw [if_neg (by omega), if_pos hx.odd]

set_option maxHeartbeats 2000000 in
theorem over_path (r : Nat → Addr) (K R : Nat) (va : Option Addr) (vn vc : Nat) (T : List Int) (u : Value) (x : List Int) (w : World) (hg : Glob r w) (h : IntsAt w (.slice va vn vc) T) (hu : IntsAt w u x) (hr : RuleOk K R T) (hl : T.length ≤ 256) (hR : 1 ≤ R) (hx : Syms K x) (hxl : x.length ≤ 4096) :
    Calls Tryd.prog 66 #[.agg #[.int .i64 K, .int .i64 R, .slice va vn vc], u] w (Ret3 (fun a b e w' => e = .nilIface ∧ OwnI w.heap.size w' a (castI (pathN K (2 * R) x x.length)) ∧ OwnI w.heap.size w' b (imgP K R T x) ∧ (a.ownBlock = none ∨ a.ownBlock ≠ b.ownBlock)) w) := by
  have b0 := belowAlloc w (.cells #[.int .i64 K, .int .i64 R, .slice va vn vc] 24)
  have q : Box3 (w.alloc (.cells #[.int .i64 K, .int .i64 R, .slice va vn vc] 24)) w.heap.size (.int .i64 K) (.int .i64 R) (.slice va vn vc) := by simp [Box3, go_sem]
  have hk1 := hr.k1
  have hk4 := hr.k4
  have hR3 := hr.r3
  have hN81 := nodes_le hr hR hl
  have hN1 := pw_pos (K := K) (2 * R) hk1
  obtain ⟨hdiv, hlenT⟩ := hr.half
  have hTl := hr.len
  have hc := overP_none hr hl hx hxl
  have lx := hu.len
  obtain ⟨ua, un, uc, rfl⟩ := hu.shape
  have hp0 := pathN_zero (K := K) (x := x) (m := 2 * R) (by omega)
  have hpn := fun (j : Nat) (hj : j < x.length) (hm : 2 * R ≤ j + 1) => pathN_next (K := K) (m := 2 * R) (j := j) hx hj hm
  have hps := fun (j : Nat) (hm : ¬ 2 * R ≤ j + 1) => pathN_skip (K := K) (m := 2 * R) (x := x) (j := j) hm
  have hin := fun (j : Nat) (hj : j < x.length) (hm : 2 * R ≤ j) => img_next (K := K) (R := R) (T := T) (j := j) hk1 hTl hx hj hm
  have his := fun (j : Nat) (hj : j < x.length) (hm : ¬ 2 * R ≤ j) => img_skip (K := K) (R := R) (T := T) (j := j) hTl hx hj hm
  have hns := fun (j : Nat) (hj : j < x.length) => node_step (K := K) (x := x) (j := j) (pw K (2 * R)) hj
  have hsy := fun (j : Nat) (hj : j < x.length) => syms_at hx hj
  have hpl := fun (j : Nat) => pathN_len K (2 * R) x j
  obtain ⟨m, hm⟩ : ∃ m, 2 * R = m := ⟨_, rfl⟩
  have hm2 : 2 * (R : Int) = (m : Int) := by omega
  rw [hm] at hN81 hN1 hdiv hlenT hp0 hpn hps hin his hns hpl ⊢
  obtain ⟨N, hN⟩ : ∃ N, pw K m = N := ⟨_, rfl⟩
  rw [hN] at hN81 hN1 hdiv hlenT hpn hin hns
  replace hg := Lib.hid (hg.below b0)
  replace h := Lib.hid (h.below b0)
  replace hu := Lib.hid (hu.below b0)
  replace hr := Lib.hid hr
  replace hc := Lib.hid hc
  replace hdiv := Lib.hid hdiv
  replace hlenT := Lib.hid hlenT
  replace hp0 := Lib.hid hp0
  replace hpn := Lib.hid hpn
  replace hps := Lib.hid hps
  replace hin := Lib.hid hin
  replace his := Lib.hid his
  replace hns := Lib.hid hns
  replace hsy := Lib.hid hsy
  replace hpl := Lib.hid hpl
  replace hN := Lib.hid hN
  replace hTl := Lib.hid hTl
  replace hx := Lib.hid hx
  have hmm := Lib.hid hm
  clear hm
  go_enter Tryd.func66, Tryd.ntmps66
  go_wp2_with fail
  refine (over_check r K R va vn vc T (.slice ua un uc) x 4096 _ hg.out h.out hu.out).mono ?_
  rintro e w1 ⟨y, rfl, b1, he⟩
  rw [hc.out] at he
  obtain rfl := he.none_eq
  clear he
  obtain ⟨⟨z0, z1, z2⟩, -, -, -⟩ := q.below b1
  have b01 := Below.step b0 b1
  have hs1 := b01.size
  have r1 := (Rows.void w1.heap.size w1).add (i := (1, 0)) (r' := rowI (.slice none 0 0) []) (Below.refl _ _) (OwnI.nil _ _) (fun k hk => by cases hk)
  have r2 := r1.add (i := (2, 0)) (r' := rowI (.slice none 0 0) []) (Below.refl _ _) (OwnI.nil _ _) (fun k hk => by cases hk)
  obtain ⟨f, hf⟩ : ∃ f, f = upd (upd (fun _ => none) (1, 0) (some (rowI (.slice none 0 0) []))) (2, 0) (some (rowI (.slice none 0 0) [])) := ⟨_, rfl⟩
  have hfa : f (1, 0) = some (rowI (.slice none 0 0) (castI (pathN K m x 0))) := by rw [hf, upd_ne _ _ (by simp), upd_same, hp0.out]; rfl
  have hfb : f (2, 0) = some (rowI (.slice none 0 0) (imgP K R T (x.take 0))) := by
    rw [hf, upd_same]
    simp [imgP]
  rw [← hf] at r2
  clear hf r1
  have hR1 : ¬ (R : Int) = 0 := by omega
  have hR2 : ((m : Int) == 0) = false := by rw [beq_eq_false_iff_ne]; omega
  have hR4 : ¬ (m : Int) = 0 := by omega
  have hwm : IntKind.i64.wrap (m : Int) = m := wrapK (by omega) (by omega)
  replace r2 := Lib.hid r2
  replace hfa := Lib.hid hfa
  replace hfb := Lib.hid hfb
  go_wp2_with fail
  go_loopw [8, 9, 10, 29] (fun ta la nv jv wr => ∃ (j nd : Nat) (f : Names) (ta' la' : Value), j ≤ x.length ∧ jv = .int .i64 j ∧ ta' = ta ∧ la' = la ∧ numW K (x.take j) % N = nd ∧ nv = .int .i64 nd ∧ Rows w1.heap.size wr f ∧ Below w1.heap.size w1 wr ∧ f (1, 0) = some (rowI ta' (castI (pathN K m x j))) ∧ f (2, 0) = some (rowI la' (imgP K R T (x.take j)))) (fun _ _ _ jv _ => x.length - (intOf jv).toNat)
  case atStart => exact ⟨0, 0, f, _, _, by omega, rfl, rfl, rfl, by simp [numW], rfl, r2.out, Below.refl _ _, hfa.out, hfb.out⟩
  case round =>
    clear r2 hfa hfb
    obtain ⟨j, nd, f2, tv, lv, hj, rfl, rfl, rfl, hnd, rfl, hr2, bI, hfa, hfb⟩ := hrel
    obtain ⟨wo, rfl⟩ : ∃ wo : World, wo = wr := ⟨_, rfl⟩
    by_cases hjl : j < x.length
    · obtain ⟨h0, h1, h2⟩ := hsy.out j hjl
      obtain ⟨s, hs⟩ : ∃ s : Nat, x.getD j 0 = (s : Int) := ⟨(x.getD j 0).toNat, by omega⟩
      have hst : (x.getD j 0).toNat = s := by omega
      rw [hst] at h2
      have iX := fun w' => hu.out.idx j hjl w'
      have cX := hu.out.cellD j hjl
      rw [hs] at cX
      have b1I := Below.step b1 bI
      have cXo := (b1I.cell (World.block_lt_of_cell? _ _ cX)).trans cX
      have hndN : nd < N := by rw [← hnd]; exact Nat.mod_lt _ (by omega)
      obtain ⟨nk, hnk⟩ : ∃ z, nd * K = z := ⟨_, rfl⟩
      have hnk2 : (nd : Int) * (K : Int) = (nk : Int) := by rw [← hnk]; simp
      have hnkl : nk ≤ 324 := by rw [← hnk]; exact Nat.le_trans (Nat.mul_le_mul (show nd ≤ 81 by omega) hk4) (by decide)
      obtain ⟨at_, hat⟩ : ∃ z, nk + s = z := ⟨_, rfl⟩
      have hat2 : (nk : Int) + (s : Int) = (at_ : Int) := by omega
      have hatT : at_ < T.length := by
        rw [hlenT.out]
        have h3 : (nd + 1) * K ≤ N * K := Nat.mul_le_mul_right _ hndN
        rw [Nat.add_mul, Nat.one_mul] at h3
        omega
      have hwk : IntKind.i64.wrap (nk : Int) = nk := wrapK (by omega) (by omega)
      have hwa : IntKind.i64.wrap (at_ : Int) = at_ := wrapK (by omega) (by omega)
      have hnd2 := hns.out j hjl
      rw [hnd, hst, hnk, hat] at hnd2
      obtain ⟨d1, d2, d3, d4, d5, d6⟩ := dm at_ N (by omega)
      obtain ⟨nn, hnn⟩ : ∃ z, at_ % N = z := ⟨_, rfl⟩
      rw [hnn] at d2 d4 d6 hnd2
      have hTo := (h.out.below b1I)
      have hnodes := over_nodes K R va vn vc T wo hTo hk1 (by omega)
      rw [hdiv.out] at hnodes
      obtain ⟨⟨y0, y1, y2⟩, -, -, -⟩ := q.below b1I
      have hoa := hr2.ownI hfa
      have hob := hr2.ownI hfb
      have hjl2 := Lib.hid hjl
      have bn := belowAlloc wo (.cells #[.int .i64 K, .int .i64 R, .slice va vn vc] 24)
      have iT := fun w' => hTo.idx at_ hatT w'
      have cT := h.out.cellD at_ hatT
      generalize valAt (.slice ua un uc) j = xa at *
      generalize valAt (.slice va vn vc) at_ = taa at *
      obtain ⟨tz, htz⟩ : ∃ z, T.getD at_ 0 = z := ⟨_, rfl⟩
      rw [htz] at cT
      replace hnodes := Lib.hid hnodes
      replace hs := Lib.hid hs
      replace hst := Lib.hid hst
      replace hnk := Lib.hid hnk
      replace hat := Lib.hid hat
      replace hnn := Lib.hid hnn
      replace hnd := Lib.hid hnd
      replace hnd2 := Lib.hid hnd2
      replace htz := Lib.hid htz
      replace hoa := Lib.hid hoa
      replace hob := Lib.hid hob
      replace hr2 := Lib.hid hr2
      replace hfa := Lib.hid hfa
      replace hfb := Lib.hid hfb
      replace hTo := Lib.hid hTo
      replace cX := Lib.hid cX
      replace h2 := Lib.hid h2
      clear h0 h1
      go_wp2_with fail
      refine hnodes.out.mono ?_
      rintro e w4 ⟨rfl, hw4⟩
      have bo4 : Below wo.heap.size wo w4 := by rw [hw4]; exact bn
      have b14 := Below.step b1I bo4
      have bI4 := bI.trans (bo4.mono bI.size)
      clear hw4 hnodes y0 y1 y2 cXo
      obtain ⟨⟨y0, y1, y2⟩, -, -, -⟩ := q.below b14
      have hr4 := hr2.out.below bo4
      have hB4 := bI4.size
      have hpl2 := hpl.out j
      by_cases hmj : m ≤ j + 1
      · have hd1 : decide ((m : Int) ≤ (j : Int) + 1) = true := decide_eq_true (by omega)
        have hoa4 := hr4.ownI hfa.out
        have hpe := hpn.out j hjl2.out hmj
        rw [hnd2.out] at hpe
        have hmj2 := Lib.hid hmj
        replace hr4 := Lib.hid hr4
        replace hpe := Lib.hid hpe
        go_wp2_with (at_builtin; go_loud (refine wpl_append1 rfl _ _ rfl w1.heap.size tv _ (nn : Int) hoa4 rfl rfl (by rw [castI_len]; omega) hB4 ?_))
        intro tv' w5 ho5 b5 hg5 hal5
        have hr5 := hr4.out.push hfa.out (nn : Int) ho5 hg5 hal5
        have hca : castI (pathN K m x j) ++ [(nn : Int)] = castI (pathN K m x (j + 1)) := by rw [hpe.out]; simp [castI]
        rw [hca] at hr5 ho5
        obtain ⟨f5, hf5⟩ : ∃ f5, f5 = upd f2 (1, 0) (some (rowI tv' (castI (pathN K m x (j + 1))))) := ⟨_, rfl⟩
        rw [← hf5] at hr5
        have hfa5 : f5 (1, 0) = some (rowI tv' (castI (pathN K m x (j + 1)))) := by rw [hf5, upd_same]
        have hfb5 : f5 (2, 0) = some (rowI lv (imgP K R T (x.take j))) := by rw [hf5, upd_ne _ _ (by simp)]; exact hfb.out
        have b15 : Below w1.heap.size w1 w5 := bI4.trans b5
        have b16 := Below.step b1 b15
        clear y0 y1 y2 hf5 hca hg5 hal5 hoa4
        obtain ⟨⟨y0, y1, y2⟩, -, -, -⟩ := q.below b16
        have cT5 := (b16.cell (World.block_lt_of_cell? _ _ cT)).trans cT
        have hB5 := b15.size
        obtain ⟨t1, t2, t3, rfl⟩ := ho5.at.shape
        replace hfa5 := Lib.hid hfa5
        replace hfb5 := Lib.hid hfb5
        replace ho5 := Lib.hid ho5
        by_cases hmj3 : m ≤ j
        · have hd2 : decide ((m : Int) ≤ (j : Int)) = true := decide_eq_true (by omega)
          have hob5 := hr5.ownI hfb5.out
          have hie := hin.out j hjl2.out hmj3
          rw [hnd.out, hst.out, hnk.out, hat.out, htz.out] at hie
          replace hie := Lib.hid hie
          replace hr5 := Lib.hid hr5
          have hil : (imgP K R T (x.take j)).length ≤ 4096 := by rw [imgP_length, List.length_take]; omega
          go_wp2_with (at_builtin; go_loud (refine wpl_append1 rfl _ _ rfl w1.heap.size lv _ tz hob5 rfl rfl (by omega) hB5 ?_))
          intro lv' w7 ho7 b7 hg7 hal7
          have hr7 := hr5.out.push hfb5.out tz ho7 hg7 hal7
          rw [← hie.out] at hr7 ho7
          obtain ⟨f7, hf7⟩ : ∃ f7, f7 = upd f5 (2, 0) (some (rowI lv' (imgP K R T (x.take (j + 1))))) := ⟨_, rfl⟩
          rw [← hf7] at hr7
          have hfb7 : f7 (2, 0) = some (rowI lv' (imgP K R T (x.take (j + 1)))) := by rw [hf7, upd_same]
          have hfa7 : f7 (1, 0) = some (rowI (.slice t1 t2 t3) (castI (pathN K m x (j + 1)))) := by rw [hf7, upd_ne _ _ (by simp)]; exact hfa5.out
          have b17 : Below w1.heap.size w1 w7 := b15.trans b7
          obtain ⟨l1, l2, l3, rfl⟩ := ho7.at.shape
          replace hfa7 := Lib.hid hfa7
          replace hfb7 := Lib.hid hfb7
          replace hr7 := Lib.hid hr7
          replace ho7 := Lib.hid ho7
          clear hf7 hg7 hal7 hob5
          go_wp2
          go_roundw
          case measure => have := hjl2.out; simp [intOf]; omega
          case rel => exact ⟨j + 1, nn, f7, _, _, by have := hjl2.out; omega, by go_num, rfl, rfl, hnd2.out, rfl, hr7.out, b17, hfa7.out, hfb7.out⟩
        · have hd2 : decide ((m : Int) ≤ (j : Int)) = false := decide_eq_false (by omega)
          have hie := his.out j hjl2.out hmj3
          rw [← hie] at hfb5
          replace hr5 := Lib.hid hr5
          go_wp2
          go_roundw
          case measure => have := hjl2.out; simp [intOf]; omega
          case rel => exact ⟨j + 1, nn, f5, _, _, by have := hjl2.out; omega, by go_num, rfl, rfl, hnd2.out, rfl, hr5.out, b15, hfa5.out, hfb5.out⟩
      · have hd1 : decide ((m : Int) ≤ (j : Int) + 1) = false := decide_eq_false (by omega)
        have hd2 : decide ((m : Int) ≤ (j : Int)) = false := decide_eq_false (by omega)
        have hpe := hps.out j hmj
        have hie := his.out j hjl2.out (by omega)
        have hfa5 := hfa.out
        have hfb5 := hfb.out
        rw [← hpe] at hfa5
        rw [← hie] at hfb5
        replace hfa5 := Lib.hid hfa5
        replace hfb5 := Lib.hid hfb5
        replace hr4 := Lib.hid hr4
        go_wp2
        go_roundw
        case measure => have := hjl2.out; simp [intOf]; omega
        case rel => exact ⟨j + 1, nn, f2, _, _, by have := hjl2.out; omega, by go_num, rfl, rfl, hnd2.out, rfl, hr4.out, bI4, hfa5.out, hfb5.out⟩
    · obtain rfl : j = x.length := by omega
      rw [List.take_length] at hfb
      have hoa := hr2.ownI hfa
      have hob := hr2.ownI hfb
      have hd := hr2.2 (1, 0) (2, 0) _ _ hfa hfb (by simp)
      replace hoa := Lib.hid hoa
      replace hob := Lib.hid hob
      replace hd := Lib.hid hd
      obtain ⟨t1, t2, t3, rfl⟩ := hoa.out.at.shape
      obtain ⟨l1, l2, l3, rfl⟩ := hob.out.at.shape
      have bE := Lib.hid (b01.trans (bI.mono hs1))
      go_wp2
      go_ret3
      exact ⟨_, _, _, rfl, bE.out, rfl, hoa.out.mono hs1, hob.out.mono hs1, hd.out⟩
end Go.Proofs.YthnkdiejmclmkaaDoor

namespace Go.Proofs.YthnkdiejmclmkaaDoor
open Go.RowKit
set_option maxRecDepth 100000

theorem look1_any (x k : Int) (b : Nat) (w : World) (hb : w.cell? ⟨b, 0, none⟩ = some (.int .i64 k)) :
    Calls Tryd.prog 94 #[.int .i64 x, .pointer (some ⟨b, 0, none⟩)] w fun e w' => e = .returned (.bool (odd1 k x)) ∧ w = w' := by
  by_cases h : x < 0
  · have e : odd1 k x = true := by simp [odd1, h]
    rw [e]
    go_enter Tryd.func94, Tryd.ntmps94
    go_wp2
    go_ret
    exact ⟨rfl, rfl⟩
  · have e : odd1 k x = decide (k ≤ x) := by simp [odd1, h]
    rw [e]
    go_enter Tryd.func94, Tryd.ntmps94
    go_wp2
    go_ret
    exact ⟨ret_bool (by simp), rfl⟩
theorem eg_look1 (args : Array Value) (w : World) : (callFunc 94 args).run Tryd.prog w = .ok (.enter 94 args) w := by kernel_rfl

/-- pairs.look's answer. -/
def lookP (k : Int) (ws : List Int) (which from_ : Int) : PErr :=
  if 4096 < ws.length then fresh sPairs which 4 else if idxOf (odd1 k) ws = -1 then none else fresh sPairs (from_ + idxOf (odd1 k) ws) 2
theorem lookP_none {k : Int} {ws : List Int} {which from_ : Int} (h : lookP k ws which from_ = none) : ws.length ≤ 4096 ∧ Syms k ws := by
  unfold lookP at h
  by_cases hl : 4096 < ws.length
  · rw [if_pos hl] at h; cases h
  · rw [if_neg hl] at h
    refine ⟨by omega, ?_⟩
    rcases syms_or k ws with hs | ⟨i, hi, _⟩
    · exact hs
    · rw [if_neg (by omega)] at h; cases h
theorem lookP_ok {k : Int} {ws : List Int} (which from_ : Int) (hl : ws.length ≤ 4096) (h : Syms k ws) : lookP k ws which from_ = none := by
  unfold lookP
  rw [if_neg (by omega), if_pos h.odd]

set_option maxHeartbeats 1000000 in
theorem look_any (r : Nat → Addr) (k : Int) (u : Value) (ws : List Int) (which : Int) (from_ : Nat) (w : World) (hg : Glob r w) (hu : IntsAt w u ws) (hf : from_ ≤ 1000000) :
    Calls Tryd.prog 64 #[.int .i64 k, u, .int .i64 which, .int .i64 from_] w (Ret1 (fun x w' => ErrIs r w' (lookP k ws which from_) x) w) := by
  have b0 := belowAlloc w (.cells #[.int .i64 k] 3)
  have z0 : (w.alloc (.cells #[.int .i64 k] 3)).cell? ⟨w.heap.size, 0, none⟩ = some (.int .i64 k) := by simp [go_sem]
  have l1 := hu.len
  have lm := hu.len_le
  obtain ⟨a1, n1, c1, rfl⟩ := hu.shape
  replace hg := Lib.hid (hg.below b0)
  replace hu := Lib.hid (hu.below b0)
  obtain ⟨e0, he0⟩ : ∃ e0, lookP k ws which from_ = e0 := ⟨_, rfl⟩
  rw [he0]
  unfold lookP at he0
  by_cases hl : 4096 < ws.length
  · rw [if_pos hl] at he0
    replace he0 := Lib.hid he0
    have hd : decide ((4096 : Int) < (ws.length : Int)) = true := decide_eq_true (by omega)
    go_enter Tryd.func64, Tryd.ntmps64
    go_wp2_with fail
    refine (pairs_wrong r _ _ _ hg.out (by decide) (by decide)).mono ?_
    rintro e w2 ⟨x, rfl, b2, he⟩
    go_wp2
    go_ret
    exact ⟨_, rfl, Below.step b0 b2, by rw [← he0.out]; exact he⟩
  · rw [if_neg hl] at he0
    have hd : decide ((4096 : Int) < (ws.length : Int)) = false := decide_eq_false (by omega)
    have hf2 : (from_ : Int) ≤ 1000000 := by omega
    rcases idxOf_cases (odd1 k) ws with ⟨hi, _⟩ | ⟨i, hi, hi', _⟩
    · rw [if_pos hi] at he0
      replace hi := Lib.hid hi
      replace he0 := Lib.hid he0
      go_enter Tryd.func64, Tryd.ntmps64
      go_wp2_with fail
      refine (indexFunc_any _ _ 94 ws (odd1 k) _ hu.out eg_look1 (fun x _ => look1_any x k _ _ z0)).mono ?_
      rintro e w2 ⟨rfl, rfl⟩
      rw [hi.out]
      go_wp2
      go_ret
      exact ⟨_, rfl, b0, by rw [← he0.out]; rfl⟩
    · have hws : ws.length ≤ 4096 := by omega
      have hwr : IntKind.i64.wrap ((from_ : Int) + (i : Int)) = (from_ : Int) + (i : Int) := wrapK (by omega) (by omega)
      rw [if_neg (by omega), hi] at he0
      replace hi := Lib.hid hi
      replace he0 := Lib.hid he0
      go_enter Tryd.func64, Tryd.ntmps64
      go_wp2_with fail
      refine (indexFunc_any _ _ 94 ws (odd1 k) _ hu.out eg_look1 (fun x _ => look1_any x k _ _ z0)).mono ?_
      rintro e w2 ⟨rfl, rfl⟩
      rw [hi.out]
      go_wp2_with fail
      refine (pairs_wrong r _ _ _ hg.out (by decide) (by decide)).mono ?_
      rintro e w2 ⟨x, rfl, b2, he⟩
      go_wp2
      go_ret
      exact ⟨_, rfl, Below.step b0 b2, by rw [← he0.out]; exact he⟩
end Go.Proofs.YthnkdiejmclmkaaDoor

namespace Go.Proofs.YthnkdiejmclmkaaDoor
open Go.RowKit
set_option maxRecDepth 100000

set_option maxHeartbeats 800000 in
theorem made_one0 (K R F : Nat) (c1 : Value) (s : List Int → Int) (w : World) (hk1 : 1 ≤ K) (hk4 : K ≤ 4) (hR : R ≤ 3)
    (eg : ∀ args w, (callFunc F args).run Tryd.prog w = .ok (.enter F args) w)
    (hF : ∀ (v : Value) (ys : List Int) (w' : World), Below w.heap.size w w' → IntsAt w' v ys → Syms K ys → ys.length = 2 * R + 1 → Calls Tryd.prog F #[v, c1] w' (Ret1 (fun x _ => x = .int .i64 (s ys)) w')) :
    Calls Tryd.prog 35 #[.int .i64 K, .int .i64 R, .func (.func F) #[] #[c1]] w (Ret1 (fun x w' => ∃ a n c, x = .agg #[.int .i64 K, .int .i64 R, .slice a n c] ∧ OwnI w.heap.size w' (.slice a n c) (madeP K (2 * R + 1) s (pw K (2 * R + 1)))) w) := by
  have hpl := pw_le hk1 hk4 (i := 2 * R + 1) (by omega)
  replace hF := Lib.hid hF
  go_enter Tryd.func35, Tryd.ntmps35
  go_wp2_with fail
  refine (size_ok K R _ hk1 hk4 hR).mono ?_
  rintro e w' ⟨rfl, rfl⟩
  go_wp2_with fail
  have hb0 := belowAlloc w (.cells #[.int .i64 0, .int .i64 0, .slice none 0 0] 24)
  obtain ⟨tv, w1, hmk, ho1, hb1⟩ := run_makeI ((pw K (2 * R + 1) : Nat) : Int) (pw K (2 * R + 1)) (w.alloc (.cells #[.int .i64 0, .int .i64 0, .slice none 0 0] 24)) rfl (by omega)
  obtain ⟨ta, tn, tc, rfl⟩ := ho1.at.shape
  rw [hmk]
  simp only [Result.andThen]
  clear hmk
  generalize hN : 2 * R + 1 = N at *
  go_wp2_with fail
  obtain ⟨wv, w2, hmk2, ho2, hb2⟩ := run_makeI (2 * (R : Int) + 1) N (w1.alloc (.cells #[.int .i64 K, .int .i64 R, .slice ta tn tc] 24)) (by omega) (by omega)
  obtain ⟨wa, wn, wc, rfl⟩ := ho2.at.shape
  rw [hmk2]
  simp only [Result.andThen]
  clear hmk2
  obtain ⟨z0, z1, z2, -, -, -⟩ := cells3 hb2
  have lt := (ho1.at.len)
  rw [List.length_replicate] at lt
  have hN7 : N ≤ 7 := by omega
  replace hN := Lib.hid hN
  have ltb : ∀ k, (Value.slice ta tn tc).ownBlock = some k → k < w1.heap.size := fun k hk => (ho1.lt k hk).2
  have lwn := ho2.at.len
  rw [List.length_replicate] at lwn
  have ho1' := Lib.hid ((ho1.alloc (.cells #[.int .i64 K, .int .i64 R, .slice ta tn tc] 24)).below hb2)
  have zz := Lib.hid (And.intro z0 (And.intro z1 z2))
  have hbw := Lib.hid (hb1.trans ((Below.step (belowAlloc w1 (.cells #[.int .i64 K, .int .i64 R, .slice ta tn tc] 24)) hb2).mono hb1.size))
  replace ho2 := Lib.hid ho2
  replace ltb := Lib.hid ltb
  have hsz1 := hb1.size
  simp at hsz1
  have hM : pw K N = pw K N := rfl
  clear hM
  go_wp2
  go_loopw [32] (fun i wr => ∃ m : Nat, m ≤ pw K N ∧ i = .int .i64 m ∧ OwnI (w.heap.size + 1) wr (.slice ta tn tc) (madeP K N s m ++ List.replicate (pw K N - m) 0) ∧ (∃ p : List Int, p.length = N ∧ OwnI (w1.heap.size + 1) wr (.slice wa wn wc) p) ∧
      (wr.cell? ⟨w1.heap.size, 0, none⟩ = some (.int .i64 K) ∧ wr.cell? ⟨w1.heap.size, 1, none⟩ = some (.int .i64 R) ∧ wr.cell? ⟨w1.heap.size, 2, none⟩ = some (.slice ta tn tc)) ∧
      Below (w.heap.size + 1) (w.alloc (.cells #[.int .i64 0, .int .i64 0, .slice none 0 0] 24)) wr) (fun i _ => pw K N - (intOf i).toNat)
  case atStart => exact ⟨0, by omega, rfl, by simpa [madeP] using ho1'.out, ⟨List.replicate N 0, by simp, by simpa using ho2.out⟩, zz.out, by simpa using hbw.out⟩
  case round =>
    obtain ⟨m, hm, rfl, hT, ⟨p, hp, hP⟩, hz, hbO⟩ := hrel
    obtain ⟨wo, rfl⟩ : ∃ wo : World, wo = wr := ⟨_, rfl⟩
    replace hz := Lib.hid hz
    replace hT := Lib.hid hT
    by_cases hml : m < pw K N
    · have hsz2 : w1.heap.size < wo.heap.size := World.block_lt_of_cell? _ _ hz.out.1
      have hK0 : ((K : Int) == 0) = false := by rw [beq_eq_false_iff_ne]; omega
      have hK1 : ¬ (K : Int) = 0 := by omega
      have hK2 : (0 : Int) < K := by omega
      go_wp2
      go_loopw [12, 38] (fun x i wr => ∃ j : Nat, j ≤ N ∧ i = .int .i64 j ∧ x = .int .i64 (m / pw K j : Nat) ∧ OwnI (w1.heap.size + 1) wr (.slice wa wn wc) (p.take (N - j) ++ (digs K N m).drop (N - j)) ∧ Below (w1.heap.size + 1) wo wr) (fun _ i _ => N - (intOf i).toNat)
      case atStart => exact ⟨0, by omega, rfl, by simp [pw], by rw [Nat.sub_zero, List.drop_of_length_le (by rw [digs_length]; exact Nat.le_refl _), List.append_nil, List.take_of_length_le (by omega)]; exact hP, Below.refl _ _⟩
      case round =>
        obtain ⟨j, hj, rfl, rfl, hO, hbI⟩ := hrel
        obtain ⟨wi, rfl⟩ : ∃ wi : World, wi = wr := ⟨_, rfl⟩
        by_cases hjl : j < N
        · have hXl : (p.take (N - j) ++ (digs K N m).drop (N - j)).length = N := by simp [digs_length]; omega
          have i1 : ∀ w', (Instr.indexAt 22 (.slice wa wn wc) (.int .i64 ((N : Int) - 1 - (j : Int)))).run Tryd.prog w' = .ok (.pointer (some (valAt (.slice wa wn wc) (N - 1 - j)))) w' := by
            intro w'
            have := hO.at.idxI ((N : Int) - 1 - (j : Int)) (by omega) (by rw [hXl]; omega) w'
            rwa [show ((N : Int) - 1 - (j : Int)).toNat = N - 1 - j by omega] at this
          have c1 := hO.at.cellD (N - 1 - j) (by rw [hXl]; omega)
          have f1 := hO.frz (N - 1 - j) (by rw [hXl]; omega)
          have hS := hO.set (N - 1 - j) (by rw [hXl]; omega) ((m / pw K j % K : Nat) : Int)
          have hbS := hO.setBelow hbI (N - 1 - j) (by rw [hXl]; omega) (.int .i64 ((m / pw K j % K : Nat) : Int))
          rw [digs_fill K N m j hjl p hp] at hS
          replace hS := Lib.hid hS
          replace hbS := Lib.hid hbS
          have hqd : m / pw K j / K = m / pw K (j + 1) := by rw [Nat.div_div_eq_div_mul, ← pw_succ]
          replace hqd := Lib.hid hqd
          have hql : m / pw K j ≤ 16384 := Nat.le_trans (Nat.div_le_self _ _) (by omega)
          generalize (p.take (N - j) ++ (digs K N m).drop (N - j)).getD (N - 1 - j) 0 = y at c1
          clear hXl hO
          generalize m / pw K j = q at *
          rw [Int.natCast_emod] at hS hbS
          have hd0 : 0 ≤ (q : Int) / (K : Int) := Int.ediv_nonneg (by omega) (by omega)
          have hd1 : (q : Int) / (K : Int) ≤ 16384 := by
            have h1 : q / K ≤ q := Nat.div_le_self _ _
            have h2 : q / K ≤ 16384 := by omega
            exact_mod_cast h2
          have hdw : IntKind.i64.wrap ((q : Int) / (K : Int)) = (q : Int) / (K : Int) := wrapK (by omega) (by omega)
          go_wp2
          go_roundw
          case rel => exact ⟨j + 1, by omega, by go_num, by rw [← hqd.out]; simp, hS.out, hbS.out⟩
          case measure => simp [intOf]; omega
        · have hjN : j = N := by omega
          subst hjN
          rw [Nat.sub_self, List.take_zero, List.drop_zero, List.nil_append] at hO
          have hbW : Below w.heap.size w wi := ((belowAlloc w _).trans (hbO.mono (by omega))).trans (hbI.mono (by omega))
          have hz2 := hbI.cell (p := ⟨w1.heap.size, 2, none⟩) (by simp)
          have hTl : m < (madeP K j s m ++ List.replicate (pw K j - m) (0 : Int)).length := by simp [madeP_length]; omega
          have hTi := hT.out.belowB hbI (fun k hk => by have := ltb.out k hk; omega)
          have i2 := hTi.at.idx m hTl
          have c2 := hTi.at.cellD m hTl
          have f2 := hTi.frz m hTl
          have b2 := hTi.at.blk m hTl
          have z2i := hz2.trans hz.out.2.2
          have zbi : (⟨w1.heap.size, 2, none⟩ : Addr).block < wi.heap.size := World.block_lt_of_cell? _ _ z2i
          generalize (madeP K j s m ++ List.replicate (pw K j - m) (0 : Int)).getD m 0 = o at c2
          replace hTi := Lib.hid hTi
          replace hO := Lib.hid hO
          replace hbW := Lib.hid hbW
          replace hTl := Lib.hid hTl
          clear hz2
          have hvb : (valAt (.slice ta tn tc) m).block ≠ w1.heap.size := by
            have := ltb.out _ (hT.out.toV.blkB m (by simpa using hTl.out)).1
            omega
          have hdl : m + 1 ≤ pw K j := hml
          go_wp2
          go_region_held3 (fun w' => w'.cell? ⟨w1.heap.size, 2, none⟩ = some (.slice ta tn tc)) (go_keep)
            (first | (refine (hF.out _ (digs K j m) _ (by first | exact hbW.out.drew | exact hbW.out) (by first | exact hO.out.at.drew | exact hO.out.at) (digs_syms hk1 _ _) (by rw [digs_length])).mono ?_; rintro e w5 ⟨x5, rfl, hb5, rfl⟩; have y1 := (hb5.cell zbi).trans z2i; have y2 := (hb5.cell b2).trans c2; have y3 := (hb5.frozen b2).trans f2; have bb : Below wi.heap.size wi w5 := ((Below.refl _ _).drew).trans hb5))
          have hT5 := (hTi.out.drew.below hb5).set m hTl.out (s (digs K j m))
          rw [madeP_set K j s m _ hml] at hT5
          have hO5 := (hO.out.drew.below hb5).setOther (hTi.out.drew.below hb5) (by
            intro e
            have e1 := (hT.out.toV.blkB m (by simpa using hTl.out)).1
            have e2 := (hO.out.lt _ (e.trans e1)).1
            have e3 := ltb.out _ e1
            omega) m hTl.out (.int .i64 (s (digs K j m)))
          have hB5 := ((hbO.trans (hbI.mono (by omega))).trans (bb.mono (by omega))).setCell ((hTi.out.blkB m hTl.out)) (.int .i64 (s (digs K j m)))
          have x0 := (World.cell?_setCell_far w5 (valAt (.slice ta tn tc) m) ⟨w1.heap.size, 0, none⟩ (.int .i64 (s (digs K j m))) hvb).trans (((bb.cell (p := ⟨w1.heap.size, 0, none⟩) zbi)).trans ((hbI.cell (p := ⟨w1.heap.size, 0, none⟩) (by simp)).trans hz.out.1))
          have x1 := (World.cell?_setCell_far w5 (valAt (.slice ta tn tc) m) ⟨w1.heap.size, 1, none⟩ (.int .i64 (s (digs K j m))) hvb).trans (((bb.cell (p := ⟨w1.heap.size, 1, none⟩) zbi)).trans ((hbI.cell (p := ⟨w1.heap.size, 1, none⟩) (by simp)).trans hz.out.2.1))
          have x2 := (World.cell?_setCell_far w5 (valAt (.slice ta tn tc) m) ⟨w1.heap.size, 2, none⟩ (.int .i64 (s (digs K j m))) hvb).trans y1
          have xx := Lib.hid (And.intro x0 (And.intro x1 x2))
          clear x0 x1 x2
          replace hT5 := Lib.hid hT5
          replace hO5 := Lib.hid hO5
          replace hB5 := Lib.hid hB5
          go_wp2
          go_roundw
          case rel => exact ⟨m + 1, by omega, by go_num, hT5.out, ⟨digs K j m, digs_length .., hO5.out⟩, xx.out, hB5.out⟩
          case measure => simp [intOf]; omega
    · obtain rfl : m = pw K N := by omega
      rw [Nat.sub_self, List.replicate_zero, List.append_nil] at hT
      obtain ⟨z0, z1, z2⟩ := hz.out
      obtain ⟨y0, y1, y2, f0, f1, f2⟩ := cells3 (w := w) (show Below (w.alloc (.cells #[.int .i64 0, .int .i64 0, .slice none 0 0] 24)).heap.size _ wo by simpa using hbO)
      replace hbO := Lib.hid hbO
      go_wp2
      refine bodyPost_ret (v := .agg #[.int .i64 K, .int .i64 R, .slice ta tn tc]) (by simp [results, Tryd.results35, go_sem, y0, y1, y2]) rfl ⟨_, rfl, ?_, ta, tn, tc, rfl, ?_⟩
      · exact (((belowAlloc w _).trans (hbO.out.mono (by omega))).setCell (by simp) _).setCell (by simp) _ |>.setCell (by simp) _
      · rw [hN.out]; exact (((hT.out.setBelowBase (a := ⟨w.heap.size, 0, none⟩) (by simp) _).setBelowBase (a := ⟨w.heap.size, 1, none⟩) (by simp) _).setBelowBase (a := ⟨w.heap.size, 2, none⟩) (by simp) _).mono (Nat.le_succ _)

theorem made_one (K R F : Nat) (c1 : Value) (s : List Int → Int) (w : World) (hk1 : 1 ≤ K) (hk4 : K ≤ 4) (hR : R ≤ 3) (Ri : Int) (hRi : Ri = R)
    (eg : ∀ args w, (callFunc F args).run Tryd.prog w = .ok (.enter F args) w)
    (hF : ∀ (v : Value) (ys : List Int) (w' : World), Below w.heap.size w w' → IntsAt w' v ys → Syms K ys → ys.length = 2 * R + 1 → Calls Tryd.prog F #[v, c1] w' (Ret1 (fun x _ => x = .int .i64 (s ys)) w')) :
    Calls Tryd.prog 35 #[.int .i64 K, .int .i64 Ri, .func (.func F) #[] #[c1]] w (Ret1 (fun x w' => ∃ a n c, x = .agg #[.int .i64 K, .int .i64 R, .slice a n c] ∧ OwnI w.heap.size w' (.slice a n c) (madeP K (2 * R + 1) s (pw K (2 * R + 1)))) w) := by
  subst hRi
  exact made_one0 K R F c1 s w hk1 hk4 hR eg hF
end Go.Proofs.YthnkdiejmclmkaaDoor
