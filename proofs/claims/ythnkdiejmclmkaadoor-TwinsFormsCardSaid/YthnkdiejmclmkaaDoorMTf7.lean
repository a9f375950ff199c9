/-
  Walks: pairs.Graph at what is no small rule; pairs.Apart.
  Walk: graph.Path.
  Walk: graph.Loop.
  The chapter's graph: its parts, its live vertices, its way from 0 to 4, as plain mathematics; the walk that makes it.
  Walks: the helpers of edenlaw12: awake, heavy, vertex, leads, goes.
  Walk: edenlaw12.goes at a way.
  Walks: the two functions within pairs.Words.
  Walks: twins.nodes, twins.meet.
  Walk: pairs.Words.
-/
import Derived.Test.YthnkdiejmclmkaaDoorMTf6
namespace Go.Proofs.YthnkdiejmclmkaaDoor
open Go.RowKit
set_option maxRecDepth 100000

theorem oddTo_ok {G : List (List Int)} (hok : GraphOk G) : ∀ k, k ≤ G.length → oddTo G k < 0
  | 0, _ => by simp [oddTo]
  | k + 1, hk => oddTo_miss (oddTo_ok hok k (by omega)) fun t ht => by
    have := hok k (by omega) t ht
    simp [oddT]; omega
theorem checkG_ok {G : List (List Int)} (h1 : G.length ≤ 8192) (h2 : arrowsTo G G.length ≤ 262144) (hok : GraphOk G) : checkG G = none := by
  unfold checkG
  rw [if_neg (by omega), if_neg (by omega), if_neg (by have := oddTo_ok hok G.length (Nat.le_refl _); omega)]
section
variable {K N : Nat} {T : List Int}
theorem pairG_len : (pairG K N T).length = N * N := rowsOf_len _ _
theorem pairG_row {p : Nat} (hp : p < N * N) : (pairG K N T).getD p [] = castI (pairL K N T p) := rowsOf_get _ _ _ hp
theorem pairG_adj {p : Nat} (hp : p < N * N) : adjOf (pairG K N T) p = pairL K N T p := by
  unfold adjOf
  rw [pairG_row hp, castI, List.map_map]
  exact List.map_id _
theorem pairG_ok (hN : 0 < N) : GraphOk (pairG K N T) := by
  intro v hv t ht
  rw [pairG_len] at hv
  rw [pairG_row hv] at ht
  obtain ⟨q, hq, rfl⟩ := List.mem_map.1 ht
  have := ((mem_pairL hN).1 hq).lt hN
  rw [pairG_len]
  omega
theorem pairG_arrows : ∀ k, k ≤ N * N → arrowsTo (pairG K N T) k ≤ k * (K * K)
  | 0, _ => by simp [arrowsTo]
  | k + 1, hk => by
    have := pairG_arrows k (by omega)
    simp only [arrowsTo]
    rw [pairG_row (by omega), castI_len, Nat.add_mul]
    have := pairL_len K N T k
    omega
theorem pairG_check (hN : 0 < N) (hN81 : N ≤ 81) (hNK : N * K ≤ 256) : checkG (pairG K N T) = none := by
  refine checkG_ok ?_ ?_ (pairG_ok hN)
  · rw [pairG_len]; have := Nat.mul_le_mul hN81 hN81; omega
  · rw [pairG_len]
    have := pairG_arrows (K := K) (N := N) (T := T) (N * N) (Nat.le_refl _)
    have h2 := Nat.mul_le_mul hNK hNK
    rw [show N * K * (N * K) = N * N * (K * K) by rw [Nat.mul_assoc, Nat.mul_left_comm K, ← Nat.mul_assoc]] at h2
    omega
theorem pairG_goes (hN : 0 < N) {x y : Nat} (h : Goes (pairL K N T) x y) (hx : x < N * N) : Goes (adjOf (pairG K N T)) x y ∧ y < N * N := by
  induction h with
  | refl => exact ⟨.refl _, hx⟩
  | step h hz ih =>
    exact ⟨.step ih.1 (by rw [pairG_adj ih.2]; exact hz), ((mem_pairL hN).1 hz).lt hN⟩
end
/-- The pairs of equal nodes are live. -/
theorem diag_live {K R : Nat} {T : List Int} {u : Nat} (hK : 1 ≤ K) (hu : u < pw K (2 * R)) : IsLive (pw K (2 * R) * pw K (2 * R)) (adjOf (pairG K (pw K (2 * R)) T)) (u * pw K (2 * R) + u) := by
  have hp := pair_lt hu hu
  have hN : 0 < pw K (2 * R) := by omega
  have ht := toN_lt (K := K) (u := u) (s := 0) hN
  have hl : OnLoop (adjOf (pairG K (pw K (2 * R)) T)) (u * pw K (2 * R) + u) :=
    ⟨toN K (pw K (2 * R)) u 0 * pw K (2 * R) + toN K (pw K (2 * R)) u 0, by rw [pairG_adj hp]; exact diag_arr hu hK, (pairG_goes hN (diag_goes hK ht hu) (pair_lt ht ht)).1⟩
  exact ⟨⟨_, hp, hl, .refl _⟩, ⟨_, hp, hl, .refl _⟩⟩

theorem pgraph_bad (r : Nat → Addr) (k R : Int) (va : Option Addr) (vn vc : Nat) (T : List Int) (t : Int × List (ByteArray × Int)) (w : World) (hg : Glob r w) (h : IntsAt w (.slice va vn vc) T) (hc : smallP k R T = some t) :
    Calls Tryd.prog 20 #[.agg #[.int .i64 k, .int .i64 R, .slice va vn vc]] w (Ret2 (fun x y w' => x = .slice none 0 0 ∧ ErrIs r w' (under sPairs 0 (some t)) y) w) := by
  have b0 := belowAlloc w (.cells #[.int .i64 k, .int .i64 R, .slice va vn vc] 24)
  replace hg := Lib.hid (hg.below b0)
  replace h := Lib.hid (h.below b0)
  replace hc := Lib.hid hc
  go_enter Tryd.func20, Tryd.ntmps20
  go_wp2_with fail
  refine (working_bad r k R va vn vc T t _ hg.out h.out hc.out).mono ?_
  rintro e w1 ⟨x, y, rfl, b1, rfl, hy⟩
  obtain ⟨T2, a2, rfl⟩ : ∃ T a, y = .iface T (.pointer (some a)) := by
    unfold under at hy
    exact ErrIs.some_shape hy
  have ba := belowAlloc w1 (.cells #[.int .i64 0, .int .i64 0, .slice none 0 0] 24)
  have hy2 := hy.below ba
  replace hy := Lib.hid hy
  replace hy2 := Lib.hid hy2
  go_wp2
  go_ret2
  exact ⟨_, _, rfl, Below.step b0 (Below.step b1 ba), rfl, hy2.out⟩

theorem papart_bad (r : Nat → Addr) (k R : Int) (va : Option Addr) (vn vc : Nat) (T : List Int) (t : Int × List (ByteArray × Int)) (w : World) (hg : Glob r w) (h : IntsAt w (.slice va vn vc) T) (hc : smallP k R T = some t) :
    Calls Tryd.prog 21 #[.agg #[.int .i64 k, .int .i64 R, .slice va vn vc]] w (Ret2 (fun x y w' => x = .slice none 0 0 ∧ ErrIs r w' (under sPairs 0 (some t)) y) w) := by
  have b0 := belowAlloc w (.cells #[.int .i64 k, .int .i64 R, .slice va vn vc] 24)
  replace hg := Lib.hid (hg.below b0)
  replace h := Lib.hid (h.below b0)
  replace hc := Lib.hid hc
  go_enter Tryd.func21, Tryd.ntmps21
  go_wp2_with fail
  refine (pgraph_bad r k R va vn vc T t _ hg.out h.out hc.out).mono ?_
  rintro e w1 ⟨x, y, rfl, b1, rfl, hy⟩
  obtain ⟨T2, a2, rfl⟩ : ∃ T a, y = .iface T (.pointer (some a)) := by
    unfold under at hy
    exact ErrIs.some_shape hy
  replace hy := Lib.hid hy
  go_wp2
  go_ret2
  exact ⟨_, _, rfl, Below.step b0 b1, rfl, hy.out⟩

set_option maxHeartbeats 1000000 in
theorem papart_ok (r : Nat → Addr) (K R : Nat) (va : Option Addr) (vn vc : Nat) (T : List Int) (w : World) (hg : Glob r w) (h : IntsAt w (.slice va vn vc) T) (hr : RuleOk K R T) (hl : T.length ≤ 256) :
    Calls Tryd.prog 21 #[.agg #[.int .i64 K, .int .i64 R, .slice va vn vc]] w (Ret2 (fun x y w' => y = .nilIface ∧ ∃ L, LiveList (pw K (2 * wkR R) * pw K (2 * wkR R)) (adjOf (pairG K (pw K (2 * wkR R)) (wkT K R T))) L ∧ OwnI w.heap.size w' x (castI (L.filter fun p => !decide (Diag (pw K (2 * wkR R)) p)))) w) := by
  have b0 := belowAlloc w (.cells #[.int .i64 K, .int .i64 R, .slice va vn vc] 24)
  have q : Box3 (w.alloc (.cells #[.int .i64 K, .int .i64 R, .slice va vn vc] 24)) w.heap.size (.int .i64 K) (.int .i64 R) (.slice va vn vc) := by simp [Box3, go_sem]
  have hk1 := hr.k1
  have hk4 := hr.k4
  have hokW := wk_ok hr
  have hlW := wk_small hr hl
  have hRW := wk_pos R
  have hN81 := nodes_le hokW hRW hlW
  obtain ⟨hdiv, hlen⟩ := hokW.half
  have hN1 := pw_pos (K := K) (2 * wkR R) hk1
  have hNK : pw K (2 * wkR R) * K ≤ 256 := by rw [← hlen]; exact hlW
  have hck := pairG_check (K := K) (N := pw K (2 * wkR R)) (T := wkT K R T) (by omega) hN81 hNK
  have hlive0 := diag_live (K := K) (R := wkR R) (T := wkT K R T) (u := 0) hk1 (by omega)
  have hgraph := fun (w' : World) (hgl : Glob r w') (hT : IntsAt w' (.slice va vn vc) T) => pgraph_ok r K R va vn vc T w' hgl hT hr hl
  have hwork := fun (w' : World) (hgl : Glob r w') (hT : IntsAt w' (.slice va vn vc) T) => working_ok r K R va vn vc T w' hgl hT hr hl
  have hNodes := fun (a : Option Addr) (n c : Nat) (w' : World) (hgl : Glob r w') (hT : IntsAt w' (.slice a n c) (wkT K R T)) => over_Nodes r K (wkR R) a n c (wkT K R T) w' hgl hT hokW hlW
  rw [hdiv] at hNodes
  generalize pw K (2 * wkR R) = N at *
  generalize wkT K R T = T' at *
  generalize wkR R = R' at *
  rw [Nat.zero_mul, Nat.zero_add] at hlive0
  replace hgraph := Lib.hid hgraph
  replace hwork := Lib.hid hwork
  replace hNodes := Lib.hid hNodes
  replace hck := Lib.hid hck
  replace hlive0 := Lib.hid hlive0
  replace hg := Lib.hid (hg.below b0)
  replace h := Lib.hid (h.below b0)
  replace hokW := Lib.hid hokW
  replace hr := Lib.hid hr
  replace hdiv := Lib.hid hdiv
  replace hlen := Lib.hid hlen
  go_enter Tryd.func21, Tryd.ntmps21
  go_wp2_with fail
  refine (hgraph.out _ hg.out h.out).mono ?_
  rintro e w1 ⟨gv, y, rfl, b1, rfl, f, vals, hrows, hwn⟩
  have hL : ListsAt w1 gv (pairG K N T') := hwn.lists hrows
  obtain ⟨ga, gc, rfl⟩ := hL.shape
  have hsz : ∀ k, k < (pairG K N T').length → ((pairG K N T').getD k []).length ≤ 17592186044416 := fun k hk => by
    rw [pairG_len] at hk
    rw [pairG_row hk, castI_len]
    have := pairL_len K N T' k
    have := Nat.mul_le_mul hk4 hk4
    omega
  have hM6 : N * N ≤ 6561 := Nat.mul_le_mul hN81 hN81
  replace hrows := Lib.hid hrows
  replace hwn := Lib.hid hwn
  replace hL := Lib.hid hL
  replace hsz := Lib.hid hsz
  go_wp2_with fail
  refine (live_any r ga gc (pairG K N T') w1 (hg.out.below b1) hL.out hsz.out).mono ?_
  rintro e w2 ⟨lv, y, rfl, b2, he, hls, _⟩
  rw [hck.out] at he hls
  obtain rfl := he.none_eq
  obtain ⟨L, hLL, ho⟩ := hls rfl
  rw [pairG_len] at hLL
  clear hls he
  have b12 := Below.step b1 b2
  have q2 := q.below b12
  obtain ⟨⟨z0, z1, z2⟩, -, -, -⟩ := q2
  replace hLL := Lib.hid hLL
  replace ho := Lib.hid ho
  go_wp2_with fail
  refine (hwork.out w2 (hg.out.below b12) (h.out.below b12)).mono ?_
  rintro e w3 ⟨x, y, rfl, b3, rfl, a, n, c, rfl, hT3⟩
  clear z0 z1 z2
  have b13 := Below.step b12 b3
  have ba := belowAlloc w3 (.cells #[.int .i64 K, .int .i64 R', .slice a n c] 24)
  have b14 := Below.step b13 ba
  have hT4 := hT3.below ba
  replace hT3 := Lib.hid hT3
  replace hT4 := Lib.hid hT4
  go_wp2_with fail
  refine (hNodes.out a n c _ (hg.out.below b14) hT4.out).mono ?_
  rintro e w5 ⟨x, y, rfl, b5, rfl, rfl⟩
  have b15 := Below.step b14 b5
  have bb := belowAlloc w5 (.cells #[.int .i64 N] 3)
  have b16 := Below.step b15 bb
  have b26 := Below.step b3 (Below.step ba (Below.step b5 bb))
  have ho6 := ho.out.below b26
  have cN : (w5.alloc (.cells #[.int .i64 N] 3)).cell? ⟨w5.heap.size, 0, none⟩ = some (.int .i64 N) := by simp [go_sem]
  have hne : lv.ownBlock ≠ some w5.heap.size := fun e => by
    have h1 := (ho.out.lt _ e).2
    have h2 := (Below.step b3 (Below.step ba b5)).size
    omega
  have hLne : castI L ≠ [] := fun e => by
    have : L = [] := by cases L with | nil => rfl | cons a l => simp [castI] at e
    have h0 := (hLL.out.mem 0).2 ⟨by have := Nat.mul_le_mul hN1 hN1; omega, hlive0.out⟩
    rw [this] at h0; cases h0
  replace ho6 := Lib.hid ho6
  replace hne := Lib.hid hne
  replace hLne := Lib.hid hLne
  replace cN := Lib.hid cN
  go_wp2_with fail
  refine (delete_own w1.heap.size lv (castI L) w5.heap.size N _ ho6.out hLne.out hN1 cN.out hne.out).mono ?_
  rintro e w7 ⟨x, rfl, _, ho7, b7⟩
  have hF : (castI L).filter (fun x => !dgI N x) = castI (L.filter fun p => !decide (Diag N p)) := by
    unfold castI
    rw [List.filter_map]
    congr 1
    refine List.filter_congr fun p hp => ?_
    have := ((hLL.out.mem p).1 hp).1
    show (!dgI N (p : Int)) = _
    rw [dgI_nat (by omega)]
  rw [hF] at ho7
  obtain ⟨xa, xn, xc, rfl⟩ := ho7.at.shape
  have ho8 := ho7.mono (B' := w.heap.size) (Nat.le_trans b0.size b1.size)
  have bE := (Below.step b0 b1).trans ((Below.step b2 b26).trans b7 |>.mono (Nat.le_trans b0.size b1.size))
  replace ho7 := Lib.hid ho7
  replace ho8 := Lib.hid ho8
  replace hF := Lib.hid hF
  go_wp2
  go_ret2
  exact ⟨_, _, rfl, bE, rfl, L, hLL.out, ho8.out⟩
end Go.Proofs.YthnkdiejmclmkaaDoor

namespace Go.Proofs.YthnkdiejmclmkaaDoor
open Go.RowKit
set_option maxRecDepth 100000

/-- No vertex of G. -/
def outG (G : List (List Int)) (a : Int) : Prop := a < 0 ∨ (G.length : Int) ≤ a
instance (G : List (List Int)) (a : Int) : Decidable (outG G a) := by unfold outG; infer_instance
/-- What Path tells of its arguments. -/
def pathE (G : List (List Int)) (a b : Int) : PErr :=
  match checkG G with
  | some t => some t
  | none => if outG G a then fresh sGraph 1 3 else if outG G b then fresh sGraph 2 3 else none
theorem pathE_none {G : List (List Int)} {a b : Int} (h : pathE G a b = none) : checkG G = none ∧ ∃ x y : Nat, a = x ∧ b = y ∧ x < G.length ∧ y < G.length := by
  unfold pathE at h
  cases hc : checkG G with
  | some t => rw [hc] at h; cases h
  | none =>
    rw [hc] at h
    dsimp only at h
    by_cases ha : outG G a
    · rw [if_pos ha] at h; cases h
    rw [if_neg ha] at h
    by_cases hb : outG G b
    · rw [if_pos hb] at h; cases h
    unfold outG at ha hb
    exact ⟨rfl, a.toNat, b.toNat, by omega, by omega, by omega, by omega⟩
theorem pathE_ok {G : List (List Int)} {x y : Nat} (hc : checkG G = none) (hx : x < G.length) (hy : y < G.length) : pathE G x y = none := by
  unfold pathE
  rw [hc]
  dsimp only
  rw [if_neg (by unfold outG; omega), if_neg (by unfold outG; omega)]
/-- What Path leaves. -/
def PathPost (r : Nat → Addr) (w : World) (G : List (List Int)) (a b : Int) (x y : Value) (w' : World) : Prop :=
  ErrIs r w' (pathE G a b) y ∧ (pathE G a b = none → FirstPost w (adjOf G) a.toNat b.toNat x w') ∧ (pathE G a b ≠ none → x = .slice none 0 0)
theorem FirstPost.step {w1 w2 w3 : World} {adj : Nat → List Nat} {a b : Nat} {x : Value} (h : FirstPost w2 adj a b x w3) (hs : w1.heap.size ≤ w2.heap.size) : FirstPost w1 adj a b x w3 := by
  rcases h with ⟨u, h1, h2⟩ | h
  · exact .inl ⟨u, h1, h2.mono hs⟩
  · exact .inr h
theorem FirstPost.shape {w w' : World} {adj : Nat → List Nat} {a b : Nat} {x : Value} (h : FirstPost w adj a b x w') : ∃ p n c, x = .slice p n c := by
  rcases h with ⟨u, _, h2⟩ | ⟨_, h⟩
  · exact h2.at.shape
  · exact ⟨_, _, _, h⟩

set_option maxHeartbeats 4000000 in
theorem path_any (r : Nat → Addr) (na : Option Addr) (nc : Nat) (G : List (List Int)) (a b : Int) (w : World) (hg : Glob r w) (h : ListsAt w (.slice na G.length nc) G) (hsz : ∀ k, k < G.length → (G.getD k []).length ≤ 17592186044416) :
    Calls Tryd.prog 103 #[.slice na G.length nc, .int .i64 a, .int .i64 b] w (Ret2 (PathPost r w G a b) w) := by
  have hC := graph_check r na nc G w hg h hsz
  cases hck : checkG G with
  | some t =>
    rw [hck] at hC
    have hp : pathE G a b = some t := by unfold pathE; rw [hck]
    replace hp := Lib.hid hp
    replace hck := Lib.hid hck
    replace h := Lib.hid h
    replace hg := Lib.hid hg
    replace hsz := Lib.hid hsz
    go_enter Tryd.func103, Tryd.ntmps103
    go_wp2_with fail
    refine hC.mono ?_
    rintro e w1 ⟨y, rfl, b1, he⟩
    obtain ⟨T, p, rfl⟩ := he.some_shape
    replace he := Lib.hid he
    go_wp2
    go_ret2
    exact ⟨_, _, rfl, b1, ⟨by rw [hp.out]; exact he.out, ⟨fun q => (by rw [hp.out] at q; cases q), fun _ => rfl⟩⟩⟩
  | none =>
    rw [hck] at hC
    obtain ⟨hn, harr, hok⟩ := checkG_none hck
    by_cases ha : outG G a
    · have hp : pathE G a b = fresh sGraph 1 3 := by unfold pathE; rw [hck]; dsimp only; rw [if_pos ha]
      replace hp := Lib.hid hp
      replace hck := Lib.hid hck
      replace h := Lib.hid h
      replace hg := Lib.hid hg
      replace hsz := Lib.hid hsz
      replace hok := Lib.hid hok
      rcases ha with ha | ha
      · go_enter Tryd.func103, Tryd.ntmps103
        go_wp2_with fail
        refine hC.mono ?_
        rintro e w1 ⟨y, rfl, b1, he⟩
        obtain rfl := he.none_eq
        clear he hC
        go_wp2_with fail
        refine (graph_wrong r _ _ _ (hg.out.below b1) (by decide) (by decide)).mono ?_
        rintro e w2 ⟨y, rfl, b2, he⟩
        replace he := Lib.hid he
        go_wp2
        go_ret2
        exact ⟨_, _, rfl, Below.step b1 b2, ⟨by rw [hp.out]; exact he.out, ⟨fun q => (by rw [hp.out] at q; cases q), fun _ => rfl⟩⟩⟩
      · have ha0 : ¬ a < 0 := by omega
        go_enter Tryd.func103, Tryd.ntmps103
        go_wp2_with fail
        refine hC.mono ?_
        rintro e w1 ⟨y, rfl, b1, he⟩
        obtain rfl := he.none_eq
        clear he hC
        go_wp2_with fail
        refine (graph_wrong r _ _ _ (hg.out.below b1) (by decide) (by decide)).mono ?_
        rintro e w2 ⟨y, rfl, b2, he⟩
        replace he := Lib.hid he
        go_wp2
        go_ret2
        exact ⟨_, _, rfl, Below.step b1 b2, ⟨by rw [hp.out]; exact he.out, ⟨fun q => (by rw [hp.out] at q; cases q), fun _ => rfl⟩⟩⟩
    · have ha1 : 0 ≤ a ∧ a < G.length := by unfold outG at ha; omega
      obtain ⟨ha1, ha2⟩ := ha1
      by_cases hb : outG G b
      · have hp : pathE G a b = fresh sGraph 2 3 := by unfold pathE; rw [hck]; dsimp only; rw [if_neg ha, if_pos hb]
        replace hp := Lib.hid hp
        replace hck := Lib.hid hck
        replace h := Lib.hid h
        replace hg := Lib.hid hg
        replace hsz := Lib.hid hsz
        replace hok := Lib.hid hok
        clear ha
        rcases hb with hb | hb
        · go_enter Tryd.func103, Tryd.ntmps103
          go_wp2_with fail
          refine hC.mono ?_
          rintro e w1 ⟨y, rfl, b1, he⟩
          obtain rfl := he.none_eq
          clear he hC
          go_wp2_with fail
          refine (graph_wrong r _ _ _ (hg.out.below b1) (by decide) (by decide)).mono ?_
          rintro e w2 ⟨y, rfl, b2, he⟩
          replace he := Lib.hid he
          go_wp2
          go_ret2
          exact ⟨_, _, rfl, Below.step b1 b2, ⟨by rw [hp.out]; exact he.out, ⟨fun q => (by rw [hp.out] at q; cases q), fun _ => rfl⟩⟩⟩
        · have hb0 : ¬ b < 0 := by omega
          go_enter Tryd.func103, Tryd.ntmps103
          go_wp2_with fail
          refine hC.mono ?_
          rintro e w1 ⟨y, rfl, b1, he⟩
          obtain rfl := he.none_eq
          clear he hC
          go_wp2_with fail
          refine (graph_wrong r _ _ _ (hg.out.below b1) (by decide) (by decide)).mono ?_
          rintro e w2 ⟨y, rfl, b2, he⟩
          replace he := Lib.hid he
          go_wp2
          go_ret2
          exact ⟨_, _, rfl, Below.step b1 b2, ⟨by rw [hp.out]; exact he.out, ⟨fun q => (by rw [hp.out] at q; cases q), fun _ => rfl⟩⟩⟩
      · have hb1 : 0 ≤ b ∧ b < G.length := by unfold outG at hb; omega
        obtain ⟨hb1, hb2⟩ := hb1
        have hp : pathE G a b = none := by unfold pathE; rw [hck]; dsimp only; rw [if_neg ha, if_neg hb]
        obtain ⟨x, rfl⟩ := Int.eq_ofNat_of_zero_le ha1
        obtain ⟨y, rfl⟩ := Int.eq_ofNat_of_zero_le hb1
        have hx : x < G.length := by omega
        have hy : y < G.length := by omega
        clear ha hb ha1 hb1 ha2 hb2
        replace hp := Lib.hid hp
        replace hck := Lib.hid hck
        replace h := Lib.hid h
        replace hg := Lib.hid hg
        replace hsz := Lib.hid hsz
        replace hok := Lib.hid hok
        go_enter Tryd.func103, Tryd.ntmps103
        go_wp2_with fail
        refine hC.mono ?_
        rintro e w1 ⟨y', rfl, b1, he⟩
        obtain rfl := he.none_eq
        clear he hC
        go_wp2_with fail
        refine (first_any na nc G x y _ (h.out.below b1) hok.out (by omega) hx hy hsz.out).mono ?_
        rintro e w2 ⟨z, rfl, b2, hz⟩
        obtain ⟨zp, zn, zc, rfl⟩ := hz.shape
        replace hz := Lib.hid hz
        go_wp2
        go_ret2
        exact ⟨_, _, rfl, Below.step b1 b2, ⟨by rw [hp.out]; rfl, ⟨fun _ => by rw [Int.toNat_natCast, Int.toNat_natCast]; exact hz.out.step b1.size, fun q => absurd hp.out q⟩⟩⟩
end Go.Proofs.YthnkdiejmclmkaaDoor

namespace Go.Proofs.YthnkdiejmclmkaaDoor
open Go.RowKit
set_option maxRecDepth 100000

/-- Arrows to v now lead to n. -/
def mapW (v n : Nat) (l : List Int) : List Int := l.map fun t => if t = (v : Int) then (n : Int) else t
theorem mapW_len (v n : Nat) (l : List Int) : (mapW v n l).length = l.length := by simp [mapW]
/-- The lists behind the first k. -/
def wideTo (G : List (List Int)) (v k : Nat) : Nat → List Int := fun u => if u < k then mapW v G.length (G.getD u []) else []
def wideG (G : List (List Int)) (v : Nat) : List (List Int) := rowsOf (G.length + 1) (wideTo G v G.length)
/-- Within a list: the first j. -/
def midW (v n : Nat) (l : List Int) (j : Nat) : List Int := mapW v n (l.take j) ++ l.drop j
theorem midW_zero (v n : Nat) (l : List Int) : midW v n l 0 = l := by simp [midW, mapW]
theorem midW_full (v n : Nat) (l : List Int) : midW v n l l.length = mapW v n l := by simp [midW]
theorem midW_len (v n : Nat) (l : List Int) (j : Nat) (hj : j ≤ l.length) : (midW v n l j).length = l.length := by simp [midW, mapW_len]; omega
theorem mapW_append (v n : Nat) (a b : List Int) : mapW v n (a ++ b) = mapW v n a ++ mapW v n b := by unfold mapW; exact List.map_append
theorem midW_next (v n : Nat) (l : List Int) (j : Nat) (hj : j < l.length) : midW v n l (j + 1) = mapW v n (l.take j) ++ (if l[j] = (v : Int) then (n : Int) else l[j]) :: l.drop (j + 1) := by
  unfold midW
  rw [take_snoc l j hj, mapW_append, List.append_assoc]
  rfl
theorem midW_now (v n : Nat) (l : List Int) (j : Nat) (hj : j < l.length) : midW v n l j = mapW v n (l.take j) ++ l[j] :: l.drop (j + 1) := by
  unfold midW
  rw [← List.drop_eq_getElem_cons hj]
theorem midW_step (v n : Nat) (l : List Int) (j : Nat) (hj : j < l.length) : midW v n l (j + 1) = (midW v n l j).set j (if l[j] = (v : Int) then (n : Int) else l[j]) := by
  have hl : (mapW v n (l.take j)).length = j := by rw [mapW_len, List.length_take]; omega
  rw [midW_next v n l j hj, midW_now v n l j hj, List.set_append_right _ _ (by omega), hl, Nat.sub_self, List.set_cons_zero]
theorem midW_same (v n : Nat) (l : List Int) (j : Nat) (hj : j < l.length) (he : l[j] ≠ (v : Int)) : midW v n l (j + 1) = midW v n l j := by
  rw [midW_next v n l j hj, midW_now v n l j hj, if_neg he]
theorem updN_updN {α : Type} (f : Nat → α) (k : Nat) (a b : α) : updN (updN f k a) k b = updN f k b := by
  funext x
  by_cases e : x = k
  · subst e; rw [updN_same, updN_same]
  · rw [updN_other _ _ _ e, updN_other _ _ _ e, updN_other _ _ _ e]
theorem wideTo_succ (G : List (List Int)) (v k : Nat) : updN (wideTo G v k) k (mapW v G.length (G.getD k [])) = wideTo G v (k + 1) := by
  funext u
  unfold wideTo
  by_cases e : u = k
  · subst e; rw [updN_same, if_pos (by omega)]
  · rw [updN_other _ _ _ e]
    by_cases q : u < k
    · rw [if_pos q, if_pos (by omega)]
    · rw [if_neg q, if_neg (by omega)]
theorem wideG_len (G : List (List Int)) (v : Nat) : (wideG G v).length = G.length + 1 := rowsOf_len _ _
theorem wideG_row (G : List (List Int)) (v u : Nat) (hu : u < G.length) : (wideG G v).getD u [] = mapW v G.length (G.getD u []) := by
  unfold wideG
  rw [rowsOf_get _ _ _ (by omega)]
  exact if_pos hu
theorem wideG_last (G : List (List Int)) (v : Nat) : (wideG G v).getD G.length [] = [] := by
  unfold wideG
  rw [rowsOf_get _ _ _ (by omega)]
  exact if_neg (by omega)
theorem wideG_ok {G : List (List Int)} (hok : GraphOk G) (v : Nat) : GraphOk (wideG G v) := by
  intro u hu t ht
  rw [wideG_len] at hu ⊢
  by_cases e : u < G.length
  · rw [wideG_row G v u e] at ht
    obtain ⟨x, hx, rfl⟩ := List.mem_map.1 ht
    have := hok u e x hx
    split <;> omega
  · obtain rfl : u = G.length := by omega
    rw [wideG_last] at ht; cases ht
theorem wide_adj {G : List (List Int)} (hok : GraphOk G) (v : Nat) {u : Nat} (hu : u < G.length) (t : Nat) : t ∈ adjOf (wideG G v) u ↔ (t ≠ v ∧ t ∈ adjOf G u ∧ t < G.length) ∨ (t = G.length ∧ v ∈ adjOf G u) := by
  unfold adjOf
  rw [wideG_row G v u hu]
  simp only [List.mem_map, mapW]
  constructor
  · rintro ⟨y, ⟨x, hx, rfl⟩, rfl⟩
    have := hok u hu x hx
    by_cases e : x = (v : Int)
    · rw [if_pos e]; exact .inr ⟨by simp, x, hx, by rw [e]; simp⟩
    · rw [if_neg e]; exact .inl ⟨by omega, ⟨x, hx, rfl⟩, by omega⟩
  · rintro (⟨h1, ⟨x, hx, rfl⟩, _⟩ | ⟨rfl, x, hx, he⟩)
    · have := hok u hu x hx
      exact ⟨x, ⟨x, hx, if_neg (by omega)⟩, rfl⟩
    · have := hok u hu x hx
      exact ⟨(G.length : Int), ⟨x, hx, if_pos (by omega)⟩, by simp⟩
theorem wide_end (G : List (List Int)) (v : Nat) : adjOf (wideG G v) G.length = [] := by unfold adjOf; rw [wideG_last]; rfl
/-- What Loop tells of its arguments. -/
def loopE (G : List (List Int)) (a : Int) : PErr :=
  match checkG G with
  | some t => some t
  | none => if outG G a then fresh sGraph 1 3 else none
theorem loopE_ok {G : List (List Int)} {x : Nat} (hc : checkG G = none) (hx : x < G.length) : loopE G x = none := by
  unfold loopE
  rw [hc]
  dsimp only
  rw [if_neg (by unfold outG; omega)]
def LoopWay (w : World) (G : List (List Int)) (v : Nat) (x : Value) (w' : World) : Prop :=
  (∃ u, IsFirst (adjOf (wideG G v)) v G.length u ∧ OwnI w.heap.size w' x (castI u.dropLast)) ∨ (¬ Goes (adjOf (wideG G v)) v G.length ∧ x = .slice none 0 0)
/-- What Loop leaves. -/
def LoopPost (r : Nat → Addr) (w : World) (G : List (List Int)) (a : Int) (x y : Value) (w' : World) : Prop :=
  ErrIs r w' (loopE G a) y ∧ (loopE G a = none → LoopWay w G a.toNat x w') ∧ (loopE G a ≠ none → x = .slice none 0 0)
/-- One's own slice, cut at its end. -/
theorem OwnI.cut {B : Nat} {w : World} {g m c : Nat} {xs : List Int} (h : OwnI B w (.slice (some ⟨g, 0, none⟩) (m + 1) c) xs) (hl : xs.length = m + 1) : OwnI B w (.slice (some ⟨g, 0, none⟩) m c) (xs.take m) := by
  rcases h.2 with ⟨e, _⟩ | ⟨g', cap', cur, e, hB, hg, hn, hm, hs, ht⟩
  · cases e
  · injection e with e1 e2 e3
    injection e1 with e1
    injection e1 with e1
    subst e1; subst e3
    have hml : (xs.take m).length = m := by simp; omega
    refine ⟨by simp, .inr ⟨g, c, cur, by rw [hml], hB, hg, by rw [hml]; omega, hm, hs, ?_⟩⟩
    rw [hml]
    rw [hl] at ht
    have := congrArg (List.take m) ht
    rw [List.take_take] at this
    simp only [Nat.mul_one] at this ⊢
    rw [Nat.min_eq_left (by omega)] at this
    rw [this, List.map_take]

set_option maxHeartbeats 1000000 in
theorem loopG_any (r : Nat → Addr) (na : Option Addr) (nc : Nat) (G : List (List Int)) (a : Int) (w : World) (hg : Glob r w) (h : ListsAt w (.slice na G.length nc) G) (hsz : ∀ k, k < G.length → (G.getD k []).length ≤ 17592186044416) :
    Calls Tryd.prog 102 #[.slice na G.length nc, .int .i64 a] w (Ret2 (LoopPost r w G a) w) := by
  have hC := graph_check r na nc G w hg h hsz
  cases hck : checkG G with
  | some t =>
    rw [hck] at hC
    have hp : loopE G a = some t := by unfold loopE; rw [hck]
    replace hp := Lib.hid hp
    replace hck := Lib.hid hck
    replace h := Lib.hid h
    replace hg := Lib.hid hg
    replace hsz := Lib.hid hsz
    go_enter Tryd.func102, Tryd.ntmps102
    go_wp2_with fail
    refine hC.mono ?_
    rintro e w1 ⟨y, rfl, b1, he⟩
    obtain ⟨T, p, rfl⟩ := he.some_shape
    replace he := Lib.hid he
    go_wp2
    go_ret2
    exact ⟨_, _, rfl, b1, ⟨by rw [hp.out]; exact he.out, ⟨fun q => (by rw [hp.out] at q; cases q), fun _ => rfl⟩⟩⟩
  | none =>
    rw [hck] at hC
    obtain ⟨hn, harr, hok⟩ := checkG_none hck
    by_cases ha : outG G a
    · have hp : loopE G a = fresh sGraph 1 3 := by unfold loopE; rw [hck]; dsimp only; rw [if_pos ha]
      replace hp := Lib.hid hp
      replace hck := Lib.hid hck
      replace h := Lib.hid h
      replace hg := Lib.hid hg
      replace hsz := Lib.hid hsz
      replace hok := Lib.hid hok
      rcases ha with ha | ha
      · go_enter Tryd.func102, Tryd.ntmps102
        go_wp2_with fail
        refine hC.mono ?_
        rintro e w1 ⟨y, rfl, b1, he⟩
        obtain rfl := he.none_eq
        clear he hC
        go_wp2_with fail
        refine (graph_wrong r _ _ _ (hg.out.below b1) (by decide) (by decide)).mono ?_
        rintro e w2 ⟨y, rfl, b2, he⟩
        replace he := Lib.hid he
        go_wp2
        go_ret2
        exact ⟨_, _, rfl, Below.step b1 b2, ⟨by rw [hp.out]; exact he.out, ⟨fun q => (by rw [hp.out] at q; cases q), fun _ => rfl⟩⟩⟩
      · have ha0 : ¬ a < 0 := by omega
        go_enter Tryd.func102, Tryd.ntmps102
        go_wp2_with fail
        refine hC.mono ?_
        rintro e w1 ⟨y, rfl, b1, he⟩
        obtain rfl := he.none_eq
        clear he hC
        go_wp2_with fail
        refine (graph_wrong r _ _ _ (hg.out.below b1) (by decide) (by decide)).mono ?_
        rintro e w2 ⟨y, rfl, b2, he⟩
        replace he := Lib.hid he
        go_wp2
        go_ret2
        exact ⟨_, _, rfl, Below.step b1 b2, ⟨by rw [hp.out]; exact he.out, ⟨fun q => (by rw [hp.out] at q; cases q), fun _ => rfl⟩⟩⟩
    · have ha1 : 0 ≤ a ∧ a < G.length := by unfold outG at ha; omega
      obtain ⟨ha1, ha2⟩ := ha1
      obtain ⟨v, rfl⟩ := Int.eq_ofNat_of_zero_le ha1
      have hv : v < G.length := by omega
      have hp : loopE G (v : Int) = none := loopE_ok hck hv
      have hd1 : decide ((v : Int) < 0) = false := by simp
      have hd2 : decide (G.length ≤ v) = false := by simp; omega
      clear ha ha1 ha2
      replace hp := Lib.hid hp
      replace hck := Lib.hid hck
      replace h := Lib.hid h
      replace hg := Lib.hid hg
      replace hsz := Lib.hid hsz
      replace hok := Lib.hid hok
      go_enter Tryd.func102, Tryd.ntmps102
      go_wp2_with fail
      refine hC.mono ?_
      rintro e w1 ⟨y', rfl, b1, he⟩
      obtain rfl := he.none_eq
      clear he hC
      obtain ⟨ov, w2, mk, ho, hb2⟩ := run_makeW oneLists ((G.length : Int) + 1) (G.length + 1) w1 (by omega) (by omega)
      obtain ⟨f1, hr1, h1⟩ := WN.made (G.length + 1) hb2 (Nat.le_refl _) ho
      have h1 : WN f1 ov (List.replicate (G.length + 1) (.slice none 0 0)) (G.length + 1) (wideTo G v 0) := by
        have : (fun _ : Nat => ([] : List Int)) = wideTo G v 0 := by funext u; unfold wideTo; rw [if_neg (by omega)]
        rw [← this]; exact h1
      obtain ⟨oa, on, oc, rfl⟩ := ho.shape
      replace ho := Lib.hid ho
      replace hr1 := Lib.hid hr1
      go_wp2_with fail
      clear mk
      go_loopw [35] (fun kv wr => ∃ (k : Nat) (f : Names) (vals : List Value), k ≤ G.length ∧ kv = .int .i64 k ∧ Rows w1.heap.size wr f ∧ Below w1.heap.size w1 wr ∧ WN f (.slice oa on oc) vals (G.length + 1) (wideTo G v k)) (fun kv _ => G.length - (intOf kv).toNat)
      case atStart => exact ⟨0, f1, _, by omega, rfl, hr1.out, hb2, h1⟩
      case round =>
        clear h1 ho hr1
        obtain ⟨k, f2, vals, hk, rfl, hr2, b2, h2⟩ := hrel
        obtain ⟨wo, rfl⟩ : ∃ wo : World, wo = wr := ⟨_, rfl⟩
        by_cases hlt : k < G.length
        · obtain ⟨mv, iR, cR0, hM0⟩ := h.out.row k hlt
          have hbw : Below w.heap.size w wo := b1.trans (b2.mono b1.size)
          have cR := (hbw.cell (World.block_lt_of_cell? _ _ cR0)).trans cR0
          have hM := hM0.below hbw
          have hglen := hsz.out k hlt
          have hsucc := wideTo_succ G v k
          generalize G.getD k [] = gk at *
          have hcl := clone_any mv gk wo hM hglen
          have hOV := (hr2.ownV h2.outer).at
          have iO := fun w' => hOV.idx oneLists k (by rw [h2.len]; omega) w'
          have hput := fun (w1' : World) (v' : Value) (xs : List Int) => h2.put (B := w1.heap.size) (w1 := w1') (u := k) (by omega) (v' := v') (xs := xs)
          have hnew := fun (w1' : World) (v' : Value) (xs : List Int) => h2.new (B := w1.heap.size) hr2 (w1 := w1') k (v' := v') (xs := xs)
          have hBo := b2.size
          generalize valAt (.slice na G.length nc) k = ra at *
          obtain ⟨ua, hua⟩ : ∃ ua, valAt (.slice oa on oc) k = ua := ⟨_, rfl⟩
          rw [hua] at iO
          simp only [hua] at hput
          replace hua := Lib.hid hua
          replace hput := Lib.hid hput
          replace hnew := Lib.hid hnew
          replace hOV := Lib.hid hOV
          replace hr2 := Lib.hid hr2
          replace hM := Lib.hid hM
          replace hM0 := Lib.hid hM0
          replace hcl := Lib.hid hcl
          replace hsucc := Lib.hid hsucc
          go_wp2_with fail
          clear cR cR0 iR hbw
          refine hcl.out.mono ?_
          rintro e w3 ⟨cv, rfl, b3, hcv⟩
          have hR3 := hnew.out w3 cv gk b3 hBo hcv
          obtain ⟨y1, y2, y3, f4, hr4, h4, _⟩ := hput.out w3 cv gk hR3
          obtain ⟨va, vn, vc, rfl⟩ := hcv.at.shape
          have b4 : Below w1.heap.size w1 (w3.setCell ua (.slice va vn vc)) := (b2.trans (b3.mono hBo)).setCell y3 _
          have h4 : WN f4 (.slice oa on oc) (vals.set k (.slice va vn vc)) (G.length + 1) (updN (wideTo G v k) k (midW v G.length gk 0)) := by rw [midW_zero]; exact h4
          have lM := (hM0.out.below (b1.trans (b4.mono b1.size))).len
          obtain ⟨W4, hW4⟩ : ∃ W4 : World, W4 = w3.setCell ua (.slice va vn vc) := ⟨_, rfl⟩
          rw [← hW4] at hr4 b4
          replace hr4 := Lib.hid hr4
          replace hR3 := Lib.hid hR3
          replace hcv := Lib.hid hcv
          clear hcl
          go_upto_region 12 with fail
          rw [← hW4]
          clear hW4 y1 y2 iO
          go_wp2_with fail
          clear lM
          generalize vals.set k (.slice va vn vc) = vals at *
          go_loopw [47] (fun jv wr => ∃ (j : Nat) (f : Names) (vals : List Value), j ≤ gk.length ∧ jv = .int .i64 j ∧ Rows w1.heap.size wr f ∧ Below w1.heap.size w1 wr ∧ WN f (.slice oa on oc) vals (G.length + 1) (updN (wideTo G v k) k (midW v G.length gk j))) (fun jv _ => gk.length - (intOf jv).toNat)
          case atStart => exact ⟨0, f4, _, by omega, rfl, hr4.out, b4, h4⟩
          case round =>
            clear hr4 h4 b4 hR3 hcv hM hr2 hnew hput hOV y3
            obtain ⟨j, f5, vals, hj, rfl, hr5, b5, h5⟩ := hrel
            obtain ⟨wo, rfl⟩ : ∃ wo : World, wo = wr := ⟨_, rfl⟩
            by_cases hjl : j < gk.length
            · have hMj := hM0.out.below (b1.trans (b5.mono b1.size))
              have iJ := fun w' => hMj.idx j hjl w'
              have cJ := hMj.cell j hjl
              generalize valAt mv j = ja at *
              have hstep := midW_step v G.length gk j hjl
              have hsame := midW_same v G.length gk j hjl
              obtain ⟨t, ht⟩ : ∃ t, gk[j] = t := ⟨_, rfl⟩
              rw [ht] at cJ hstep hsame
              replace hMj := Lib.hid hMj
              replace ht := Lib.hid ht
              by_cases htv : t = (v : Int)
              · have hq : (t == (v : Int)) = true := by simp [htv]
                rw [if_pos htv] at hstep
                have hOV := (hr5.ownV h5.outer).at
                have iO := fun w' => hOV.idx oneLists k (by rw [h5.len]; omega) w'
                have cO := hOV.cellV k (by rw [h5.len]; omega)
                have hrow := hr5.ownI (h5.rows k (by omega))
                rw [updN_same] at hrow
                have hml : (midW v G.length gk j).length = gk.length := midW_len _ _ _ _ hj
                have iE := fun w' => hrow.at.idx j (by rw [hml]; exact hjl) w'
                have cE := hrow.at.cellD j (by rw [hml]; exact hjl)
                have fE := hrow.frz j (by rw [hml]; exact hjl)
                have kE := (hrow.toV.blkB j (by rw [List.length_map, hml]; exact hjl)).2
                obtain ⟨f6, hr6, h6⟩ := h5.elem hr5 k (by omega) j (by rw [updN_same, hml]; exact hjl) (G.length : Int)
                rw [updN_same, ← hstep, updN_updN] at h6
                have b6 : Below w1.heap.size w1 (wo.setCell (valAt (vAt vals k) j) (.int .i64 (G.length : Int))) := b5.setCell kE _
                generalize valAt (vAt vals k) j = ea at *
                generalize vAt vals k = ev at *
                generalize valAt (.slice oa on oc) k = ua at *
                generalize (midW v G.length gk j).getD j 0 = eo at *
                subst htv
                replace hr6 := Lib.hid hr6
                replace hr5 := Lib.hid hr5
                replace hOV := Lib.hid hOV
                replace hrow := Lib.hid hrow
                replace hstep := Lib.hid hstep
                replace hsame := Lib.hid hsame
                replace hml := Lib.hid hml
                go_wp2
                go_roundw
                case measure => simp [intOf]; omega
                case rel => exact ⟨j + 1, f6, vals, by omega, by go_num, hr6.out, b6, h6⟩
              · have hq : (t == (v : Int)) = false := by simp [htv]
                have h6 := h5
                rw [← hsame htv] at h6
                replace hr5 := Lib.hid hr5
                replace hstep := Lib.hid hstep
                replace hsame := Lib.hid hsame
                go_wp2
                go_roundw
                case measure => simp [intOf]; omega
                case rel => exact ⟨j + 1, f5, vals, by omega, by go_num, hr5.out, b5, h6⟩
            · obtain rfl : j = gk.length := by omega
              rw [midW_full, hsucc.out] at h5
              replace hr5 := Lib.hid hr5
              go_wp2
              go_roundw
              case measure => simp [intOf]; omega
              case rel => exact ⟨k + 1, f5, vals, by omega, by go_num, hr5.out, b5, h5⟩
        · obtain rfl : k = G.length := by omega
          have hWL := h2.lists hr2
          have hWL : ListsAt wo (.slice oa on oc) (wideG G v) := hWL
          obtain ⟨oa', oc', he⟩ := hWL.shape
          injection he with he1 he2 he3
          clear he1 he3
          rw [he2] at hWL
          have hF := first_any oa oc (wideG G v) v G.length wo hWL (wideG_ok hok.out v) (by rw [wideG_len]; omega) (by rw [wideG_len]; omega) (by rw [wideG_len]; omega) (fun u hu => by
            rw [wideG_len] at hu
            by_cases e : u < G.length
            · rw [wideG_row G v u e, mapW_len]; exact hsz.out u e
            · obtain rfl : u = G.length := by omega
              rw [wideG_last]; exact Nat.zero_le _)
          rw [← he2] at hF
          replace hF := Lib.hid hF
          replace he2 := Lib.hid he2
          replace hWL := Lib.hid hWL
          replace hr2 := Lib.hid hr2
          go_wp2_with fail
          refine hF.out.mono ?_
          rintro e w5 ⟨xv, rfl, b5, hx⟩
          have hbw : Below w.heap.size w wo := b1.trans (b2.mono b1.size)
          rcases hx with ⟨u, hu, hxo⟩ | ⟨hno, rfl⟩
          · have hul := hu.way.pos
            obtain ⟨g, c, e1, e2⟩ := row_shape (show w5.ownsRow wo.heap.size 3 1 xv (castI u).length ((castI u).map (Value.int .i64)) from hxo) (by rw [castI_len]; exact hul)
            obtain ⟨m, hm⟩ : ∃ m, u.length = m + 1 := ⟨u.length - 1, by omega⟩
            rw [castI_len, hm] at e1 e2
            subst e1
            have hcut := hxo.cut (by rw [castI_len, hm])
            have hdl : (castI u).take m = castI u.dropLast := by
              unfold castI
              rw [List.dropLast_eq_take, hm, ← List.map_take]; rfl
            rw [hdl] at hcut
            have hmb : m ≤ 9223372036854775806 := by
              have := hxo.at.len_le
              rw [castI_len, hm] at this; omega
            have hwr : IntKind.i64.wrap (m : Int) = m := wrapK (by omega) (by omega)
            have hsl : (0 ≤ (m : Int) ∧ (m : Int) ≤ (c : Int)) := ⟨by omega, by omega⟩
            have hne : (((m : Int) + 1) == 0) = false := by rw [beq_eq_false_iff_ne]; omega
            replace hcut := Lib.hid hcut
            replace hxo := Lib.hid hxo
            replace hdl := Lib.hid hdl
            replace hm := Lib.hid hm
            go_wp2
            go_ret2
            exact ⟨_, _, rfl, Below.step hbw b5, ⟨by rw [hp.out]; rfl, ⟨fun _ => by rw [Int.toNat_natCast]; exact .inl ⟨u, hu, hcut.out.mono hbw.size⟩, fun q => absurd hp.out q⟩⟩⟩
          · replace hno := Lib.hid hno
            go_wp2
            go_ret2
            exact ⟨_, _, rfl, Below.step hbw b5, ⟨by rw [hp.out]; rfl, ⟨fun _ => by rw [Int.toNat_natCast]; exact .inr ⟨hno.out, rfl⟩, fun q => absurd hp.out q⟩⟩⟩
end Go.Proofs.YthnkdiejmclmkaaDoor

namespace Go.Proofs.YthnkdiejmclmkaaDoor
open Go.RowKit
set_option maxRecDepth 100000

def sixG : List (List Int) := [[1], [2], [1, 3], [4], [4], [0]]
theorem six_check : checkG sixG = none := by rfl
theorem six_ok : GraphOk sixG := (checkG_none six_check).2.2
theorem six_sz : ∀ k, k < sixG.length → (sixG.getD k []).length ≤ 17592186044416 := by
  intro k hk
  have : k < 6 := hk
  match k, this with
  | 0, _ => decide
  | 1, _ => decide
  | 2, _ => decide
  | 3, _ => decide
  | 4, _ => decide
  | 5, _ => decide
/-- A number for each vertex that no arrow lowers. -/
def rk6 (v : Nat) : Nat := [1, 2, 2, 3, 4, 0].getD v 9
theorem adj6 (v : Nat) : adjOf sixG v = [[1], [2], [1, 3], [4], [4], [0]].getD v [] := by
  match v with
  | 0 => rfl
  | 1 => rfl
  | 2 => rfl
  | 3 => rfl
  | 4 => rfl
  | 5 => rfl
  | n + 6 => rfl
theorem rk6_step {x t : Nat} (ht : t ∈ adjOf sixG x) : rk6 x ≤ rk6 t := by
  rw [adj6] at ht
  match x, ht with
  | 0, ht => simp at ht; subst ht; decide
  | 1, ht => simp at ht; subst ht; decide
  | 2, ht => simp at ht; rcases ht with rfl | rfl <;> decide
  | 3, ht => simp at ht; subst ht; decide
  | 4, ht => simp at ht; subst ht; decide
  | 5, ht => simp at ht; subst ht; decide
  | n + 6, ht => simp at ht
theorem rk6_goes {x y : Nat} (h : Goes (adjOf sixG) x y) : rk6 x ≤ rk6 y := by
  induction h with
  | refl => exact Nat.le_refl _
  | step _ hz ih => exact Nat.le_trans ih (rk6_step hz)
theorem g01 : Goes (adjOf sixG) 0 1 := .one (by rw [adj6]; decide)
theorem g12 : Goes (adjOf sixG) 1 2 := .one (by rw [adj6]; decide)
theorem g21 : Goes (adjOf sixG) 2 1 := .one (by rw [adj6]; decide)
theorem g23 : Goes (adjOf sixG) 2 3 := .one (by rw [adj6]; decide)
theorem g34 : Goes (adjOf sixG) 3 4 := .one (by rw [adj6]; decide)
theorem six_parts {ps : List Int} (h : PartsOf sixG.length (adjOf sixG) ps) : ps = [0, 1, 1, 2, 3, 4] := by
  obtain ⟨p, hp, rfl⟩ := h
  have ne : ∀ x y, x < 6 → y < 6 → rk6 x ≠ rk6 y → p x ≠ p y := fun x y hx hy hr he => by
    obtain ⟨a, b⟩ := (hp x y hx hy).1 he
    have := rk6_goes a
    have := rk6_goes b
    omega
  have e12 : p 2 = p 1 := (hp 2 1 (by decide) (by decide)).2 ⟨g21, g12⟩
  have h10 := ne 1 0 (by decide) (by decide) (by decide)
  have h30 := ne 3 0 (by decide) (by decide) (by decide)
  have h31 := ne 3 1 (by decide) (by decide) (by decide)
  have h40 := ne 4 0 (by decide) (by decide) (by decide)
  have h41 := ne 4 1 (by decide) (by decide) (by decide)
  have h43 := ne 4 3 (by decide) (by decide) (by decide)
  have h50 := ne 5 0 (by decide) (by decide) (by decide)
  have h51 := ne 5 1 (by decide) (by decide) (by decide)
  have h53 := ne 5 3 (by decide) (by decide) (by decide)
  have h54 := ne 5 4 (by decide) (by decide) (by decide)
  have o0 : numO p 0 = 0 := by simp [numO, numM, updM]
  have o1 : numO p 1 = 1 := by simp [numO, numM, updM, h10]
  have o2 : numO p 2 = 1 := by rw [(numO_eq p 2 1).2 e12]; exact o1
  have m2 : numM p 3 = numM p 2 := by
    show (if _ then _ else _) = _
    rw [if_pos]
    rw [e12]
    have := numM_own p 1
    rw [this]; rfl
  have m2s : (numM p 2).2 = 2 := by simp [numM, updM, h10]
  have m2n : ∀ q, q ≠ p 0 → q ≠ p 1 → (numM p 2).1 q = none := fun q h0 h1 => by simp [numM, updM, h10, h0, h1]
  have m3 : numM p 4 = (updM (numM p 2).1 (p 3) 2, 3) := by
    show (if ((numM p 3).1 (p 3)).isSome then _ else _) = _
    rw [m2, m2n _ h30 h31, m2s]; rfl
  have o3 : numO p 3 = 2 := by unfold numO; rw [m3]; simp [updM]
  have m4 : numM p 5 = (updM (updM (numM p 2).1 (p 3) 2) (p 4) 3, 4) := by
    have e : (updM (numM p 2).1 (p 3) 2) (p 4) = none := by unfold updM; rw [if_neg h43]; exact m2n _ h40 h41
    show (if ((numM p 4).1 (p 4)).isSome then _ else _) = _
    rw [if_neg (by rw [m3]; show ¬ ((updM (numM p 2).1 (p 3) 2) (p 4)).isSome = true; rw [e]; decide), m3]; rfl
  have o4 : numO p 4 = 3 := by unfold numO; rw [m4]; simp [updM]
  have m5 : numM p 6 = (updM (updM (updM (numM p 2).1 (p 3) 2) (p 4) 3) (p 5) 4, 5) := by
    have e : (updM (updM (numM p 2).1 (p 3) 2) (p 4) 3) (p 5) = none := by unfold updM; rw [if_neg h54, if_neg h53]; exact m2n _ h50 h51
    show (if ((numM p 5).1 (p 5)).isSome then _ else _) = _
    rw [if_neg (by rw [m4]; show ¬ ((updM (updM (numM p 2).1 (p 3) 2) (p 4) 3) (p 5)).isSome = true; rw [e]; decide), m4]; rfl
  have o5 : numO p 5 = 4 := by unfold numO; rw [m5]; simp [updM]
  show [numO p 0, numO p 1, numO p 2, numO p 3, numO p 4, numO p 5] = _
  rw [o0, o1, o2, o3, o4, o5]
theorem six_live {L : List Nat} (h : LiveList sixG.length (adjOf sixG) L) : L = [1, 2, 3, 4] := by
  refine h.unique ⟨by decide, fun v => ?_⟩
  have l1 : OnLoop (adjOf sixG) 1 := ⟨2, by rw [adj6]; decide, g21⟩
  have l4 : OnLoop (adjOf sixG) 4 := ⟨4, by rw [adj6]; decide, .refl 4⟩
  have onl : ∀ u, OnLoop (adjOf sixG) u → u < 6 → 2 ≤ rk6 u := fun u ⟨t, ht, hg⟩ hu => by
    rw [adj6] at ht
    match u, ht, hu with
    | 0, ht, _ => simp at ht; subst ht; have := rk6_goes hg; exact absurd this (by decide)
    | 1, _, _ => decide
    | 2, _, _ => decide
    | 3, _, _ => decide
    | 4, _, _ => decide
    | 5, ht, _ => simp at ht; subst ht; have := rk6_goes hg; exact absurd this (by decide)
    | n + 6, _, hu => omega
  constructor
  · intro hv
    simp at hv
    rcases hv with rfl | rfl | rfl | rfl
    · exact ⟨by decide, ⟨1, by decide, l1, .refl 1⟩, 4, by decide, l4, g12.trans (g23.trans g34)⟩
    · exact ⟨by decide, ⟨1, by decide, l1, g12⟩, 4, by decide, l4, g23.trans g34⟩
    · exact ⟨by decide, ⟨1, by decide, l1, g12.trans g23⟩, 4, by decide, l4, g34⟩
    · exact ⟨by decide, ⟨1, by decide, l1, g12.trans (g23.trans g34)⟩, 4, by decide, l4, .refl 4⟩
  · rintro ⟨hv, ⟨u, hu, h1, h2⟩, _⟩
    have a := onl u h1 hu
    have b := rk6_goes h2
    have hv : v < 6 := hv
    match v, hv, b with
    | 0, _, b => exact absurd (Nat.le_trans a b) (by decide)
    | 1, _, _ => decide
    | 2, _, _ => decide
    | 3, _, _ => decide
    | 4, _, _ => decide
    | 5, _, b => exact absurd (Nat.le_trans a b) (by decide)
    | n + 6, hv, _ => omega
/-- How many arrows to 4, at the least. -/
def ds6 (v : Nat) : Nat := [4, 3, 2, 1, 0, 5].getD v 9
theorem ds6_way {x y : Nat} {w : List Nat} (h : Way (adjOf sixG) x y w) : y = 4 → ds6 x + 1 ≤ w.length := by
  induction h with
  | one x => intro h; subst h; decide
  | @cons x t y w ht h ih =>
    intro hy
    have := ih hy
    have hx : ds6 x ≤ ds6 t + 1 := by
      rw [adj6] at ht
      match x, ht with
      | 0, ht => simp at ht; subst ht; decide
      | 1, ht => simp at ht; subst ht; decide
      | 2, ht => simp at ht; rcases ht with rfl | rfl <;> decide
      | 3, ht => simp at ht; subst ht; decide
      | 4, ht => simp at ht; subst ht; decide
      | 5, ht => simp at ht; subst ht; decide
      | n + 6, ht => simp at ht
    simp only [List.length_cons]; omega
theorem six_path {u : List Nat} (h : IsFirst (adjOf sixG) 0 4 u) : u = [0, 1, 2, 3, 4] := by
  have hw : Way (adjOf sixG) 0 4 [0, 1, 2, 3, 4] := .cons (by rw [adj6]; decide) (.cons (by rw [adj6]; decide) (.cons (by rw [adj6]; decide) (.cons (by rw [adj6]; decide) (.one 4))))
  have h5 := h.short _ hw
  have hu := h.way
  cases hu with
  | cons ht h1 =>
    rw [adj6] at ht; simp at ht; subst ht
    cases h1 with
    | cons ht h2 =>
      rw [adj6] at ht; simp at ht; subst ht
      cases h2 with
      | cons ht h3 =>
        rw [adj6] at ht; simp at ht
        rcases ht with rfl | rfl
        · have := ds6_way h3 rfl
          simp only [List.length_cons] at h5
          have e : ds6 1 = 3 := rfl
          simp at h5
          omega
        · cases h3 with
          | cons ht h4 =>
            rw [adj6] at ht; simp at ht; subst ht
            cases h4 with
            | one => rfl
            | cons ht h6 =>
              have := h6.pos
              simp only [List.length_cons, List.length_nil] at h5
              omega
theorem six_goes : Goes (adjOf sixG) 0 4 := g01.trans (g12.trans (g23.trans g34))

end Go.Proofs.YthnkdiejmclmkaaDoor

namespace Go.Proofs.YthnkdiejmclmkaaDoor
open Go.RowKit
set_option maxRecDepth 100000

theorem lit_ints (w : World) (xs : List Int) (cs : Array Value) (hc : cs.toList = xs.map (Value.int .i64)) (hl : xs.length ≤ 10) : IntsAt (w.alloc (.cells cs 3)) (.slice (some ⟨w.heap.size, 0, none⟩) xs.length xs.length) xs :=
  (OwnI.lit w.heap.size w (Nat.le_refl _) xs (by unfold maxLen; omega) cs hc xs.length rfl).at

/-- heavy: what it tells of lists that are not. -/
def HeavyPost (G : List (List Int)) (x : Value) : Prop := ∃ b : Bool, x = .bool b ∧ (b = false → G.length ≤ 300 ∧ arrowsTo G G.length ≤ 4000)
/-- vertex: what it tells where it says yes. -/
def VertexPost (G : List (List Int)) (a : Int) (x : Value) : Prop := ∃ b : Bool, x = .bool b ∧ (b = true → G.length ≤ 300 ∧ arrowsTo G G.length ≤ 4000 ∧ checkG G = none ∧ ∃ v : Nat, a = v ∧ v < G.length)
end Go.Proofs.YthnkdiejmclmkaaDoor

namespace Go.Proofs.YthnkdiejmclmkaaDoor
open Go.RowKit
set_option maxRecDepth 100000

/-- Vertices, each led to by an arrow from the one ahead. -/
def ChainOk (G : List (List Int)) (u : List Nat) : Prop := ∀ i x, u[i]? = some x → x < G.length ∧ ∀ j y, i = j + 1 → u[j]? = some y → (x : Int) ∈ G.getD y []
theorem adj_mem {G : List (List Int)} (hok : GraphOk G) {y x : Nat} (hy : y < G.length) (h : x ∈ adjOf G y) : (x : Int) ∈ G.getD y [] := by
  obtain ⟨z, hz, rfl⟩ := List.mem_map.1 h
  have := hok y hy z hz
  rwa [Int.toNat_of_nonneg this.1]
theorem way_chain {G : List (List Int)} (hok : GraphOk G) {x y : Nat} {w : List Nat} (h : Way (adjOf G) x y w) (hx : x < G.length) : ChainOk G w := by
  induction h with
  | one x =>
    intro i z hz
    have hi := get_of hz
    simp only [List.length_cons, List.length_nil] at hi
    obtain rfl : i = 0 := by omega
    injection hz with hz; subst hz
    exact ⟨hx, fun j y e => by omega⟩
  | @cons x t y w ht h ih =>
    have htn := hok.lt x hx t ht
    have ih := ih htn
    intro i z hz
    cases i with
    | zero => injection hz with hz; subst hz; exact ⟨hx, fun j y e => by omega⟩
    | succ i =>
      have hz' : w[i]? = some z := hz
      refine ⟨(ih i z hz').1, fun j y e hy => ?_⟩
      have e : j = i := by omega
      subst e
      cases j with
      | zero =>
        injection hy with hy; subst hy
        obtain ⟨w', rfl⟩ := h.ne
        injection hz' with hz'; subst hz'
        exact adj_mem hok hx ht
      | succ j => exact (ih (j + 1) z hz').2 j y rfl hy
theorem ChainOk.dropLast {G : List (List Int)} {u : List Nat} (h : ChainOk G u) : ChainOk G u.dropLast := by
  have up : ∀ i x, u.dropLast[i]? = some x → u[i]? = some x := fun i x hx => by
    rw [List.getElem?_dropLast] at hx
    split at hx
    · exact hx
    · cases hx
  intro i x hx
  exact ⟨(h i x (up i x hx)).1, fun j y e hy => (h i x (up i x hx)).2 j y e (up j y hy)⟩
theorem ChainOk.nil (G : List (List Int)) : ChainOk G [] := fun i x hx => by simp at hx

end Go.Proofs.YthnkdiejmclmkaaDoor

namespace Go.Proofs.YthnkdiejmclmkaaDoor
open Go.RowKit
set_option maxRecDepth 100000

/-- Quotient and rest of small numbers, as the machine reckons them. -/
theorem dm (p N : Nat) (hp : p ≤ 100000000) : (p : Int).tdiv (N : Int) = ((p / N : Nat) : Int) ∧ (p : Int).tmod (N : Int) = ((p % N : Nat) : Int) ∧ (p : Int) / (N : Int) = ((p / N : Nat) : Int) ∧ (p : Int) % (N : Int) = ((p % N : Nat) : Int) ∧
    IntKind.i64.wrap ((p / N : Nat) : Int) = ((p / N : Nat) : Int) ∧ IntKind.i64.wrap ((p % N : Nat) : Int) = ((p % N : Nat) : Int) := by
  have h1 : p / N ≤ p := Nat.div_le_self _ _
  have h2 : p % N ≤ p := Nat.mod_le _ _
  refine ⟨by rw [Int.tdiv_eq_ediv_of_nonneg (by omega)]; simp, by rw [Int.tmod_eq_emod_of_nonneg (by omega)]; simp, by simp, by simp, ?_, ?_⟩
  · generalize p / N = a at *; exact wrapK (by omega) (by omega)
  · generalize p % N = a at *; exact wrapK (by omega) (by omega)

theorem words1_any (x : Int) (b N : Nat) (w : World) (hN : N ≤ 10000) (hb : w.cell? ⟨b, 0, none⟩ = some (.int .i64 N)) :
    Calls Tryd.prog 68 #[.int .i64 x, .pointer (some ⟨b, 0, none⟩)] w fun e w' => e = .returned (.bool (odd1 ((N * N : Nat) : Int) x)) ∧ w = w' := by
  have hM : (N : Int) * (N : Int) = ((N * N : Nat) : Int) := by simp
  have hM2 := Nat.mul_le_mul hN hN
  by_cases h : x < 0
  · have e : odd1 ((N * N : Nat) : Int) x = true := by simp [odd1, h]
    rw [e]
    clear hM hM2
    go_enter Tryd.func68, Tryd.ntmps68
    go_wp2
    go_ret
    exact ⟨rfl, rfl⟩
  · have e : odd1 ((N * N : Nat) : Int) x = decide (((N * N : Nat) : Int) ≤ x) := by simp [odd1, h]
    rw [e]
    generalize N * N = M at *
    clear e
    go_enter Tryd.func68, Tryd.ntmps68
    go_wp2
    go_ret
    exact ⟨ret_bool (by simp), rfl⟩
theorem eg_words1 (args : Array Value) (w : World) : (callFunc 68 args).run Tryd.prog w = .ok (.enter 68 args) w := by kernel_rfl

set_option maxHeartbeats 1000000 in
theorem words2_any (K R x q : Nat) (w : World) (hk1 : 1 ≤ K) (hk4 : K ≤ 4) (hR : R ≤ 3) (hx : x ≤ 100000) (q0 : w.cell? ⟨q, 0, none⟩ = some (.int .i64 K)) (q1 : w.cell? ⟨q, 1, none⟩ = some (.int .i64 R)) :
    Calls Tryd.prog 69 #[.int .i64 x, .pointer (some ⟨q, 0, none⟩)] w (Ret1 (fun y w' => OwnI w.heap.size w' y (digs K (2 * R) x)) w) := by
  obtain ⟨ov, w1, mk, ho, hb1⟩ := run_makeI (2 * (R : Int)) (2 * R) w (by omega) (by omega)
  have lo := ho.at.len
  rw [List.length_replicate] at lo
  obtain ⟨oa, on, oc, rfl⟩ := ho.at.shape
  have hql := World.block_lt_of_cell? _ _ q0
  have hK0 : ((K : Int) == 0) = false := by rw [beq_eq_false_iff_ne]; omega
  have hK1 : ¬ (K : Int) = 0 := by omega
  have hK2 : (0 : Int) < K := by omega
  have hK3 : ¬ K = 0 := by omega
  obtain ⟨N, hN⟩ : ∃ N, 2 * R = N := ⟨_, rfl⟩
  have hN6 : N ≤ 6 := by omega
  rw [hN] at ho lo ⊢
  have hNi : 2 * (R : Int) = (N : Int) := by omega
  have hNw : IntKind.i64.wrap (N : Int) = N := wrapK (by omega) (by omega)
  rw [hNi] at mk
  replace ho := Lib.hid ho
  replace hN := Lib.hid hN
  go_enter Tryd.func69, Tryd.ntmps69
  go_wp2_with fail
  clear mk
  go_loopw [0, 12] (fun xv jv wr => ∃ j : Nat, j ≤ N ∧ jv = .int .i64 j ∧ xv = .int .i64 (x / pw K j : Nat) ∧ OwnI w.heap.size wr (.slice oa on oc) ((List.replicate N (0 : Int)).take (N - j) ++ (digs K N x).drop (N - j)) ∧ Below w.heap.size w wr) (fun _ jv _ => N - (intOf jv).toNat)
  case atStart => exact ⟨0, by omega, rfl, by simp [pw], by rw [Nat.sub_zero, List.drop_of_length_le (by rw [digs_length]; exact Nat.le_refl _), List.append_nil, List.take_of_length_le (by simp)]; exact ho.out, hb1⟩
  case round =>
    obtain ⟨j, hj, rfl, rfl, hO, hbI⟩ := hrel
    obtain ⟨wi, rfl⟩ : ∃ wi : World, wi = wr := ⟨_, rfl⟩
    by_cases hjl : j < N
    · have hXl : ((List.replicate N (0 : Int)).take (N - j) ++ (digs K N x).drop (N - j)).length = N := by simp only [List.length_append, List.length_take, List.length_replicate, List.length_drop, digs_length]; omega
      have i1 : ∀ w', (Instr.indexAt 22 (.slice oa on oc) (.int .i64 ((N : Int) - 1 - (j : Int)))).run Tryd.prog w' = .ok (.pointer (some (valAt (.slice oa on oc) (N - 1 - j)))) w' := by
        intro w'
        have := hO.at.idxI ((N : Int) - 1 - (j : Int)) (by omega) (by rw [hXl]; omega) w'
        rwa [show ((N : Int) - 1 - (j : Int)).toNat = N - 1 - j by omega] at this
      have c1 := hO.at.cellD (N - 1 - j) (by rw [hXl]; omega)
      have f1 := hO.frz (N - 1 - j) (by rw [hXl]; omega)
      have hS := hO.set (N - 1 - j) (by rw [hXl]; omega) ((x / pw K j % K : Nat) : Int)
      have hbS := hO.setBelow hbI (N - 1 - j) (by rw [hXl]; omega) (.int .i64 ((x / pw K j % K : Nat) : Int))
      rw [digs_fill K N x j hjl _ (by simp)] at hS
      have hqd : x / pw K j / K = x / pw K (j + 1) := by rw [Nat.div_div_eq_div_mul, ← pw_succ]
      have hql : x / pw K j ≤ 100000 := Nat.le_trans (Nat.div_le_self _ _) hx
      have y0 := (hbI.cell (p := ⟨q, 0, none⟩) (World.block_lt_of_cell? _ _ q0)).trans q0
      have hbe := hO.blkB (N - 1 - j) (by rw [hXl]; omega)
      generalize ((List.replicate N (0 : Int)).take (N - j) ++ (digs K N x).drop (N - j)).getD (N - 1 - j) 0 = y at c1
      have y0' : (wi.setCell (valAt (.slice oa on oc) (N - 1 - j)) (.int .i64 ((x / pw K j % K : Nat) : Int))).cell? ⟨q, 0, none⟩ = some (.int .i64 K) := (hbS.cell (p := ⟨q, 0, none⟩) (World.block_lt_of_cell? _ _ q0)).trans q0
      have hlen' := lo
      generalize valAt (.slice oa on oc) (N - 1 - j) = ya at *
      generalize x / pw K j = z at *
      obtain ⟨a1, a2, a3, a4, a5, a6⟩ := dm z K (by omega)
      obtain ⟨d, hd⟩ : ∃ d, z % K = d := ⟨_, rfl⟩
      obtain ⟨e, he⟩ : ∃ e, z / K = e := ⟨_, rfl⟩
      rw [hd] at a2 a4 a6 hS hbS y0'
      rw [he] at a1 a3 a5 hqd
      replace hS := Lib.hid hS
      replace hbS := Lib.hid hbS
      replace hqd := Lib.hid hqd
      replace hO := Lib.hid hO
      replace hd := Lib.hid hd
      replace he := Lib.hid he
      clear hXl
      go_wp2
      go_roundw
      case rel => exact ⟨j + 1, by omega, by go_num, by rw [← hqd.out], hS.out, hbS.out⟩
      case measure => simp [intOf]; omega
    · obtain rfl : j = N := by omega
      rw [Nat.sub_self, List.take_zero, List.drop_zero, List.nil_append] at hO
      replace hO := Lib.hid hO
      go_wp2
      go_ret
      exact ⟨_, rfl, hbI, hO.out⟩
theorem eg_words2 (args : Array Value) (w : World) : (callFunc 69 args).run Tryd.prog w = .ok (.enter 69 args) w := by kernel_rfl
end Go.Proofs.YthnkdiejmclmkaaDoor

namespace Go.Proofs.YthnkdiejmclmkaaDoor
open Go.RowKit
set_option maxRecDepth 100000

theorem tnodes_any (N : Nat) (w : World) (hN1 : 1 ≤ N) (hN : N ≤ 81) :
    Calls Tryd.prog 76 #[.int .i64 ((N * N : Nat) : Int)] w fun e w' => e = .returned (.int .i64 N) ∧ w = w' := by
  have hM6 : N * N ≤ 6561 := Nat.mul_le_mul hN hN
  obtain ⟨M, hM⟩ : ∃ M, N * N = M := ⟨_, rfl⟩
  rw [hM] at hM6 ⊢
  replace hM := Lib.hid hM
  go_enter Tryd.func76, Tryd.ntmps76
  go_wp2_with fail
  go_loop [3] (fun nv => ∃ k : Nat, k ≤ N ∧ nv = .int .i64 k) (fun nv => N - (intOf nv).toNat)
  case atStart => exact ⟨1, hN1, rfl⟩
  case round =>
    obtain ⟨k, hk, rfl⟩ := hrel
    obtain ⟨kk, hkk⟩ : ∃ z, k * k = z := ⟨_, rfl⟩
    have hkk2 : (k : Int) * (k : Int) = (kk : Int) := by rw [← hkk]; simp
    have hkkM : kk ≤ M := by rw [← hkk, ← hM.out]; exact Nat.mul_le_mul hk hk
    by_cases hlt : kk < M
    · have hkN : k < N := Nat.lt_of_le_of_ne hk (fun e => by have := hM.out; rw [e] at hkk; omega)
      replace hkk := Lib.hid hkk
      go_wp2
      go_round
      case measure => simp [intOf]; omega
      case rel => exact ⟨k + 1, by omega, by go_num⟩
    · have hkN : k = N := by
        apply Classical.byContradiction
        intro e
        have h2 : k * k < N * N := Nat.mul_lt_mul_of_lt_of_lt (by omega) (by omega)
        rw [hkk, hM.out] at h2
        omega
      subst hkN
      replace hkk := Lib.hid hkk
      go_wp2
      go_ret
      exact ⟨rfl, rfl⟩

/-- How long a slice value says it is. -/
def sliceN : Value → Nat
  | .slice _ n _ => n
  | _ => 0
theorem sliceN_of {w : World} {v : Value} {xs : List Int} (h : IntsAt w v xs) : sliceN v = xs.length := by
  obtain ⟨a, cap, rfl, _⟩ := h; rfl
/-- What meet leaves. -/
def MeetPost (w : World) (N : Nat) (adj : Nat → List Nat) (x : Value) (w' : World) : Prop :=
  (∃ ws, MeetIs N adj ws ∧ ApartWay N adj ws ∧ (∀ u, ApartWay N adj u → ws.length ≤ u.length) ∧ ws.length ≤ 20000 ∧ OwnI w.heap.size w' x (castI ws)) ∨ (x = .slice none 0 0 ∧ ∀ u, ¬ ApartWay N adj u)

def diagsTo (N i : Nat) : List Nat := (List.range i).map fun u => u * N + u
theorem diagsTo_succ (N i : Nat) : diagsTo N (i + 1) = diagsTo N i ++ [i * N + i] := by simp [diagsTo, List.range_succ]

set_option maxHeartbeats 4000000 in
theorem meet_any (K N : Nat) (T : List Int) (ga : Option Addr) (gc : Nat) (w : World) (hk4 : K ≤ 4) (hN1 : 1 ≤ N) (hN81 : N ≤ 81) (h : ListsAt w (.slice ga (pairG K N T).length gc) (pairG K N T)) :
    Calls Tryd.prog 33 #[.slice ga (pairG K N T).length gc] w (Ret1 (MeetPost w N (pairL K N T)) w) := by
  have hM6 : N * N ≤ 6561 := Nat.mul_le_mul hN81 hN81
  have hnodes := tnodes_any N w hN1 hN81
  have lg := h.len 3
  have hrow := fun (p : Nat) (hp : p < N * N) => h.row p (by rw [pairG_len]; exact hp)
  have hrow2 : ∀ p, p < N * N → (pairG K N T).getD p [] = castI (pairL K N T p) := fun p hp => pairG_row hp
  rw [pairG_len] at lg h ⊢
  obtain ⟨M, hM⟩ : ∃ M, N * N = M := ⟨_, rfl⟩
  have hMe := hM
  rw [pairG_len] at hrow
  rw [hM] at hnodes hM6 lg h hrow hrow2 ⊢
  have b0 := belowAlloc w (.cells #[.int .i64 (-1)] 3)
  have hI := (OwnI.lit w.heap.size w (Nat.le_refl _) [-1] (by simp [maxLen]) #[.int .i64 (-1)] rfl 1 rfl).at
  have hRep := repeat_any _ (-1) M _ hI (by omega)
  replace hRep := Lib.hid hRep
  replace hI := Lib.hid hI
  replace hnodes := Lib.hid hnodes
  replace hM := Lib.hid hM
  replace hMe := Lib.hid hMe
  replace h := Lib.hid h
  replace hrow := Lib.hid hrow
  replace hrow2 := Lib.hid hrow2
  go_enter Tryd.func33, Tryd.ntmps33
  go_wp2_with fail
  refine hnodes.out.mono ?_
  rintro e w' ⟨rfl, rfl⟩
  go_wp2_with fail
  refine hRep.out.mono ?_
  rintro e w1 ⟨cv, rfl, b1, hcv⟩
  obtain ⟨w0, hw0⟩ : ∃ w0 : World, w0 = w.alloc (.cells #[.int .i64 (-1)] 3) := ⟨_, rfl⟩
  rw [← hw0] at b0 b1 hcv
  rw [← tabI_neg1] at hcv
  clear hRep hI hw0
  have b01 := Below.step b0 b1
  have R1 := (rowsE w.heap.size w0).add (i := (1, 0)) (r' := rowI cv (tabI M fun _ => -1)) b1 (hcv.mono b0.size) (fun k hk => (hcv.lt k hk).1)
  have R2 := R1.add (i := (2, 0)) (r' := rowI (.slice none 0 0) []) (Below.refl _ _) (OwnI.nil _ _) (fun k hk => by cases hk)
  obtain ⟨f0, hf0⟩ : ∃ f0, f0 = upd (upd (fun _ => none) (1, 0) (some (rowI cv (tabI M fun _ => -1)))) (2, 0) (some (rowI (.slice none 0 0) [])) := ⟨_, rfl⟩
  rw [← hf0] at R2
  have hF0 : FN f0 cv (.slice none 0 0) M (fun _ => -1) (diagsTo N 0) := ⟨by rw [hf0, upd_ne _ _ (by simp), upd_same], by rw [hf0, upd_same]; rfl⟩
  obtain ⟨ca, cn, cc, rfl⟩ := hcv.at.shape
  replace R2 := Lib.hid R2
  replace hF0 := Lib.hid hF0
  replace hcv := Lib.hid hcv
  clear R1 hf0
  go_wp2_with fail
  go_loopw [5, 22] (fun qv iv wr => ∃ (i : Nat) (f : Names) (qw : Value), i ≤ N ∧ iv = .int .i64 i ∧ qw = qv ∧ Rows w.heap.size wr f ∧ Below w.heap.size w wr ∧ FN f (.slice ca cn cc) qw M (fun _ => -1) (diagsTo N i)) (fun _ iv _ => N - (intOf iv).toNat)
  case atStart => exact ⟨0, f0, _, by omega, rfl, rfl, R2.out, b01, hF0.out⟩
  case round =>
    clear R2 hF0 hcv
    obtain ⟨i, f1, qv, hi, rfl, rfl, hr1, bI, hF⟩ := hrel
    obtain ⟨wo, rfl⟩ : ∃ wo : World, wo = wr := ⟨_, rfl⟩
    by_cases hil : i < N
    · obtain ⟨m, hm⟩ : ∃ z, i * N = z := ⟨_, rfl⟩
      have hm2 : (i : Int) * (N : Int) = (m : Int) := by rw [← hm]; simp
      have hml : m ≤ 6561 := by rw [← hm]; exact Nat.le_trans (Nat.mul_le_mul (show i ≤ 81 by omega) hN81) (by decide)
      obtain ⟨z, hz⟩ : ∃ z, m + i = z := ⟨_, rfl⟩
      have hz2 : (m : Int) + (i : Int) = (z : Int) := by omega
      have hwm : IntKind.i64.wrap (m : Int) = m := wrapK (by omega) (by omega)
      have hwz : IntKind.i64.wrap (z : Int) = z := wrapK (by omega) (by omega)
      have hds : diagsTo N (i + 1) = diagsTo N i ++ [z] := by rw [diagsTo_succ, hm, hz]
      have hoQ := hr1.ownI hF.queue
      have hB := bI.size
      have hil2 := Lib.hid hil
      have hlq : (castI (diagsTo N i)).length ≤ 81 := by rw [castI_len]; simp [diagsTo]; omega
      replace hr1 := Lib.hid hr1
      replace hF := Lib.hid hF
      replace hm := Lib.hid hm
      replace hz := Lib.hid hz
      replace hds := Lib.hid hds
      go_wp2_with (at_builtin; refine wpl_app1 rfl _ _ rfl w.heap.size qv _ z hoQ rfl rfl (by omega) hB ?_)
      intro qv' w7 ho7 b7 hal7
      obtain ⟨f8, hr8, h8, _⟩ := hF.out.push hr1.out z ho7 hal7
      obtain ⟨q1, q2, q3, rfl⟩ := ho7.at.shape
      replace hr8 := Lib.hid hr8
      replace ho7 := Lib.hid ho7
      clear hal7 hoQ
      go_wp2
      go_roundw
      case measure => have := hil2.out; simp [intOf]; omega
      case rel => exact ⟨i + 1, f8, _, by have := hil2.out; omega, by go_num, rfl, hr8.out, bI.trans b7, by rw [hds.out]; exact h8⟩
    · obtain rfl : i = N := by omega
      have hO0 := MOut.init i (pairL K i T)
      have hC0 := CameOf.init i (pairL K i T)
      have hNz1 : ¬ (i : Int) = 0 := by omega
      have hNz2 : ((i : Int) == 0) = false := by rw [beq_eq_false_iff_ne]; omega
      have hNz3 : ¬ i = 0 := by omega
      replace hr1 := Lib.hid hr1
      replace hF := Lib.hid hF
      replace hO0 := Lib.hid hO0
      replace hC0 := Lib.hid hC0
      go_wp2_with fail
      go_loopw [5, 7] (fun qv iv wr => ∃ (j : Nat) (f : Names) (qw : Value) (came : Nat → Int) (q : List Nat) (D : Nat → Nat), j ≤ q.length ∧ iv = .int .i64 j ∧ qw = qv ∧ Rows w.heap.size wr f ∧ Below w.heap.size w wr ∧ FN f (.slice ca cn cc) qw M came q ∧ MOut i (pairL K i T) D q j ∧ CameOf i (pairL K i T) D q came ∧ stM i (pairL K i T) j = (came, q) ∧ ∀ z, z < j → NoHit i (pairL K i T) z) (fun _ iv _ => M + 1 - (intOf iv).toNat)
      case atStart => exact ⟨0, f1, _, _, _, _, by omega, rfl, rfl, hr1.out, bI, hF.out, hO0.out, hC0.out, rfl, fun z hz => absurd hz (Nat.not_lt_zero _)⟩
      case round =>
        clear hr1 hF hO0 hC0 bI
        obtain ⟨j, f2, qv, came, q, D, hj, rfl, rfl, hr2, b2, hF2, hO, hC, hst, hnh⟩ := hrel
        obtain ⟨wo, rfl⟩ : ∃ wo : World, wo = wr := ⟨_, rfl⟩
        have hqlen : q.length ≤ M := nodup_len M q hO.nodup (fun x hx => by rw [← hM.out]; exact hO.low x hx)
        have hOQ := hr2.ownI hF2.queue
        have lQ := hOQ.at.len
        rw [castI_len] at lQ
        by_cases hjl : j < q.length
        · obtain ⟨v, hv⟩ : ∃ v, q[j]? = some v := ⟨_, List.getElem?_eq_getElem hjl⟩
          have hvM : v < M := by rw [← hM.out]; exact hO.low v (List.mem_of_getElem? hv)
          have iV := fun w' => hOQ.at.idx j (by rw [castI_len]; exact hjl) w'
          have cV := hOQ.at.cellD j (by rw [castI_len]; exact hjl)
          rw [castI_get hv] at cV
          obtain ⟨mv, iR, cR, hMv⟩ := hrow.out v hvM
          rw [hrow2.out v hvM] at hMv
          have cR2 := (b2.cell (World.block_lt_of_cell? _ _ cR)).trans cR
          have lM := hMv.len
          rw [castI_len] at lM
          have hadjl : (pairL K i T v).length ≤ 16 := Nat.le_trans (pairL_len K i T v) (Nat.le_trans (Nat.mul_le_mul hk4 hk4) (by decide))
          obtain ⟨d1, d2, d3, d4, d5, d6⟩ := dm v i (by omega)
          obtain ⟨u1, hu1⟩ : ∃ z, v / i = z := ⟨_, rfl⟩
          obtain ⟨v1, hv1⟩ : ∃ z, v % i = z := ⟨_, rfl⟩
          rw [hu1] at d1 d3 d5
          rw [hv1] at d2 d4 d6
          have hvd : Diag i v ↔ u1 = v1 := by unfold Diag; rw [hu1, hv1]
          have hin := hO.enter hv
          have hjl2 := Lib.hid hjl
          obtain ⟨L, hL⟩ : ∃ L, pairL K i T v = L := ⟨_, rfl⟩
          rw [hL] at hMv lM hadjl
          have hLlow : ∀ t ∈ L, t < M := fun t ht => by
            rw [← hL] at ht
            rw [← hM.out]; exact ((mem_pairL (by omega)).1 ht).lt (by omega)
          generalize valAt qv j = qa at *
          generalize valAt (.slice ga M gc) v = ra at *
          obtain ⟨ap, hap⟩ : ∃ ap : Bool, ap = ((u1 : Int) != (v1 : Int)) := ⟨_, rfl⟩
          have hapd : ap = true ↔ ¬ Diag i v := by rw [hap, bne_iff_ne, hvd]; omega
          have hap2 : ((u1 : Int) != (v1 : Int)) = ap := hap.symm
          have hap3 : (u1 != v1) = ap := by rw [hap]; rw [Bool.eq_iff_iff, bne_iff_ne, bne_iff_ne]; omega
          replace hap := Lib.hid hap
          replace hu1 := Lib.hid hu1
          replace hv1 := Lib.hid hv1
          replace hvd := Lib.hid hvd
          replace hL := Lib.hid hL
          replace hMv := Lib.hid hMv
          replace hin := Lib.hid hin
          replace hr2 := Lib.hid hr2
          replace hF2 := Lib.hid hF2
          replace hO := Lib.hid hO
          replace hC := Lib.hid hC
          replace hOQ := Lib.hid hOQ
          replace hv := Lib.hid hv
          have hstv : (stM i (pairL K i T) j).2[j]? = some v := by rw [hst]; exact hv.out
          replace hstv := Lib.hid hstv
          replace hst := Lib.hid hst
          replace hnh := Lib.hid hnh
          go_upto_region 13 with fail
          refine wp_region_plan (fun _ => True) 7 [(0, true), (1, true), (2, true), (3, true), (4, true), (5, true), (6, true)] (by kernel_rfl) (by kernel_rfl) ?_
          have hS : True := trivial
          refine headY (v := ?_) (some 44) rfl rfl (Or.inl ⟨by rfl, ?_⟩) hS ?_
          rotate_left
          · rintro W' _; go_simp; try with_reducible rfl
          simp only [Act.put, List.setIfInBounds_toArray, List.set_cons_zero, List.set_cons_succ]
          refine headY (v := ?_) (some 45) rfl rfl (Or.inl ⟨by rfl, ?_⟩) hS ?_
          rotate_left
          · rintro W' _; go_simp; try with_reducible rfl
          simp only [Act.put, List.setIfInBounds_toArray, List.set_cons_zero, List.set_cons_succ]
          refine headY (v := ?_) (some 46) rfl rfl (Or.inl ⟨by rfl, ?_⟩) hS ?_
          rotate_left
          · rintro W' _; go_simp; try with_reducible rfl
          simp only [Act.put, List.setIfInBounds_toArray, List.set_cons_zero, List.set_cons_succ]
          refine headY (v := ?_) (some 47) rfl rfl (Or.inl ⟨by rfl, ?_⟩) hS ?_
          rotate_left
          · rintro W' _; go_simp; try with_reducible rfl
          simp only [Act.put, List.setIfInBounds_toArray, List.set_cons_zero, List.set_cons_succ]
          refine headY (v := ?_) (some 48) rfl rfl (Or.inl ⟨by rfl, ?_⟩) hS ?_
          rotate_left
          · rintro W' _; go_simp; try with_reducible rfl
          simp only [Act.put, List.setIfInBounds_toArray, List.set_cons_zero, List.set_cons_succ]
          refine headY (v := ?_) (some 49) rfl rfl (Or.inl ⟨by rfl, ?_⟩) hS ?_
          rotate_left
          · rintro W' _; go_simp; try with_reducible rfl
          simp only [Act.put, List.setIfInBounds_toArray, List.set_cons_zero, List.set_cons_succ]
          refine headY (v := ?_) (some 50) rfl rfl (Or.inl ⟨by rfl, ?_⟩) hS ?_
          rotate_left
          · rintro W' _; go_simp; try with_reducible rfl
          simp only [Act.put, List.setIfInBounds_toArray, List.set_cons_zero, List.set_cons_succ]
          refine head0 ?_
          simp only [List.drop_succ_cons, List.drop_zero]
          clear hS
          go_wp2
          refine NoPanic.normal ?_
          go_wp2_with fail
          clear cV iV cR2 lQ hap2 hap3
          go_loopw [5, 56] (fun qv tv wr => ∃ (k : Nat) (f : Names) (qw : Value) (came : Nat → Int) (q : List Nat) (D : Nat → Nat), k ≤ L.length ∧ tv = .int .i64 k ∧ qw = qv ∧ Rows w.heap.size wr f ∧ Below w.heap.size w wr ∧ FN f (.slice ca cn cc) qw M came q ∧ j < q.length ∧ MIn i (pairL K i T) D q j v (L.take k) ∧ CameOf i (pairL K i T) D q came ∧ rowM i (pairL K i T) v (stM i (pairL K i T) j) k = (came, q)) (fun _ tv _ => L.length - (intOf tv).toNat)
          case atStart => exact ⟨0, f2, _, came, q, D, by omega, rfl, rfl, hr2.out, by first | exact b2 | exact b2.drew, hF2.out, hjl2.out, hin.out, hC.out, hst.out⟩
          case round =>
            clear hr2 hF2 hO hC hOQ hin b2 hqlen hst
            obtain ⟨k, f3, qv, came, q, D, hk, rfl, rfl, hr3, b3, hF3, hjq, hIn, hC, hrm⟩ := hrel
            obtain ⟨wp', rfl⟩ : ∃ wo : World, wo = wr := ⟨_, rfl⟩
            have hqlen : q.length ≤ M := nodup_len M q hIn.nodup (fun x hx => by rw [← hM.out]; exact hIn.low x hx)
            by_cases hkl : k < L.length
            · obtain ⟨t, ht⟩ : ∃ t, L[k]? = some t := ⟨_, List.getElem?_eq_getElem hkl⟩
              have htm : t ∈ pairL K i T v := by rw [hL.out]; exact List.mem_of_getElem? ht
              have htM : t < M := hLlow t (List.mem_of_getElem? ht)
              have hM3 := hMv.out.below b3
              have iT := fun w' => hM3.idx k (by rw [castI_len]; exact hkl) w'
              have cT := hM3.cellD k (by rw [castI_len]; exact hkl)
              rw [castI_get ht] at cT
              have htk : L.take (k + 1) = L.take k ++ [t] := by rw [List.take_add_one, ht]; rfl
              have hrs : rowM i (pairL K i T) v (stM i (pairL K i T) j) (k + 1) = stepM i v (came, q) t := by rw [rowM_succ (t := t) (by rw [hL.out]; exact ht), hrm]
              have hskip : (Diag i t ∨ ¬ came t < 0) → stepM i v (came, q) t = (came, q) := fun e => by
                unfold stepM; rw [if_neg]; rintro ⟨e1, e2⟩; rcases e with e | e
                · exact e1 e
                · exact e e2
              have hpush : ¬ Diag i t → came t < 0 → stepM i v (came, q) t = (updN came t (v : Int), q ++ [t]) := fun e1 e2 => by
                unfold stepM; rw [if_pos ⟨e1, e2⟩]
              replace hrs := Lib.hid hrs
              replace hskip := Lib.hid hskip
              replace hpush := Lib.hid hpush
              replace hrm := Lib.hid hrm
              obtain ⟨e1, e2, e3, e4, e5, e6⟩ := dm t i (by omega)
              obtain ⟨a, ha⟩ : ∃ z, t / i = z := ⟨_, rfl⟩
              obtain ⟨b, hb⟩ : ∃ z, t % i = z := ⟨_, rfl⟩
              have htd : Diag i t ↔ a = b := by unfold Diag; rw [ha, hb]
              rw [ha] at e1 e3 e5
              rw [hb] at e2 e4 e6
              have hOC := hr3.ownI hF3.came
              have iC := fun w' => hOC.at.idx t (by rw [tabI_len]; exact htM) w'
              have cC := hOC.at.cellD t (by rw [tabI_len]; exact htM)
              rw [tabI_get _ _ _ htM] at cC
              have fC := hOC.frz t (by rw [tabI_len]; exact htM)
              have kC := (hOC.toV.blkB t (by rw [List.length_map, tabI_len]; exact htM)).2
              obtain ⟨f8, hr8, h8, hf8⟩ := hF3.set hr3 t htM (v : Int)
              obtain ⟨ct, hct⟩ : ∃ ct, came t = ct := ⟨_, rfl⟩
              rw [hct] at cC
              have hC1 := hC.1 t (by rw [hM.out]; exact htM)
              rw [hct] at hC1
              have hkl2 := Lib.hid hkl
              have hBs := b3.size
              generalize valAt mv k = ta at *
              generalize valAt (.slice ca cn cc) t = tc at *
              replace ha := Lib.hid ha
              replace hb := Lib.hid hb
              replace ht := Lib.hid ht
              replace hM3 := Lib.hid hM3
              replace hOC := Lib.hid hOC
              replace hr3 := Lib.hid hr3
              replace hF3 := Lib.hid hF3
              replace hIn := Lib.hid hIn
              replace hC := Lib.hid hC
              replace hr8 := Lib.hid hr8
              replace h8 := Lib.hid h8
              replace htk := Lib.hid htk
              replace htm := Lib.hid htm
              replace hct := Lib.hid hct
              replace hC1 := Lib.hid hC1
              by_cases hab : a = b
              · have hq : ((a : Int) != (b : Int)) = false := by rw [bne_eq_false_iff_eq]; omega
                have hq2 : ((a : Int) == (b : Int)) = true := by rw [beq_iff_eq]; omega
                have htD := htd.2 hab
                replace htd := Lib.hid htd
                go_upto_region 17 with fail
                refine wp_region_plan (fun _ => True) 14 [(0, true), (1, true), (2, true), (3, true), (4, true), (5, true), (6, true), (7, true), (8, true), (9, true), (10, true), (11, true), (12, true), (13, true)] (by kernel_rfl) (by kernel_rfl) ?_
                have hS : True := trivial
                refine headY (v := ?_) (some 61) rfl rfl (Or.inl ⟨by rfl, ?_⟩) hS ?_
                rotate_left
                · rintro W' _; go_simp; try with_reducible rfl
                simp only [Act.put, List.setIfInBounds_toArray, List.set_cons_zero, List.set_cons_succ]
                refine headY (v := ?_) (some 62) rfl rfl (Or.inl ⟨by rfl, ?_⟩) hS ?_
                rotate_left
                · rintro W' _; go_simp; try with_reducible rfl
                simp only [Act.put, List.setIfInBounds_toArray, List.set_cons_zero, List.set_cons_succ]
                refine headY (v := ?_) (some 63) rfl rfl (Or.inl ⟨by rfl, ?_⟩) hS ?_
                rotate_left
                · rintro W' _; go_simp; try with_reducible rfl
                simp only [Act.put, List.setIfInBounds_toArray, List.set_cons_zero, List.set_cons_succ]
                refine headY (v := ?_) (some 64) rfl rfl (Or.inl ⟨by rfl, ?_⟩) hS ?_
                rotate_left
                · rintro W' _; go_simp; try with_reducible rfl
                simp only [Act.put, List.setIfInBounds_toArray, List.set_cons_zero, List.set_cons_succ]
                refine headY (v := ?_) (some 65) rfl rfl (Or.inl ⟨by rfl, ?_⟩) hS ?_
                rotate_left
                · rintro W' _; go_simp; try with_reducible rfl
                simp only [Act.put, List.setIfInBounds_toArray, List.set_cons_zero, List.set_cons_succ]
                refine headY (v := ?_) (some 66) rfl rfl (Or.inl ⟨by rfl, ?_⟩) hS ?_
                rotate_left
                · rintro W' _; go_simp; try with_reducible rfl
                simp only [Act.put, List.setIfInBounds_toArray, List.set_cons_zero, List.set_cons_succ]
                refine headY (v := ?_) (some 67) rfl rfl (Or.inl ⟨by rfl, ?_⟩) hS ?_
                rotate_left
                · rintro W' _; go_simp; try with_reducible rfl
                simp only [Act.put, List.setIfInBounds_toArray, List.set_cons_zero, List.set_cons_succ]
                refine headY (v := ?_) (some 68) rfl rfl (Or.inl ⟨by rfl, ?_⟩) hS ?_
                rotate_left
                · rintro W' _; go_simp; try with_reducible rfl
                simp only [Act.put, List.setIfInBounds_toArray, List.set_cons_zero, List.set_cons_succ]
                refine headY (v := undef) (some 69) rfl rfl (Or.inr ⟨by rfl, rfl⟩) hS ?_
                simp only [Act.put, List.setIfInBounds_toArray, List.set_cons_zero, List.set_cons_succ]
                refine headY (v := undef) (some 70) rfl rfl (Or.inr ⟨by rfl, rfl⟩) hS ?_
                simp only [Act.put, List.setIfInBounds_toArray, List.set_cons_zero, List.set_cons_succ]
                refine headY (v := undef) (some 71) rfl rfl (Or.inr ⟨by rfl, rfl⟩) hS ?_
                simp only [Act.put, List.setIfInBounds_toArray, List.set_cons_zero, List.set_cons_succ]
                refine headY (v := undef) (some 72) rfl rfl (Or.inr ⟨by rfl, rfl⟩) hS ?_
                simp only [Act.put, List.setIfInBounds_toArray, List.set_cons_zero, List.set_cons_succ]
                refine headY (v := undef) (some 73) rfl rfl (Or.inr ⟨by rfl, rfl⟩) hS ?_
                simp only [Act.put, List.setIfInBounds_toArray, List.set_cons_zero, List.set_cons_succ]
                refine headY (v := ?_) (some 74) rfl rfl (Or.inl ⟨by rfl, ?_⟩) hS ?_
                rotate_left
                · rintro W' _; go_simp; try with_reducible rfl
                simp only [Act.put, List.setIfInBounds_toArray, List.set_cons_zero, List.set_cons_succ]
                refine head0 ?_
                simp only [List.drop_succ_cons, List.drop_zero]
                clear hS
                go_wp2
                refine NoPanic.normal ?_
                go_upto_region 20 with fail
                refine wp_region_plan (fun _ => True) 10 [(0, true), (1, true), (2, true), (3, true), (4, true), (5, true), (6, true), (7, true), (8, true), (9, true)] (by kernel_rfl) (by kernel_rfl) ?_
                have hS : True := trivial
                refine headY (v := ?_) (some 84) rfl rfl (Or.inl ⟨by rfl, ?_⟩) hS ?_
                rotate_left
                · rintro W' _; go_simp; try with_reducible rfl
                simp only [Act.put, List.setIfInBounds_toArray, List.set_cons_zero, List.set_cons_succ]
                refine headY (v := ?_) (some 85) rfl rfl (Or.inl ⟨by rfl, ?_⟩) hS ?_
                rotate_left
                · rintro W' _; go_simp; try with_reducible rfl
                simp only [Act.put, List.setIfInBounds_toArray, List.set_cons_zero, List.set_cons_succ]
                refine headY (v := ?_) (some 86) rfl rfl (Or.inl ⟨by rfl, ?_⟩) hS ?_
                rotate_left
                · rintro W' _; go_simp; try with_reducible rfl
                simp only [Act.put, List.setIfInBounds_toArray, List.set_cons_zero, List.set_cons_succ]
                refine headY (v := ?_) (some 87) rfl rfl (Or.inl ⟨by rfl, ?_⟩) hS ?_
                rotate_left
                · rintro W' _; go_simp; try with_reducible rfl
                simp only [Act.put, List.setIfInBounds_toArray, List.set_cons_zero, List.set_cons_succ]
                refine headY (v := ?_) (some 88) rfl rfl (Or.inl ⟨by rfl, ?_⟩) hS ?_
                rotate_left
                · rintro W' _; go_simp; try with_reducible rfl
                simp only [Act.put, List.setIfInBounds_toArray, List.set_cons_zero, List.set_cons_succ]
                refine headY (v := ?_) (some 89) rfl rfl (Or.inl ⟨by rfl, ?_⟩) hS ?_
                rotate_left
                · rintro W' _; go_simp; try with_reducible rfl
                simp only [Act.put, List.setIfInBounds_toArray, List.set_cons_zero, List.set_cons_succ]
                refine headY (v := ?_) (some 90) rfl rfl (Or.inl ⟨by rfl, ?_⟩) hS ?_
                rotate_left
                · rintro W' _; go_simp; try with_reducible rfl
                simp only [Act.put, List.setIfInBounds_toArray, List.set_cons_zero, List.set_cons_succ]
                refine headY (v := ?_) (some 91) rfl rfl (Or.inl ⟨by rfl, ?_⟩) hS ?_
                rotate_left
                · rintro W' _; go_simp; try with_reducible rfl
                simp only [Act.put, List.setIfInBounds_toArray, List.set_cons_zero, List.set_cons_succ]
                refine headY (v := ?_) (some 92) rfl rfl (Or.inl ⟨by rfl, ?_⟩) hS ?_
                rotate_left
                · rintro W' _; go_simp; try with_reducible rfl
                simp only [Act.put, List.setIfInBounds_toArray, List.set_cons_zero, List.set_cons_succ]
                refine headY (v := ?_) (some 93) rfl rfl (Or.inl ⟨by rfl, ?_⟩) hS ?_
                rotate_left
                · rintro W' _; go_simp; try with_reducible rfl
                simp only [Act.put, List.setIfInBounds_toArray, List.set_cons_zero, List.set_cons_succ]
                refine head0 ?_
                simp only [List.drop_succ_cons, List.drop_zero]
                clear hS
                cases ap with
                | false =>
                  have hvD : Diag i v := by
                    apply Classical.byContradiction
                    intro e
                    have := hapd.2 e
                    cases this
                  have hsk := hIn.out.skip (.inl ⟨htD, hvD⟩)
                  rw [← htk.out] at hsk
                  replace hsk := Lib.hid hsk
                  clear hapd
                  go_wp2
                  refine NoPanic.normal ?_
                  go_wp2
                  go_roundw
                  case measure => have := hkl2.out; simp [intOf]; omega
                  case rel => exact ⟨k + 1, f3, _, came, q, D, by have := hkl2.out; omega, by go_num, rfl, hr3.out.drew.drew, b3.drew.drew, hF3.out, hjq, hsk.out, hC.out, by rw [hrs.out, hskip.out (.inl htD)]⟩
                | true =>
                  have hvD : ¬ Diag i v := hapd.1 rfl
                  obtain ⟨c, hbw, hap1, hap2, hap3⟩ := hIn.out.met hC.out hvD htD (by rw [hM.out]; exact htM) htm.out
                  have hmi : MeetIs i (pairL K i T) (c.reverse ++ [t]) := ⟨j, v, k, t, c, hstv.out, by rw [hL.out]; exact ht.out, htD, hvD, by rw [hrm.out]; exact hbw, rfl, hnh.out, fun z x hz hx hd => (hIn.out.now x (by rw [hL.out] at hx; exact List.mem_of_getElem? (by rw [List.getElem?_take, if_pos hz]; exact hx))).2 hd⟩
                  have hDv : D v ≤ q.length := hIn.out.bnd v (List.mem_of_getElem? hIn.out.at_)
                  have hcl : c.length ≤ 7000 := by
                    have : (c.reverse ++ [t]).length = c.length + 1 := by simp
                    omega
                  have hnx := hbw.next (by rw [hM.out]; exact hvM)
                  have hrc : castI (c.reverse ++ [t]) = (castI (t :: c)).reverse := by rw [← castI_reverse, List.reverse_cons]
                  obtain ⟨c', hc'⟩ := hbw.ne
                  have hc0 : c[0]? = some v := by rw [hc']; rfl
                  have hc1 : 0 < c.length := by rw [hc']; simp
                  obtain ⟨W, hW⟩ : ∃ W : World, W = wp'.drew.drew := ⟨_, rfl⟩
                  have bWp : Below wp'.heap.size wp' W := by rw [hW]; exact (Below.refl _ _).drew.drew
                  have hrW : Rows w.heap.size W f3 := by rw [hW]; exact hr3.out
                  have bW := b3.trans (bWp.mono b3.size)
                  have bl := belowAlloc W (.cells #[.int .i64 t] 3)
                  have hlit := OwnI.lit W.heap.size W (Nat.le_refl _) [(t : Int)] (by simp [maxLen]) #[.int .i64 (t : Int)] rfl 1 rfl
                  replace hnx := Lib.hid hnx
                  replace hbw := Lib.hid hbw
                  replace hrc := Lib.hid hrc
                  replace hap1 := Lib.hid hap1
                  replace hmi := Lib.hid hmi
                  replace hap2 := Lib.hid hap2
                  replace hap3 := Lib.hid hap3
                  replace hc' := Lib.hid hc'
                  replace hc0 := Lib.hid hc0
                  replace hlit := Lib.hid hlit
                  replace hrW := Lib.hid hrW
                  clear hapd iT cT iC cC fC
                  go_wp2
                  refine NoPanic.normal ?_
                  go_upto_region 21 with fail
                  rw [← hW]
                  replace hW := Lib.hid hW
                  go_wp2_with fail
                  go_loopw [12, 13] (fun wv uv wr => ∃ (m : Nat) (ww : Value), m ≤ c.length ∧ ww = wv ∧ ((m < c.length ∧ ∃ y, c[m]? = some y ∧ uv = .int .i64 (y : Nat)) ∨ (m = c.length ∧ uv = .int .i64 (-1))) ∧ OwnI W.heap.size wr ww (castI (t :: c.take m)) ∧ Below W.heap.size W wr) (fun wv _ _ => c.length + 1 - sliceN wv)
                  case atStart => exact ⟨0, _, by omega, rfl, .inl ⟨hc1, v, hc0.out, rfl⟩, hlit.out, bl⟩
                  case round =>
                    obtain ⟨m, ww, hm, rfl, hcase, hoW, bWr⟩ := hrel
                    obtain ⟨wz, rfl⟩ : ∃ wo : World, wo = wr := ⟨_, rfl⟩
                    have hwl : (castI (t :: c.take m)).length = m + 1 := by rw [castI_len, List.length_cons, List.length_take]; omega
                    have hsn : sliceN ww = m + 1 := by rw [sliceN_of hoW.at, hwl]
                    rcases hcase with ⟨hmc, y, hy, rfl⟩ | ⟨hmc, rfl⟩
                    · obtain ⟨hyM, hnext⟩ := hnx.out m y hy
                      rw [hM.out] at hyM
                      have htk2 : castI (t :: c.take m) ++ [(y : Int)] = castI (t :: c.take (m + 1)) := by
                        rw [← castI_snoc, List.take_add_one, hy]; rfl
                      have hBW := bWr.size
                      replace hnext := Lib.hid hnext
                      replace hy := Lib.hid hy
                      replace hsn := Lib.hid hsn
                      replace htk2 := Lib.hid htk2
                      go_wp2_with (at_builtin; go_loud (refine wpl_append1 rfl _ _ rfl W.heap.size ww _ y hoW rfl rfl (by omega) hBW ?_))
                      intro v' w7 ho7 b7 _ _
                      have bW7 := bWr.trans b7
                      have hOC7 := (hrW.out.below bW7).ownI hF3.out.came
                      have iY := fun w' => hOC7.at.idx y (by rw [tabI_len]; exact hyM) w'
                      have cY := hOC7.at.cellD y (by rw [tabI_len]; exact hyM)
                      rw [tabI_get _ _ _ hyM] at cY
                      rw [htk2.out] at ho7
                      have hl7 : (castI (t :: c.take (m + 1))).length = m + 2 := by rw [castI_len, List.length_cons, List.length_take]; omega
                      have hs7 : sliceN v' = m + 2 := by rw [sliceN_of ho7.at, hl7]
                      obtain ⟨va, vn, vc, rfl⟩ := ho7.at.shape
                      generalize valAt (.slice ca cn cc) y = ya at *
                      obtain ⟨z, hz⟩ : ∃ z, came y = z := ⟨_, rfl⟩
                      rw [hz] at cY
                      have hnext2 : (m + 1 < c.length ∧ ∃ x, c[m + 1]? = some x ∧ z = (x : Nat)) ∨ (m + 1 = c.length ∧ z = -1) := by rw [← hz]; exact hnext.out
                      replace ho7 := Lib.hid ho7
                      replace hOC7 := Lib.hid hOC7
                      replace hz := Lib.hid hz
                      replace hs7 := Lib.hid hs7
                      replace hnext2 := Lib.hid hnext2
                      clear hoW
                      go_wp2
                      go_roundw
                      case measure => have := hs7.out; have := hsn.out; omega
                      case rel =>
                        refine ⟨m + 1, _, by omega, rfl, ?_, ho7.out, bW7⟩
                        rcases hnext2.out with ⟨h1, x, h2, h3⟩ | ⟨h1, h2⟩
                        · exact .inl ⟨h1, x, h2, by rw [h3]⟩
                        · exact .inr ⟨h1, by rw [h2]⟩
                    · subst hmc
                      rw [List.take_length] at hoW
                      replace hoW := Lib.hid hoW
                      replace hsn := Lib.hid hsn
                      go_wp2_with fail
                      refine (reverse_own W.heap.size ww _ wz hoW.out (by rw [castI_len, List.length_cons]; omega)).mono ?_
                      rintro e w8 ⟨rfl, ho8, b8⟩
                      rw [← hrc.out] at ho8
                      have bE := bW.trans ((bWr.trans b8).mono bW.size)
                      have ho9 := ho8.mono (B' := w.heap.size) bW.size
                      have hlen9 : (c.reverse ++ [t]).length ≤ 20000 := by simp; omega
                      obtain ⟨va, vn, vc, rfl⟩ := ho8.at.shape
                      replace ho8 := Lib.hid ho8
                      replace ho9 := Lib.hid ho9
                      go_wp2
                      go_ret
                      exact ⟨_, rfl, bE, .inl ⟨_, hmi.out, hap1.out, hap3.out, hlen9, ho9.out⟩⟩
              · have hq : ((a : Int) != (b : Int)) = true := by rw [bne_iff_ne]; omega
                have hq2 : ((a : Int) == (b : Int)) = false := by rw [beq_eq_false_iff_ne]; omega
                have htD : ¬ Diag i t := fun e => hab (htd.1 e)
                replace htd := Lib.hid htd
                by_cases hneg : ct < 0
                · obtain rfl := hC1.out.2 hneg
                  have htq : t ∉ q := (hC1.out.1.1 (by decide)).resolve_left htD
                  have hadd := hIn.out.add (by rw [hM.out]; exact htM) htD htq
                  have hcadd := hC.out.add hIn.out htD htq htm.out
                  rw [← htk.out] at hadd
                  replace hadd := Lib.hid hadd
                  replace hcadd := Lib.hid hcadd
                  replace htq := Lib.hid htq
                  go_upto_region 17 with fail
                  refine wp_region_plan (fun w' => w'.cell? tc = some (.int .i64 (-1))) 14 [(0, true), (1, true), (2, true), (3, true), (4, true), (5, true), (6, true), (7, true), (8, true), (9, true), (10, true), (11, true), (12, true), (13, true)] (by kernel_rfl) (by kernel_rfl) ?_
                  have hS : wp'.drew.cell? tc = some (.int .i64 (-1)) := cC
                  refine headY (v := ?_) (some 61) rfl rfl (Or.inl ⟨by rfl, ?_⟩) hS ?_
                  rotate_left
                  · rintro W' s0; go_simp; try with_reducible rfl
                  simp only [Act.put, List.setIfInBounds_toArray, List.set_cons_zero, List.set_cons_succ]
                  refine headY (v := ?_) (some 62) rfl rfl (Or.inl ⟨by rfl, ?_⟩) hS ?_
                  rotate_left
                  · rintro W' s0; go_simp; try with_reducible rfl
                  simp only [Act.put, List.setIfInBounds_toArray, List.set_cons_zero, List.set_cons_succ]
                  refine headY (v := ?_) (some 63) rfl rfl (Or.inl ⟨by rfl, ?_⟩) hS ?_
                  rotate_left
                  · rintro W' s0; go_simp; try with_reducible rfl
                  simp only [Act.put, List.setIfInBounds_toArray, List.set_cons_zero, List.set_cons_succ]
                  refine headY (v := ?_) (some 64) rfl rfl (Or.inl ⟨by rfl, ?_⟩) hS ?_
                  rotate_left
                  · rintro W' s0; go_simp; try with_reducible rfl
                  simp only [Act.put, List.setIfInBounds_toArray, List.set_cons_zero, List.set_cons_succ]
                  refine headY (v := ?_) (some 65) rfl rfl (Or.inl ⟨by rfl, ?_⟩) hS ?_
                  rotate_left
                  · rintro W' s0; go_simp; try with_reducible rfl
                  simp only [Act.put, List.setIfInBounds_toArray, List.set_cons_zero, List.set_cons_succ]
                  refine headY (v := ?_) (some 66) rfl rfl (Or.inl ⟨by rfl, ?_⟩) hS ?_
                  rotate_left
                  · rintro W' s0; go_simp; try with_reducible rfl
                  simp only [Act.put, List.setIfInBounds_toArray, List.set_cons_zero, List.set_cons_succ]
                  refine headY (v := ?_) (some 67) rfl rfl (Or.inl ⟨by rfl, ?_⟩) hS ?_
                  rotate_left
                  · rintro W' s0; go_simp; try with_reducible rfl
                  simp only [Act.put, List.setIfInBounds_toArray, List.set_cons_zero, List.set_cons_succ]
                  refine headY (v := ?_) (some 68) rfl rfl (Or.inl ⟨by rfl, ?_⟩) hS ?_
                  rotate_left
                  · rintro W' s0; go_simp; try with_reducible rfl
                  simp only [Act.put, List.setIfInBounds_toArray, List.set_cons_zero, List.set_cons_succ]
                  refine headY (v := ?_) (some 69) rfl rfl (Or.inl ⟨by rfl, ?_⟩) hS ?_
                  rotate_left
                  · rintro W' s0; go_simp; try with_reducible rfl
                  simp only [Act.put, List.setIfInBounds_toArray, List.set_cons_zero, List.set_cons_succ]
                  refine headY (v := ?_) (some 70) rfl rfl (Or.inl ⟨by rfl, ?_⟩) hS ?_
                  rotate_left
                  · rintro W' s0; go_simp; try with_reducible rfl
                  simp only [Act.put, List.setIfInBounds_toArray, List.set_cons_zero, List.set_cons_succ]
                  refine headY (v := ?_) (some 71) rfl rfl (Or.inl ⟨by rfl, ?_⟩) hS ?_
                  rotate_left
                  · rintro W' s0; go_simp; try with_reducible rfl
                  simp only [Act.put, List.setIfInBounds_toArray, List.set_cons_zero, List.set_cons_succ]
                  refine headY (v := ?_) (some 72) rfl rfl (Or.inl ⟨by rfl, ?_⟩) hS ?_
                  rotate_left
                  · rintro W' s0; go_simp; try with_reducible rfl
                  simp only [Act.put, List.setIfInBounds_toArray, List.set_cons_zero, List.set_cons_succ]
                  refine headY (v := ?_) (some 73) rfl rfl (Or.inl ⟨by rfl, ?_⟩) hS ?_
                  rotate_left
                  · rintro W' s0; go_simp; try with_reducible rfl
                  simp only [Act.put, List.setIfInBounds_toArray, List.set_cons_zero, List.set_cons_succ]
                  refine headY (v := ?_) (some 74) rfl rfl (Or.inl ⟨by rfl, ?_⟩) hS ?_
                  rotate_left
                  · rintro W' s0; go_simp; try with_reducible rfl
                  simp only [Act.put, List.setIfInBounds_toArray, List.set_cons_zero, List.set_cons_succ]
                  refine head0 ?_
                  simp only [List.drop_succ_cons, List.drop_zero]
                  clear hS
                  have hr8' : Rows w.heap.size ((wp'.setCell tc (.int .i64 (v : Int))).drew) f8 := hr8.out
                  have b8 : Below w.heap.size w ((wp'.setCell tc (.int .i64 (v : Int))).drew) := (b3.setCell kC _).drew
                  obtain ⟨W8, hW8⟩ : ∃ W : World, W = (wp'.setCell tc (.int .i64 (v : Int))).drew := ⟨_, rfl⟩
                  rw [← hW8] at hr8' b8
                  have hoQ8 := hr8'.ownI h8.out.queue
                  have hB8 := b8.size
                  have hlq : (castI q).length ≤ 7000 := by rw [castI_len]; omega
                  replace hr8' := Lib.hid hr8'
                  go_wp2
                  refine NoPanic.normal ?_
                  go_upto_region 19 with fail
                  rw [← hW8]
                  replace hW8 := Lib.hid hW8
                  go_wp2_with (at_builtin; go_loud (refine wpl_app1 rfl _ _ rfl w.heap.size qv _ t hoQ8 rfl rfl (by omega) hB8 ?_))
                  intro qv' w9 ho9 b9 hal9
                  obtain ⟨f9, hr9, h9, _⟩ := h8.out.push hr8'.out t ho9 hal9
                  obtain ⟨q1, q2, q3, rfl⟩ := ho9.at.shape
                  replace hr9 := Lib.hid hr9
                  replace ho9 := Lib.hid ho9
                  clear hal9 hoQ8
                  go_wp2
                  go_roundw
                  case measure => have := hkl2.out; simp [intOf]; omega
                  case rel => exact ⟨k + 1, f9, _, _, _, _, by have := hkl2.out; omega, by go_num, rfl, hr9.out, b8.trans b9, h9, by simp; omega, hadd.out, hcadd.out, by rw [hrs.out, hpush.out htD (by rw [hct.out]; decide)]⟩
                · obtain ⟨pc, rfl⟩ := Int.eq_ofNat_of_zero_le (show 0 ≤ ct by omega)
                  have htq : t ∈ q := by
                    apply Classical.byContradiction
                    intro e
                    exact hneg (hC1.out.1.2 (.inr e))
                  have hsk := hIn.out.skip (.inr ⟨htD, htq⟩)
                  rw [← htk.out] at hsk
                  replace hsk := Lib.hid hsk
                  replace htq := Lib.hid htq
                  go_upto_region 17 with fail
                  refine wp_region_plan (fun w' => w'.cell? tc = some (.int .i64 (pc : Nat))) 14 [(0, true), (1, true), (2, true), (3, true), (4, true), (5, true), (6, true), (7, true), (8, true), (9, true), (10, true), (11, true), (12, true), (13, true)] (by kernel_rfl) (by kernel_rfl) ?_
                  have hS : wp'.drew.cell? tc = some (.int .i64 (pc : Nat)) := cC
                  refine headY (v := ?_) (some 61) rfl rfl (Or.inl ⟨by rfl, ?_⟩) hS ?_
                  rotate_left
                  · rintro W' s0; go_simp; try with_reducible rfl
                  simp only [Act.put, List.setIfInBounds_toArray, List.set_cons_zero, List.set_cons_succ]
                  refine headY (v := ?_) (some 62) rfl rfl (Or.inl ⟨by rfl, ?_⟩) hS ?_
                  rotate_left
                  · rintro W' s0; go_simp; try with_reducible rfl
                  simp only [Act.put, List.setIfInBounds_toArray, List.set_cons_zero, List.set_cons_succ]
                  refine headY (v := ?_) (some 63) rfl rfl (Or.inl ⟨by rfl, ?_⟩) hS ?_
                  rotate_left
                  · rintro W' s0; go_simp; try with_reducible rfl
                  simp only [Act.put, List.setIfInBounds_toArray, List.set_cons_zero, List.set_cons_succ]
                  refine headY (v := ?_) (some 64) rfl rfl (Or.inl ⟨by rfl, ?_⟩) hS ?_
                  rotate_left
                  · rintro W' s0; go_simp; try with_reducible rfl
                  simp only [Act.put, List.setIfInBounds_toArray, List.set_cons_zero, List.set_cons_succ]
                  refine headY (v := ?_) (some 65) rfl rfl (Or.inl ⟨by rfl, ?_⟩) hS ?_
                  rotate_left
                  · rintro W' s0; go_simp; try with_reducible rfl
                  simp only [Act.put, List.setIfInBounds_toArray, List.set_cons_zero, List.set_cons_succ]
                  refine headY (v := ?_) (some 66) rfl rfl (Or.inl ⟨by rfl, ?_⟩) hS ?_
                  rotate_left
                  · rintro W' s0; go_simp; try with_reducible rfl
                  simp only [Act.put, List.setIfInBounds_toArray, List.set_cons_zero, List.set_cons_succ]
                  refine headY (v := ?_) (some 67) rfl rfl (Or.inl ⟨by rfl, ?_⟩) hS ?_
                  rotate_left
                  · rintro W' s0; go_simp; try with_reducible rfl
                  simp only [Act.put, List.setIfInBounds_toArray, List.set_cons_zero, List.set_cons_succ]
                  refine headY (v := ?_) (some 68) rfl rfl (Or.inl ⟨by rfl, ?_⟩) hS ?_
                  rotate_left
                  · rintro W' s0; go_simp; try with_reducible rfl
                  simp only [Act.put, List.setIfInBounds_toArray, List.set_cons_zero, List.set_cons_succ]
                  refine headY (v := ?_) (some 69) rfl rfl (Or.inl ⟨by rfl, ?_⟩) hS ?_
                  rotate_left
                  · rintro W' s0; go_simp; try with_reducible rfl
                  simp only [Act.put, List.setIfInBounds_toArray, List.set_cons_zero, List.set_cons_succ]
                  refine headY (v := ?_) (some 70) rfl rfl (Or.inl ⟨by rfl, ?_⟩) hS ?_
                  rotate_left
                  · rintro W' s0; go_simp; try with_reducible rfl
                  simp only [Act.put, List.setIfInBounds_toArray, List.set_cons_zero, List.set_cons_succ]
                  refine headY (v := ?_) (some 71) rfl rfl (Or.inl ⟨by rfl, ?_⟩) hS ?_
                  rotate_left
                  · rintro W' s0; go_simp; try with_reducible rfl
                  simp only [Act.put, List.setIfInBounds_toArray, List.set_cons_zero, List.set_cons_succ]
                  refine headY (v := ?_) (some 72) rfl rfl (Or.inl ⟨by rfl, ?_⟩) hS ?_
                  rotate_left
                  · rintro W' s0; go_simp; try with_reducible rfl
                  simp only [Act.put, List.setIfInBounds_toArray, List.set_cons_zero, List.set_cons_succ]
                  refine headY (v := ?_) (some 73) rfl rfl (Or.inl ⟨by rfl, ?_⟩) hS ?_
                  rotate_left
                  · rintro W' s0; go_simp; try with_reducible rfl
                  simp only [Act.put, List.setIfInBounds_toArray, List.set_cons_zero, List.set_cons_succ]
                  refine headY (v := ?_) (some 74) rfl rfl (Or.inl ⟨by rfl, ?_⟩) hS ?_
                  rotate_left
                  · rintro W' s0; go_simp; try with_reducible rfl
                  simp only [Act.put, List.setIfInBounds_toArray, List.set_cons_zero, List.set_cons_succ]
                  refine head0 ?_
                  simp only [List.drop_succ_cons, List.drop_zero]
                  clear hS
                  go_wp2
                  refine NoPanic.normal ?_
                  go_upto_region 20 with fail
                  refine wp_region_plan (fun _ => True) 10 [(0, true), (1, true), (2, true), (3, true), (4, true), (5, true), (6, true), (7, true), (8, true), (9, true)] (by kernel_rfl) (by kernel_rfl) ?_
                  have hS : True := trivial
                  refine headY (v := ?_) (some 84) rfl rfl (Or.inl ⟨by rfl, ?_⟩) hS ?_
                  rotate_left
                  · rintro W' _; go_simp; try with_reducible rfl
                  simp only [Act.put, List.setIfInBounds_toArray, List.set_cons_zero, List.set_cons_succ]
                  refine headY (v := ?_) (some 85) rfl rfl (Or.inl ⟨by rfl, ?_⟩) hS ?_
                  rotate_left
                  · rintro W' _; go_simp; try with_reducible rfl
                  simp only [Act.put, List.setIfInBounds_toArray, List.set_cons_zero, List.set_cons_succ]
                  refine headY (v := ?_) (some 86) rfl rfl (Or.inl ⟨by rfl, ?_⟩) hS ?_
                  rotate_left
                  · rintro W' _; go_simp; try with_reducible rfl
                  simp only [Act.put, List.setIfInBounds_toArray, List.set_cons_zero, List.set_cons_succ]
                  refine headY (v := ?_) (some 87) rfl rfl (Or.inl ⟨by rfl, ?_⟩) hS ?_
                  rotate_left
                  · rintro W' _; go_simp; try with_reducible rfl
                  simp only [Act.put, List.setIfInBounds_toArray, List.set_cons_zero, List.set_cons_succ]
                  refine headY (v := ?_) (some 88) rfl rfl (Or.inl ⟨by rfl, ?_⟩) hS ?_
                  rotate_left
                  · rintro W' _; go_simp; try with_reducible rfl
                  simp only [Act.put, List.setIfInBounds_toArray, List.set_cons_zero, List.set_cons_succ]
                  refine headY (v := ?_) (some 89) rfl rfl (Or.inl ⟨by rfl, ?_⟩) hS ?_
                  rotate_left
                  · rintro W' _; go_simp; try with_reducible rfl
                  simp only [Act.put, List.setIfInBounds_toArray, List.set_cons_zero, List.set_cons_succ]
                  refine headY (v := ?_) (some 90) rfl rfl (Or.inl ⟨by rfl, ?_⟩) hS ?_
                  rotate_left
                  · rintro W' _; go_simp; try with_reducible rfl
                  simp only [Act.put, List.setIfInBounds_toArray, List.set_cons_zero, List.set_cons_succ]
                  refine headY (v := ?_) (some 91) rfl rfl (Or.inl ⟨by rfl, ?_⟩) hS ?_
                  rotate_left
                  · rintro W' _; go_simp; try with_reducible rfl
                  simp only [Act.put, List.setIfInBounds_toArray, List.set_cons_zero, List.set_cons_succ]
                  refine headY (v := undef) (some 92) rfl rfl (Or.inr ⟨by rfl, rfl⟩) hS ?_
                  simp only [Act.put, List.setIfInBounds_toArray, List.set_cons_zero, List.set_cons_succ]
                  refine headY (v := ?_) (some 93) rfl rfl (Or.inl ⟨by rfl, ?_⟩) hS ?_
                  rotate_left
                  · rintro W' _; go_simp; try with_reducible rfl
                  simp only [Act.put, List.setIfInBounds_toArray, List.set_cons_zero, List.set_cons_succ]
                  refine head0 ?_
                  simp only [List.drop_succ_cons, List.drop_zero]
                  clear hS
                  go_wp2
                  refine NoPanic.normal ?_
                  go_wp2
                  go_roundw
                  case measure => have := hkl2.out; simp [intOf]; omega
                  case rel => exact ⟨k + 1, f3, _, came, q, D, by have := hkl2.out; omega, by go_num, rfl, hr3.out.drew.drew, b3.drew.drew, hF3.out, hjq, hsk.out, hC.out, by rw [hrs.out, hskip.out (.inr (by rw [hct.out]; omega))]⟩
            · obtain rfl : k = L.length := by omega
              rw [List.take_length] at hIn
              have hout := hIn.leave hL.out.symm
              have hst2 : stM i (pairL K i T) (j + 1) = (came, q) := by rw [stM_succ hstv.out, hL.out, hrm]
              have hnh2 : ∀ z, z < j + 1 → NoHit i (pairL K i T) z := fun z hz => by
                by_cases e : z = j
                · subst e
                  intro v' hv' t ht htD
                  rw [hstv.out] at hv'
                  obtain rfl := Option.some.inj hv'
                  rw [hL.out] at ht
                  exact (hIn.now t ht).2 htD
                · exact hnh.out z (by omega)
              replace hst2 := Lib.hid hst2
              replace hnh2 := Lib.hid hnh2
              replace hout := Lib.hid hout
              replace hIn := Lib.hid hIn
              replace hr3 := Lib.hid hr3
              replace hF3 := Lib.hid hF3
              replace hC := Lib.hid hC
              go_wp2
              go_roundw
              case measure => simp [intOf]; omega
              case rel => exact ⟨j + 1, f3, _, came, q, D, by omega, by go_num, rfl, hr3.out, b3, hF3.out, hout.out, hC.out, hst2.out, hnh2.out⟩
        · obtain rfl : j = q.length := by omega
          have hno := hO.none (Nat.le_refl _)
          replace hno := Lib.hid hno
          replace hr2 := Lib.hid hr2
          replace hF2 := Lib.hid hF2
          replace hO := Lib.hid hO
          replace hC := Lib.hid hC
          replace hOQ := Lib.hid hOQ
          go_wp2
          go_ret
          exact ⟨_, rfl, b2, .inr ⟨rfl, hno.out⟩⟩
end Go.Proofs.YthnkdiejmclmkaaDoor

namespace Go.Proofs.YthnkdiejmclmkaaDoor
open Go.RowKit
set_option maxRecDepth 100000

theorem Rows.void (B : Nat) (w : World) : Rows B w (fun _ => Option.none) := by
  refine ⟨?_, ?_⟩
  · intro i r h; cases h
  · intro i j r s h; cases h
theorem Rows.push {B : Nat} {w w1 : World} {f : Names} {i : Nat × Nat} {v v' : Value} {xs : List Int} (h : Rows B w f) (hi : f i = some (rowI v xs)) (x : Int) (ho : OwnI B w1 v' (xs ++ [x]))
    (hg : w.grownBy w1 v.ownBlock) (hal : v'.ownBlock = v.ownBlock ∨ ∃ k, v'.ownBlock = some k ∧ w.heap.size ≤ k) : Rows B w1 (upd f i (some (rowI v' (xs ++ [x])))) :=
  h.grown (r' := rowI v' (xs ++ [x])) hi hg ho hal
theorem alongW_snoc (K m : Nat) (F : Nat → Nat) (l : List Nat) (p : Nat) (hl : l ≠ []) : alongW K m F (l ++ [p]) = alongW K m F l ++ [((F p % K : Nat) : Int)] := by
  cases l with
  | nil => exact absurd rfl hl
  | cons a l => simp [alongW, List.getD]
theorem alongW_one (K m : Nat) (F : Nat → Nat) (p : Nat) : alongW K m F [p] = digs K m (F p) := by simp [alongW, List.getD]

/-- pairs.wrong. -/
theorem pairs_wrong (r : Nat → Addr) (at_ n : Int) (w : World) (hg : Glob r w) (h1 : 1 ≤ n) (h2 : n ≤ 11) :
    Calls Tryd.prog 65 #[.int .i64 at_, .int .i64 n] w (Ret1 (fun v w' => ErrIs r w' (fresh sPairs at_ n) v) w) := by
  go_enter Tryd.func65, Tryd.ntmps65
  go_wp2_with fail
  refine (new_any r _ at_ n w hg h1 h2).mono ?_
  rintro e w' ⟨v, rfl, hb, he⟩
  go_wp2
  go_ret
  exact ⟨_, rfl, hb, he⟩

theorem pwords_bad (r : Nat → Addr) (k R : Int) (va : Option Addr) (vn vc : Nat) (T : List Int) (u : Value) (t : Int × List (ByteArray × Int)) (w : World) (hg : Glob r w) (h : IntsAt w (.slice va vn vc) T) (hc : smallP k R T = some t) :
    Calls Tryd.prog 23 #[.agg #[.int .i64 k, .int .i64 R, .slice va vn vc], u] w (Ret3 (fun x y z w' => x = .slice none 0 0 ∧ y = .slice none 0 0 ∧ ErrIs r w' (under sPairs 0 (some t)) z) w) := by
  have b0 := belowAlloc w (.cells #[.int .i64 k, .int .i64 R, .slice va vn vc] 24)
  replace hg := Lib.hid (hg.below b0)
  replace h := Lib.hid (h.below b0)
  replace hc := Lib.hid hc
  go_enter Tryd.func23, Tryd.ntmps23
  go_wp2_with fail
  refine (working_bad r k R va vn vc T t _ hg.out h.out hc.out).mono ?_
  rintro e w1 ⟨x, y, rfl, b1, rfl, hy⟩
  obtain ⟨T2, a2, rfl⟩ : ∃ T a, y = .iface T (.pointer (some a)) := by
    unfold under at hy
    exact ErrIs.some_shape hy
  have ba := belowAlloc w1 (.cells #[.int .i64 0, .int .i64 0, .slice none 0 0] 24)
  have hy2 := hy.below ba
  replace hy := Lib.hid hy
  replace hy2 := Lib.hid hy2
  go_wp2
  go_ret3
  exact ⟨_, _, _, rfl, Below.step b0 (Below.step b1 ba), rfl, rfl, hy2.out⟩

/-- Is it a list of vertices? -/
def WayOk (N : Nat) (way : List Int) : Prop := way ≠ [] ∧ ∀ p ∈ way, 0 ≤ p ∧ p < ((N * N : Nat) : Int)
def AllFit (K N : Nat) (T : List Int) (ns : List Nat) : Prop := ∀ i, i + 1 < ns.length → StepFits K N T (ns.getD i 0) (ns.getD (i + 1) 0)
theorem WayOk.nat {N : Nat} {way : List Int} (h : WayOk N way) : ∃ ns : List Nat, way = castI ns ∧ ns ≠ [] ∧ ∀ p ∈ ns, p < N * N := by
  refine ⟨way.map Int.toNat, ?_, by simpa using h.1, fun p hp => ?_⟩
  · unfold castI
    rw [List.map_map]
    refine (List.map_id _).symm.trans (List.map_congr_left fun p hp => ?_)
    have := h.2 p hp
    show p = ((p.toNat : Nat) : Int)
    omega
  · obtain ⟨q, hq, rfl⟩ := List.mem_map.1 hp
    have := h.2 q hq
    omega

set_option maxHeartbeats 1000000 in
theorem pwords_odd (r : Nat → Addr) (K R : Nat) (va : Option Addr) (vn vc : Nat) (T : List Int) (u : Value) (way : List Int) (w : World) (hg : Glob r w) (h : IntsAt w (.slice va vn vc) T) (hr : RuleOk K R T) (hl : T.length ≤ 256) (hu : IntsAt w u way) (hno : ¬ WayOk (pw K (2 * wkR R)) way) :
    Calls Tryd.prog 23 #[.agg #[.int .i64 K, .int .i64 R, .slice va vn vc], u] w (Ret3 (fun x y z w' => x = .slice none 0 0 ∧ y = .slice none 0 0 ∧ ErrIs r w' (fresh sPairs 1 3) z) w) := by
  have b0 := belowAlloc w (.cells #[.int .i64 K, .int .i64 R, .slice va vn vc] 24)
  have hk1 := hr.k1
  have hokW := wk_ok hr
  have hlW := wk_small hr hl
  have hRW := wk_pos R
  have hN81 := nodes_le hokW hRW hlW
  obtain ⟨hdiv, hlen⟩ := hokW.half
  have hwork := fun (w' : World) (hgl : Glob r w') (hT : IntsAt w' (.slice va vn vc) T) => working_ok r K R va vn vc T w' hgl hT hr hl
  have hNodes := fun (a : Option Addr) (n c : Nat) (w' : World) (hgl : Glob r w') (hT : IntsAt w' (.slice a n c) (wkT K R T)) => over_Nodes r K (wkR R) a n c (wkT K R T) w' hgl hT hokW hlW
  rw [hdiv] at hNodes
  generalize pw K (2 * wkR R) = N at *
  generalize wkT K R T = T' at *
  generalize wkR R = R' at *
  have lu := hu.len
  obtain ⟨ua, un, uc, rfl⟩ := hu.shape
  replace hwork := Lib.hid hwork
  replace hNodes := Lib.hid hNodes
  replace hg := Lib.hid (hg.below b0)
  replace h := Lib.hid (h.below b0)
  replace hu := Lib.hid (hu.below b0)
  replace hokW := Lib.hid hokW
  replace hr := Lib.hid hr
  replace hdiv := Lib.hid hdiv
  replace hlen := Lib.hid hlen
  go_enter Tryd.func23, Tryd.ntmps23
  go_wp2_with fail
  refine (hwork.out _ hg.out h.out).mono ?_
  rintro e w1 ⟨x, y, rfl, b1, rfl, a, n, c, rfl, hT1⟩
  have ba := belowAlloc w1 (.cells #[.int .i64 K, .int .i64 R', .slice a n c] 24)
  have b12 := Below.step b1 ba
  have hT2 := hT1.below ba
  replace hT1 := Lib.hid hT1
  replace hT2 := Lib.hid hT2
  go_wp2_with fail
  refine (hNodes.out a n c _ (hg.out.below b12) hT2.out).mono ?_
  rintro e w3 ⟨x, y, rfl, b3, rfl, rfl⟩
  have bb := belowAlloc w3 (.cells #[.int .i64 N] 3)
  have b14 := Below.step b12 (Below.step b3 bb)
  have cN : (w3.alloc (.cells #[.int .i64 N] 3)).cell? ⟨w3.heap.size, 0, none⟩ = some (.int .i64 N) := by simp [go_sem]
  have hcf := containsFunc_any (.slice ua un uc) (.pointer (some ⟨w3.heap.size, 0, none⟩)) 68 way (odd1 ((N * N : Nat) : Int)) _ (hu.out.below b14) eg_words1 (fun x _ => words1_any x w3.heap.size N _ (by omega) cN)
  replace hcf := Lib.hid hcf
  replace cN := Lib.hid cN
  have hg4 := hg.out.below b14
  replace hg4 := Lib.hid hg4
  by_cases hw : way = []
  · subst hw
    go_wp2_with fail
    refine (pairs_wrong r _ _ _ hg4.out (by decide) (by decide)).mono ?_
    rintro e w5 ⟨x, rfl, b5, he⟩
    go_wp2
    go_ret3
    exact ⟨_, _, _, rfl, Below.step b0 (Below.step b14 b5), rfl, rfl, he⟩
  · have hl0 : ¬ way.length = 0 := fun e => hw (List.length_eq_zero_iff.1 e)
    have hl1 : ((way.length : Int) == 0) = false := by rw [beq_eq_false_iff_ne]; omega
    have hhit : decide (0 ≤ idxOf (odd1 ((N * N : Nat) : Int)) way) = true := by
      rw [decide_eq_true_iff]
      rcases idxOf_cases (odd1 ((N * N : Nat) : Int)) way with ⟨_, q⟩ | ⟨k, q, _⟩
      · exact absurd ⟨hw, fun p hp => odd1_false.1 (q p hp)⟩ hno
      · rw [q]; omega
    replace hw := Lib.hid hw
    replace hhit := Lib.hid hhit
    go_wp2_with fail
    refine hcf.out.mono ?_
    rintro e w5 ⟨rfl, rfl⟩
    rw [hhit.out]
    go_wp2_with fail
    refine (pairs_wrong r _ _ _ hg4.out (by decide) (by decide)).mono ?_
    rintro e w5 ⟨x, rfl, b5, he⟩
    go_wp2
    go_ret3
    exact ⟨_, _, _, rfl, Below.step b0 (Below.step b14 b5), rfl, rfl, he⟩
end Go.Proofs.YthnkdiejmclmkaaDoor
