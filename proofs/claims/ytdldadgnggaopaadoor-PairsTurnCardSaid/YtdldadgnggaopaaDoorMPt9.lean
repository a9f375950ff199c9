/-
  Proved: the law edenlaw13.PairsTurn as its tied card: it returns true and never panics, for any rule and any number. No conditions beyond the card's own.
  Walk: the law edenlaw13.PairsTurn.
  Opening what a call is handed: []int, api.Rule, the package-level errors.
-/
import Derived.Test.YtdldadgnggaopaaDoorMPt8
import Derived.Test.YtdldadgnggaopaaDoorRows
import Derived.ProofKit
import Derived.OpenShut
import Derived.ShutString
import Derived.ChangeOld
import Derived.LaidMore
import Derived.Stop.Joined
import Derived.Stop.LaidErr
import Derived.Lib.SmallJoins
import Derived.Test.YtdldadgnggaopaaDoorCards
import Derived.Test.YtdldadgnggaopaaDoorTie
import Derived.SevenTiedAt
namespace Go.Proofs.YtdldadgnggaopaaDoor
open Go.RowKit
set_option maxRecDepth 100000

theorem live_diags {N : Nat} {adj : Nat → List Nat} {L : List Nat} (h : LiveList (N * N) adj L) (hd : ∀ u, u < N → IsLive (N * N) adj (u * N + u)) : (L.filter fun p => decide (Diag N p)).length = N := by
  have : (L.filter fun p => decide (Diag N p)) = diags N := by
    refine sorted_eq (h.sorted.filter _) (diags_sorted N) fun v => ?_
    rw [List.mem_filter, h.mem, mem_diags]
    constructor
    · rintro ⟨⟨h1, _⟩, h3⟩
      have h3 : Diag N v := by simpa using h3
      exact ⟨v / N, div_lt_of h1, h3.eq⟩
    · rintro ⟨u, hu, rfl⟩
      exact ⟨⟨pair_lt hu hu, hd u hu⟩, by simpa using diag_mk hu⟩
  rw [this, diags_len]
theorem filter_take_succ (q : Nat → Bool) (L : List Nat) (i : Nat) (h : i < L.length) : (L.take (i + 1)).filter q = (L.take i).filter q ++ if q L[i] then [L[i]] else [] := by
  rw [List.take_add_one, List.getElem?_eq_getElem h, List.filter_append]
  simp [List.filter_cons]
theorem sq_exit {k N : Nat} (h : k ≤ N) (hn : ¬ k * k < N * N) : k = N := by
  apply Classical.byContradiction
  intro e
  exact hn (Nat.mul_lt_mul_of_lt_of_lt (by omega) (by omega))

theorem pairsTurn_bad (r : Nat → Addr) (k R : Int) (va : Option Addr) (vn vc : Nat) (T : List Int) (p : Int) (t : Int × List (ByteArray × Int)) (w : World) (hg : Glob r w) (h : IntsAt w (.slice va vn vc) T) (hc : smallP k R T = some t) :
    Calls Tryd.prog 4 #[.agg #[.int .i64 k, .int .i64 R, .slice va vn vc], .int .i64 p] w (Ret1 (fun x _ => x = .bool true) w) := by
  have b0 := belowAlloc w (.cells #[.int .i64 k, .int .i64 R, .slice va vn vc] 24)
  have q : Box3 (w.alloc (.cells #[.int .i64 k, .int .i64 R, .slice va vn vc] 24)) w.heap.size (.int .i64 k) (.int .i64 R) (.slice va vn vc) := by simp [Box3, go_sem]
  replace hg := Lib.hid (hg.below b0)
  replace h := Lib.hid (h.below b0)
  replace hc := Lib.hid hc
  replace q := Lib.hid q
  go_enter Tryd.func4, Tryd.ntmps4
  go_wp2_with fail
  refine (awake13 r _ hg.out).mono ?_
  rintro e w1 ⟨_, rfl, b1, rfl⟩
  obtain ⟨⟨z0, z1, z2⟩, -, -, -⟩ := q.out.below b1
  go_wp2_with fail
  refine (pgraph_bad r k R va vn vc T t w1 (hg.out.below b1) (h.out.below b1) hc.out).mono ?_
  rintro e w2 ⟨x, y, rfl, b2, rfl, hy⟩
  obtain ⟨T2, a2, rfl⟩ : ∃ T a, y = .iface T (.pointer (some a)) := by
    unfold under at hy
    exact ErrIs.some_shape hy
  have b12 := Below.step b1 b2
  replace hy := Lib.hid hy
  clear z0 z1 z2
  obtain ⟨⟨z0, z1, z2⟩, -, -, -⟩ := q.out.below b12
  go_wp2_with fail
  refine (papart_bad r k R va vn vc T t w2 (hg.out.below b12) (h.out.below b12) hc.out).mono ?_
  rintro e w3 ⟨x, y, rfl, b3, rfl, hy3⟩
  obtain ⟨T3, a3, rfl⟩ : ∃ T a, y = .iface T (.pointer (some a)) := by
    unfold under at hy3
    exact ErrIs.some_shape hy3
  replace hy3 := Lib.hid hy3
  clear z0 z1 z2
  go_wp2
  go_ret
  exact ⟨_, rfl, Below.step b0 (Below.step b12 b3), rfl⟩

set_option maxHeartbeats 4000000 in
theorem pairsTurn_ok (r : Nat → Addr) (K R : Nat) (va : Option Addr) (vn vc : Nat) (T : List Int) (p : Int) (w : World) (hg : Glob r w) (h : IntsAt w (.slice va vn vc) T) (hr : RuleOk K R T) (hl : T.length ≤ 256) :
    Calls Tryd.prog 4 #[.agg #[.int .i64 K, .int .i64 R, .slice va vn vc], .int .i64 p] w (Ret1 (fun x _ => x = .bool true) w) := by
  have b0 := belowAlloc w (.cells #[.int .i64 K, .int .i64 R, .slice va vn vc] 24)
  have q : Box3 (w.alloc (.cells #[.int .i64 K, .int .i64 R, .slice va vn vc] 24)) w.heap.size (.int .i64 K) (.int .i64 R) (.slice va vn vc) := by simp [Box3, go_sem]
  have hk1 := hr.k1
  have hk4 := hr.k4
  have hokW := wk_ok hr
  have hlW := wk_small hr hl
  have hRW := wk_pos R
  have hN81 := nodes_le hokW hRW hlW
  obtain ⟨hdiv, hlen⟩ := hokW.half
  have hN1 := pw_pos (K := K) (2 * wkR R) hk1
  have hNK : pw K (2 * wkR R) * K ≤ 256 := by rw [← hlen]; exact hlW
  have hck := pairG_check (K := K) (N := pw K (2 * wkR R)) (T := wkT K R T) (by omega) hN81 hNK
  have hdl := fun (u : Nat) (hu : u < pw K (2 * wkR R)) => diag_live (K := K) (R := wkR R) (T := wkT K R T) hk1 hu
  have hgraph := fun (w' : World) (hgl : Glob r w') (hT : IntsAt w' (.slice va vn vc) T) => pgraph_ok r K R va vn vc T w' hgl hT hr hl
  have hapart := fun (w' : World) (hgl : Glob r w') (hT : IntsAt w' (.slice va vn vc) T) => papart_ok r K R va vn vc T w' hgl hT hr hl
  generalize pw K (2 * wkR R) = N at *
  generalize wkT K R T = T' at *
  generalize wkR R = R' at *
  have hM6 : N * N ≤ 6561 := Nat.mul_le_mul hN81 hN81
  have hM1 : 1 ≤ N * N := Nat.mul_le_mul hN1 hN1
  replace hgraph := Lib.hid hgraph
  replace hapart := Lib.hid hapart
  replace hck := Lib.hid hck
  replace hdl := Lib.hid hdl
  replace hg := Lib.hid (hg.below b0)
  replace h := Lib.hid (h.below b0)
  replace hokW := Lib.hid hokW
  replace hr := Lib.hid hr
  replace hdiv := Lib.hid hdiv
  replace hlen := Lib.hid hlen
  replace q := Lib.hid q
  go_enter Tryd.func4, Tryd.ntmps4
  go_wp2_with fail
  refine (awake13 r _ hg.out).mono ?_
  rintro e w1 ⟨_, rfl, b1, rfl⟩
  obtain ⟨⟨z0, z1, z2⟩, -, -, -⟩ := q.out.below b1
  go_wp2_with fail
  refine (hgraph.out w1 (hg.out.below b1) (h.out.below b1)).mono ?_
  rintro e w2 ⟨gv, y, rfl, b2, rfl, f, vals, hrows, hwn⟩
  have hL : ListsAt w2 gv (pairG K N T') := hwn.lists hrows
  obtain ⟨ga, gc, rfl⟩ := hL.shape
  rw [pairG_len] at hwn
  have b12 := Below.step b1 b2
  clear z0 z1 z2
  obtain ⟨⟨z0, z1, z2⟩, -, -, -⟩ := q.out.below b12
  replace hrows := Lib.hid hrows
  replace hwn := Lib.hid hwn
  have hsz : ∀ k, k < (pairG K N T').length → ((pairG K N T').getD k []).length ≤ 17592186044416 := fun k hk => by
    rw [pairG_len] at hk
    rw [pairG_row hk, castI_len]
    have := pairL_len K N T' k
    have := Nat.mul_le_mul hk4 hk4
    omega
  replace hsz := Lib.hid hsz
  replace hL := Lib.hid hL
  go_wp2_with fail
  refine (hapart.out w2 (hg.out.below b12) (h.out.below b12)).mono ?_
  rintro e w3 ⟨lv, y, rfl, b3, rfl, L, hLL, ho⟩
  have b13 := Below.step b12 b3
  clear z0 z1 z2
  have hL3 := hL.out.below b3
  have lg := hL3.len 3
  rw [pairG_len] at lg hL3
  obtain ⟨la, ln, lc, rfl⟩ := ho.at.shape
  obtain ⟨M, hM⟩ : ∃ M, N * N = M := ⟨_, rfl⟩
  rw [hM] at lg hL3 hM6 hM1
  replace hL3 := Lib.hid hL3
  replace hLL := Lib.hid hLL
  replace ho := Lib.hid ho
  replace hM := Lib.hid hM
  rw [show (pairG K N T').length = M by rw [pairG_len, hM.out]] at *
  go_wp2_with fail
  go_loop [9] (fun nv => ∃ k : Nat, k ≤ N ∧ nv = .int .i64 k) (fun nv => N - (intOf nv).toNat)
  case atStart => exact ⟨1, hN1, rfl⟩
  case round =>
    obtain ⟨k, hk, rfl⟩ := hrel
    obtain ⟨kk, hkk⟩ : ∃ z, k * k = z := ⟨_, rfl⟩
    have hkk2 : (k : Int) * (k : Int) = (kk : Int) := by rw [← hkk]; simp
    have hkkM : kk ≤ M := by rw [← hkk, ← hM.out]; exact Nat.mul_le_mul hk hk
    by_cases hlt : kk < M
    · have hkN : k < N := Nat.lt_of_le_of_ne hk (fun e => by have := hM.out; rw [e] at hkk; omega)
      replace hkk := Lib.hid hkk
      go_wp2
      go_round
      case measure => simp [intOf]; omega
      case rel => exact ⟨k + 1, by omega, by go_num⟩
    have hkN : k = N := sq_exit hk (by rw [hkk, hM.out]; exact hlt)
    subst hkN
    obtain rfl : kk = M := by omega
    replace hkk := Lib.hid hkk
    have hMz1 : ¬ (kk : Int) = 0 := by omega
    have hMz2 : ((kk : Int) == 0) = false := by rw [beq_eq_false_iff_ne]; omega
    have hMz3 : ¬ kk = 0 := by omega
    have hNz1 : ¬ (k : Int) = 0 := by omega
    have hNz2 : ((k : Int) == 0) = false := by rw [beq_eq_false_iff_ne]; omega
    have hNz3 : ¬ k = 0 := by omega
    obtain ⟨x1, hx1⟩ : ∃ x, p.tmod (kk : Int) = x := ⟨_, rfl⟩
    have hxb : -(kk : Int) < x1 ∧ x1 < kk := by
      have e1 := Int.emod_nonneg p (b := (kk : Int)) (by omega)
      have e2 := Int.emod_lt_of_pos p (b := (kk : Int)) (by omega)
      have e3 : (((kk : Int).natAbs : Nat) : Int) = (kk : Int) := by simp
      rw [← hx1, Int.tmod_eq_emod]
      by_cases hcase : 0 ≤ p ∨ (kk : Int) ∣ p
      · rw [if_pos hcase]; omega
      · have : p % (kk : Int) ≠ 0 := fun e => hcase (.inr (Int.dvd_of_emod_eq_zero e))
        rw [if_neg hcase, e3]; omega
    obtain ⟨hxa, hxc⟩ := hxb
    obtain ⟨pp, hpp⟩ : ∃ z : Nat, (x1 + (kk : Int)).toNat % kk = z := ⟨_, rfl⟩
    have hppl : pp < kk := by rw [← hpp]; exact Nat.mod_lt _ (by omega)
    have hpp2 : (x1 + (kk : Int)).tmod (kk : Int) = (pp : Int) := by
      rw [Int.tmod_eq_emod_of_nonneg (by omega), ← hpp]
      have : (x1 + (kk : Int)) = (((x1 + (kk : Int)).toNat : Nat) : Int) := by omega
      rw [this]; simp
    have hpp3 : (x1 + (kk : Int)) % (kk : Int) = (pp : Int) := by rw [← Int.tmod_eq_emod_of_nonneg (by omega)]; exact hpp2
    obtain ⟨d1, d2, d3, d4, d5, d6⟩ := dm pp k (by omega)
    obtain ⟨u, hu⟩ : ∃ z, pp / k = z := ⟨_, rfl⟩
    obtain ⟨v, hv⟩ : ∃ z, pp % k = z := ⟨_, rfl⟩
    have hpM : pp < k * k := by rw [hM.out]; exact hppl
    have hql := swapP_lt hpM
    have hqe : swapP k pp = v * k + u := by unfold swapP; rw [hu, hv]
    have hul : u < k := by rw [← hu]; exact div_lt_of hpM
    have hvl : v < k := by rw [← hv]; exact Nat.mod_lt _ (by omega)
    rw [hu] at d1 d3 d5
    rw [hv] at d2 d4 d6
    obtain ⟨m, hm⟩ : ∃ z, v * k = z := ⟨_, rfl⟩
    have hm2 : (v : Int) * (k : Int) = (m : Int) := by rw [← hm]; simp
    obtain ⟨qq, hqq⟩ : ∃ z, swapP k pp = z := ⟨_, rfl⟩
    have hqq2 : (m : Int) + (u : Int) = (qq : Int) := by rw [← hqq, hqe, hm]; simp
    have hmq : m + u = qq := by rw [← hqq, hqe, hm]
    have hml : m ≤ 6561 := by rw [← hm]; exact Nat.le_trans (Nat.mul_le_mul (show v ≤ 81 by omega) hN81) (by decide)
    have hwm : IntKind.i64.wrap (m : Int) = m := wrapK (by omega) (by omega)
    have hwq : IntKind.i64.wrap (qq : Int) = qq := wrapK (by omega) (by omega)
    rw [hqq] at hql
    rw [hM.out] at hql
    obtain ⟨mvp, iP, cP, hMP⟩ := hL3.out.row pp (by rw [pairG_len, hM.out]; exact hppl)
    obtain ⟨mvq, iQ, cQ, hMQ⟩ := hL3.out.row qq (by rw [pairG_len, hM.out]; exact hql)
    rw [pairG_row hpM] at hMP
    rw [pairG_row (by rw [hM.out]; exact hql)] at hMQ
    have lP := hMP.len
    have lQ := hMQ.len
    have hlq : (pairL K k T' pp).length = (pairL K k T' qq).length := by rw [pairL_swap_len hpM, hqq]
    rw [castI_len] at lP lQ
    obtain ⟨ll, hll⟩ : ∃ z, (pairL K k T' qq).length = z := ⟨_, rfl⟩
    rw [hlq, hll] at lP
    rw [hll] at lQ
    have hll16 : ll ≤ 16 := by
      rw [← hll]
      have := pairL_len K k T' qq
      have := Nat.mul_le_mul hk4 hk4
      omega
    generalize valAt (.slice ga kk gc) pp = pa at *
    generalize valAt (.slice ga kk gc) qq = qa at *
    replace hx1 := Lib.hid hx1
    have hx1o := hx1.out
    replace hpp := Lib.hid hpp
    replace hu := Lib.hid hu
    replace hv := Lib.hid hv
    replace hm := Lib.hid hm
    replace hqq := Lib.hid hqq
    replace hqe := Lib.hid hqe
    replace hmq := Lib.hid hmq
    replace hMP := Lib.hid hMP
    replace hMQ := Lib.hid hMQ
    replace hlq := Lib.hid hlq
    replace hll := Lib.hid hll
    go_upto_region 13 with fail
    refine wp_region_plan (fun _ => True) 9 [(0, true), (1, true), (2, true), (3, true), (4, true), (5, true), (6, true), (7, true), (8, true)] (by kernel_rfl) (by kernel_rfl) ?_
    have hS : True := trivial
    refine headY (v := ?_) (some 84) rfl rfl (Or.inl ⟨by rfl, ?_⟩) hS ?_
    rotate_left
    · rintro W' _; go_simp; try with_reducible rfl
    simp only [Act.put, List.setIfInBounds_toArray, List.set_cons_zero, List.set_cons_succ]
    refine headY (v := ?_) (some 85) rfl rfl (Or.inl ⟨by rfl, ?_⟩) hS ?_
    rotate_left
    · rintro W' _; go_simp; try with_reducible rfl
    simp only [Act.put, List.setIfInBounds_toArray, List.set_cons_zero, List.set_cons_succ]
    refine headY (v := ?_) (some 86) rfl rfl (Or.inl ⟨by rfl, ?_⟩) hS ?_
    rotate_left
    · rintro W' _; go_simp; try with_reducible rfl
    simp only [Act.put, List.setIfInBounds_toArray, List.set_cons_zero, List.set_cons_succ]
    refine headY (v := ?_) (some 87) rfl rfl (Or.inl ⟨by rfl, ?_⟩) hS ?_
    rotate_left
    · rintro W' _; go_simp; try with_reducible rfl
    simp only [Act.put, List.setIfInBounds_toArray, List.set_cons_zero, List.set_cons_succ]
    refine headY (v := ?_) (some 88) rfl rfl (Or.inl ⟨by rfl, ?_⟩) hS ?_
    rotate_left
    · rintro W' _; go_simp; try with_reducible rfl
    simp only [Act.put, List.setIfInBounds_toArray, List.set_cons_zero, List.set_cons_succ]
    refine headY (v := ?_) (some 89) rfl rfl (Or.inl ⟨by rfl, ?_⟩) hS ?_
    rotate_left
    · rintro W' _; go_simp; try with_reducible rfl
    simp only [Act.put, List.setIfInBounds_toArray, List.set_cons_zero, List.set_cons_succ]
    refine headY (v := ?_) (some 90) rfl rfl (Or.inl ⟨by rfl, ?_⟩) hS ?_
    rotate_left
    · rintro W' _; go_simp; try with_reducible rfl
    simp only [Act.put, List.setIfInBounds_toArray, List.set_cons_zero, List.set_cons_succ]
    refine headY (v := ?_) (some 91) rfl rfl (Or.inl ⟨by rfl, ?_⟩) hS ?_
    rotate_left
    · rintro W' _; go_simp; try with_reducible rfl
    simp only [Act.put, List.setIfInBounds_toArray, List.set_cons_zero, List.set_cons_succ]
    refine headY (v := ?_) (some 92) rfl rfl (Or.inl ⟨by rfl, ?_⟩) hS ?_
    rotate_left
    · rintro W' _; go_simp; try with_reducible rfl
    simp only [Act.put, List.setIfInBounds_toArray, List.set_cons_zero, List.set_cons_succ]
    refine head0 ?_
    simp only [List.drop_succ_cons, List.drop_zero]
    clear hS
    go_wp2
    refine NoPanic.normal ?_
    go_upto_region 14 with fail
    refine wp_region_plan (fun w' => w'.cell? pa = some mvp ∧ w'.cell? qa = some mvq) 10 [(0, true), (1, true), (2, true), (3, true), (4, true), (5, true), (6, true), (7, true), (8, true), (9, true)] (by kernel_rfl) (by kernel_rfl) ?_
    have hS : w3.drew.drew.cell? pa = some mvp ∧ w3.drew.drew.cell? qa = some mvq := ⟨cP, cQ⟩
    refine headY (v := ?_) (some 93) rfl rfl (Or.inl ⟨by rfl, ?_⟩) hS ?_
    rotate_left
    · rintro W' ⟨s0, s1⟩; go_simp; try with_reducible rfl
    simp only [Act.put, List.setIfInBounds_toArray, List.set_cons_zero, List.set_cons_succ]
    refine headY (v := ?_) (some 94) rfl rfl (Or.inl ⟨by rfl, ?_⟩) hS ?_
    rotate_left
    · rintro W' ⟨s0, s1⟩; go_simp; try with_reducible rfl
    simp only [Act.put, List.setIfInBounds_toArray, List.set_cons_zero, List.set_cons_succ]
    refine headY (v := ?_) (some 95) rfl rfl (Or.inl ⟨by rfl, ?_⟩) hS ?_
    rotate_left
    · rintro W' ⟨s0, s1⟩; go_simp; try with_reducible rfl
    simp only [Act.put, List.setIfInBounds_toArray, List.set_cons_zero, List.set_cons_succ]
    refine headY (v := ?_) (some 96) rfl rfl (Or.inl ⟨by rfl, ?_⟩) hS ?_
    rotate_left
    · rintro W' ⟨s0, s1⟩; go_simp; try with_reducible rfl
    simp only [Act.put, List.setIfInBounds_toArray, List.set_cons_zero, List.set_cons_succ]
    refine headY (v := ?_) (some 97) rfl rfl (Or.inl ⟨by rfl, ?_⟩) hS ?_
    rotate_left
    · rintro W' ⟨s0, s1⟩; go_simp; try with_reducible rfl
    simp only [Act.put, List.setIfInBounds_toArray, List.set_cons_zero, List.set_cons_succ]
    refine headY (v := ?_) (some 98) rfl rfl (Or.inl ⟨by rfl, ?_⟩) hS ?_
    rotate_left
    · rintro W' ⟨s0, s1⟩; go_simp; try with_reducible rfl
    simp only [Act.put, List.setIfInBounds_toArray, List.set_cons_zero, List.set_cons_succ]
    refine headY (v := ?_) (some 99) rfl rfl (Or.inl ⟨by rfl, ?_⟩) hS ?_
    rotate_left
    · rintro W' ⟨s0, s1⟩; go_simp; try with_reducible rfl
    simp only [Act.put, List.setIfInBounds_toArray, List.set_cons_zero, List.set_cons_succ]
    refine headY (v := ?_) (some 100) rfl rfl (Or.inl ⟨by rfl, ?_⟩) hS ?_
    rotate_left
    · rintro W' ⟨s0, s1⟩; go_simp; try with_reducible rfl
    simp only [Act.put, List.setIfInBounds_toArray, List.set_cons_zero, List.set_cons_succ]
    refine headY (v := ?_) (some 101) rfl rfl (Or.inl ⟨by rfl, ?_⟩) hS ?_
    rotate_left
    · rintro W' ⟨s0, s1⟩; go_simp; try with_reducible rfl
    simp only [Act.put, List.setIfInBounds_toArray, List.set_cons_zero, List.set_cons_succ]
    refine headY (v := ?_) (some 102) rfl rfl (Or.inl ⟨by rfl, ?_⟩) hS ?_
    rotate_left
    · rintro W' ⟨s0, s1⟩; go_simp; try with_reducible rfl
    simp only [Act.put, List.setIfInBounds_toArray, List.set_cons_zero, List.set_cons_succ]
    refine head0 ?_
    simp only [List.drop_succ_cons, List.drop_zero]
    clear hS
    obtain ⟨W, hW⟩ : ∃ W : World, W = w3.drew.drew := ⟨_, rfl⟩
    rw [← hW]
    have b3W : Below w3.heap.size w3 W := by rw [hW]; exact (Below.refl _ _).drew.drew
    replace hW := Lib.hid hW
    have cPW := (b3W.cell (World.block_lt_of_cell? _ _ cP)).trans cP
    have cQW := (b3W.cell (World.block_lt_of_cell? _ _ cQ)).trans cQ
    clear cP cQ
    have hMPW := Lib.hid (hMP.out.below b3W)
    have hMQW := Lib.hid (hMQ.out.below b3W)
    obtain ⟨inv, w4, mk, hin, hb4⟩ := run_makeW oneBoolG (kk : Int) kk W rfl (by omega)
    obtain ⟨ina, inn, inc, rfl⟩ := hin.shape
    rw [← tabB_none] at hin
    replace hin := Lib.hid hin
    go_wp2
    refine NoPanic.normal ?_
    go_wp2_with fail
    clear mk
    go_loopw [12] (fun iv wr => ∃ (i : Nat) (F : Nat → Bool), i ≤ ll ∧ iv = .int .i64 i ∧ OwnV 4 W.heap.size wr (.slice ina inn inc) (tabB kk F) ∧ (∀ t, t < kk → (F t = true ↔ t ∈ (pairL K k T' qq).take i)) ∧ Below W.heap.size W wr) (fun iv _ => ll - (intOf iv).toNat)
    case atStart => exact ⟨0, _, by omega, rfl, hin.out, fun t _ => by simp, hb4⟩
    case round =>
      clear hin hb4
      obtain ⟨i, F, hi, rfl, hO, hF, bI⟩ := hrel
      obtain ⟨wo, rfl⟩ : ∃ wo : World, wo = wr := ⟨_, rfl⟩
      have cPo := (bI.cell (World.block_lt_of_cell? _ _ cPW)).trans cPW
      have cQo := (bI.cell (World.block_lt_of_cell? _ _ cQW)).trans cQW
      have hMPo := hMPW.out.below bI
      have hMQo := hMQW.out.below bI
      by_cases hil : i < ll
      · obtain ⟨t, ht⟩ : ∃ t, (pairL K k T' qq)[i]? = some t := ⟨_, List.getElem?_eq_getElem (by rw [hll.out]; exact hil)⟩
        have htm : t ∈ pairL K k T' qq := List.mem_of_getElem? ht
        have htl : t < kk := by have := ((mem_pairL (by omega)).1 htm).lt (show 0 < k by omega); rw [hM.out] at this; exact this
        have iT := fun w' => hMQo.idx i (by rw [castI_len, hll.out]; exact hil) w'
        have cT := hMQo.cellD i (by rw [castI_len, hll.out]; exact hil)
        rw [castI_get ht] at cT
        have hO1 := hO.at.idx oneBoolG t (by rw [tabB_len]; exact htl)
        have hO2 := hO.at.cellV t (by rw [tabB_len]; exact htl)
        have hO3 := hO.frz t (by rw [tabB_len]; exact htl)
        have hO4 := hO.set t (by rw [tabB_len]; exact htl) (.bool true)
        have hO5 := (hO.blkB t (by rw [tabB_len]; exact htl)).2
        rw [tabB_upd] at hO4
        rw [tabB_get _ _ _ htl] at hO2
        have hF2 : ∀ x, x < kk → (updN F t true x = true ↔ x ∈ (pairL K k T' qq).take (i + 1)) := fun x hx => by
          rw [List.take_add_one, ht, List.mem_append]
          by_cases e : x = t
          · subst e; rw [updN_same]; simp
          · rw [updN_other _ _ _ e, hF x hx]; simp [e]
        have t1 : decide ((t : Int) < 0) = false := by simp
        have t2 : decide ((kk : Int) ≤ (t : Int)) = false := by simp; omega
        have hil2 := Lib.hid hil
        have htl2 := Lib.hid htl
        generalize F t = ft at *
        generalize valAt mvq i = ta at *
        generalize valAt (.slice ina inn inc) t = tb at *
        have t4 : ¬ kk ≤ t := by omega
        by_cases hi0 : i = 0
        · have hi1 : decide ((0 : Int) < (i : Int)) = false := by simp; omega
          have hi2 : ¬ 0 < i := by omega
          replace hi0 := Lib.hid hi0
          replace hF2 := Lib.hid hF2
          replace hF := Lib.hid hF
          replace ht := Lib.hid ht
          replace htm := Lib.hid htm
          replace hO := Lib.hid hO
          replace hO4 := Lib.hid hO4
          replace hMPo := Lib.hid hMPo
          replace hMQo := Lib.hid hMQo
          go_wp2
          go_roundw
          case measure => have := hil2.out; simp [intOf]; omega
          case rel => exact ⟨i + 1, _, by have := hil2.out; omega, by go_num, hO4.out, hF2.out, bI.setCell hO5 _⟩
        · obtain ⟨i1, hi1⟩ : ∃ i1, i = i1 + 1 := ⟨i - 1, by omega⟩
          obtain ⟨t0, ht0⟩ : ∃ t, (pairL K k T' qq)[i1]? = some t := ⟨_, List.getElem?_eq_getElem (by rw [hll.out]; omega)⟩
          have hlt0 : t0 < t := by
            obtain ⟨a1, a2⟩ := List.getElem?_eq_some_iff.1 ht0
            obtain ⟨b1', b2'⟩ := List.getElem?_eq_some_iff.1 ht
            rw [← a2, ← b2']
            exact List.pairwise_iff_getElem.1 (pairL_sorted K k T' qq) _ _ _ _ (by omega)
          have iT0 : ∀ w', (Instr.indexAt 22 mvq (.int .i64 ((i : Int) - 1))).run Tryd.prog w' = .ok (.pointer (some (valAt mvq i1))) w' := fun w' => by
            have := hMQo.idx i1 (by rw [castI_len, hll.out]; omega) w'
            rwa [show ((i : Int) - 1) = (i1 : Int) by omega]
          have cT0 := hMQo.cellD i1 (by rw [castI_len, hll.out]; omega)
          rw [castI_get ht0] at cT0
          have t3 : decide ((t : Int) ≤ (t0 : Int)) = false := by simp; omega
          have t5 : ¬ t ≤ t0 := by omega
          have hpos : decide ((0 : Int) < (i : Int)) = true := by simp; omega
          have hpos2 : 0 < i := by omega
          generalize valAt mvq i1 = tz at *
          replace hi1 := Lib.hid hi1
          replace hi0 := Lib.hid hi0
          replace hlt0 := Lib.hid hlt0
          replace hF2 := Lib.hid hF2
          replace hF := Lib.hid hF
          replace ht := Lib.hid ht
          replace ht0 := Lib.hid ht0
          replace htm := Lib.hid htm
          replace hO := Lib.hid hO
          replace hO4 := Lib.hid hO4
          replace hMPo := Lib.hid hMPo
          replace hMQo := Lib.hid hMQo
          go_wp2
          go_roundw
          case measure => have := hil2.out; simp [intOf]; omega
          case rel => exact ⟨i + 1, _, by have := hil2.out; omega, by go_num, hO4.out, hF2.out, bI.setCell hO5 _⟩
      · obtain rfl : i = ll := by omega
        rw [List.take_of_length_le (by rw [hll.out]; exact Nat.le_refl _)] at hF
        replace hF := Lib.hid hF
        replace hO := Lib.hid hO
        replace hMPo := Lib.hid hMPo
        replace hMQo := Lib.hid hMQo
        go_wp2_with fail
        clear cPo cQo
        go_loopw [14] (fun jv wr => ∃ (j n : Nat), j ≤ i ∧ jv = .int .i64 j ∧ wr = wo.drewN n) (fun jv _ => i - (intOf jv).toNat)
        case atStart => exact ⟨0, 0, by omega, rfl, rfl⟩
        case round =>
          obtain ⟨j, n, hj, rfl, rfl⟩ := hrel
          have cPo := (bI.cell (World.block_lt_of_cell? _ _ cPW)).trans cPW
          by_cases hjl : j < i
          · obtain ⟨t, ht⟩ : ∃ t, (pairL K k T' pp)[j]? = some t := ⟨_, List.getElem?_eq_getElem (by rw [hlq.out, hll.out]; exact hjl)⟩
            have htm : t ∈ pairL K k T' pp := List.mem_of_getElem? ht
            have htl : t < kk := by have := ((mem_pairL (by omega)).1 htm).lt (show 0 < k by omega); rw [hM.out] at this; exact this
            have hsw := pairL_swap (by rw [hM.out]; exact hppl) htm
            rw [hqq.out] at hsw
            have hswl := swapP_lt (N := k) (p := t) (by rw [hM.out]; exact htl)
            rw [hM.out] at hswl
            have iT := fun w' => hMPo.out.idx j (by rw [castI_len, hlq.out, hll.out]; exact hjl) w'
            have cT := hMPo.out.cellD j (by rw [castI_len, hlq.out, hll.out]; exact hjl)
            rw [castI_get ht] at cT
            have hO1 := hO.out.at.idx oneBoolG (swapP k t) (by rw [tabB_len]; exact hswl)
            have hO2 := hO.out.at.cellV (swapP k t) (by rw [tabB_len]; exact hswl)
            rw [tabB_get _ _ _ hswl, (hF.out _ hswl).2 hsw] at hO2
            have hse : swapP k t = t % k * k + t / k := rfl
            obtain ⟨e1, e2, e3, e4, e5, e6⟩ := dm t k (by omega)
            obtain ⟨a, ha⟩ : ∃ z, t / k = z := ⟨_, rfl⟩
            obtain ⟨b, hb⟩ : ∃ z, t % k = z := ⟨_, rfl⟩
            have hak : a ≤ 6561 := by rw [← ha]; exact Nat.le_trans (Nat.div_le_self _ _) (by omega)
            have hbk : b < k := by rw [← hb]; exact Nat.mod_lt _ (by omega)
            rw [ha] at e1 e3 e5
            rw [hb] at e2 e4 e6
            rw [ha, hb] at hse
            obtain ⟨c, hc⟩ : ∃ z, b * k = z := ⟨_, rfl⟩
            have hc2 : (b : Int) * (k : Int) = (c : Int) := by rw [← hc]; simp
            have hcl : c ≤ 6561 := by rw [← hc]; exact Nat.le_trans (Nat.mul_le_mul (show b ≤ 81 by omega) hN81) (by decide)
            obtain ⟨d, hd⟩ : ∃ z, swapP k t = z := ⟨_, rfl⟩
            rw [hd] at hO1 hO2 hse hswl
            rw [hc] at hse
            have hsum : (c : Int) + (a : Int) = (d : Int) := by omega
            have hwc : IntKind.i64.wrap (c : Int) = c := wrapK (by omega) (by omega)
            have hwd : IntKind.i64.wrap (d : Int) = d := wrapK (by omega) (by omega)
            have t1 : decide ((t : Int) < 0) = false := by simp
            have t2 : decide ((kk : Int) ≤ (t : Int)) = false := by simp; omega
            have t4 : ¬ kk ≤ t := by omega
            have hjl2 := Lib.hid hjl
            generalize valAt mvp j = ta at *
            generalize valAt (.slice ina inn inc) d = tb at *
            replace ht := Lib.hid ht
            replace htm := Lib.hid htm
            replace hsw := Lib.hid hsw
            replace ha := Lib.hid ha
            replace hb := Lib.hid hb
            replace hc := Lib.hid hc
            replace hd := Lib.hid hd
            replace hse := Lib.hid hse
            go_upto_region 28 with fail
            refine wp_region_plan (fun w' => w'.cell? tb = some (.bool true)) 22 [(0, true), (1, true), (2, true), (3, true), (4, true), (5, true), (6, true), (7, true), (8, true), (9, true), (10, true), (11, true), (12, true), (13, true), (14, true), (15, true), (16, true), (17, true), (18, true), (19, true), (20, true), (21, true)] (by kernel_rfl) (by kernel_rfl) ?_
            have hS : (wo.drewN n).drew.cell? tb = some (.bool true) := hO2
            refine headY (v := ?_) (some 166) rfl rfl (Or.inl ⟨by rfl, ?_⟩) hS ?_
            rotate_left
            · rintro W' s0; go_simp; try with_reducible rfl
            simp only [Act.put, List.setIfInBounds_toArray, List.set_cons_zero, List.set_cons_succ]
            refine headY (v := ?_) (some 167) rfl rfl (Or.inl ⟨by rfl, ?_⟩) hS ?_
            rotate_left
            · rintro W' s0; go_simp; try with_reducible rfl
            simp only [Act.put, List.setIfInBounds_toArray, List.set_cons_zero, List.set_cons_succ]
            refine headY (v := ?_) (some 168) rfl rfl (Or.inl ⟨by rfl, ?_⟩) hS ?_
            rotate_left
            · rintro W' s0; go_simp; try with_reducible rfl
            simp only [Act.put, List.setIfInBounds_toArray, List.set_cons_zero, List.set_cons_succ]
            refine headY (v := ?_) (some 169) rfl rfl (Or.inl ⟨by rfl, ?_⟩) hS ?_
            rotate_left
            · rintro W' s0; go_simp; try with_reducible rfl
            simp only [Act.put, List.setIfInBounds_toArray, List.set_cons_zero, List.set_cons_succ]
            refine headY (v := ?_) (some 170) rfl rfl (Or.inl ⟨by rfl, ?_⟩) hS ?_
            rotate_left
            · rintro W' s0; go_simp; try with_reducible rfl
            simp only [Act.put, List.setIfInBounds_toArray, List.set_cons_zero, List.set_cons_succ]
            refine headY (v := ?_) (some 171) rfl rfl (Or.inl ⟨by rfl, ?_⟩) hS ?_
            rotate_left
            · rintro W' s0; go_simp; try with_reducible rfl
            simp only [Act.put, List.setIfInBounds_toArray, List.set_cons_zero, List.set_cons_succ]
            refine headY (v := ?_) (some 172) rfl rfl (Or.inl ⟨by rfl, ?_⟩) hS ?_
            rotate_left
            · rintro W' s0; go_simp; try with_reducible rfl
            simp only [Act.put, List.setIfInBounds_toArray, List.set_cons_zero, List.set_cons_succ]
            refine headY (v := ?_) (some 173) rfl rfl (Or.inl ⟨by rfl, ?_⟩) hS ?_
            rotate_left
            · rintro W' s0; go_simp; try with_reducible rfl
            simp only [Act.put, List.setIfInBounds_toArray, List.set_cons_zero, List.set_cons_succ]
            refine headY (v := ?_) (some 174) rfl rfl (Or.inl ⟨by rfl, ?_⟩) hS ?_
            rotate_left
            · rintro W' s0; go_simp; try with_reducible rfl
            simp only [Act.put, List.setIfInBounds_toArray, List.set_cons_zero, List.set_cons_succ]
            refine headY (v := ?_) (some 175) rfl rfl (Or.inl ⟨by rfl, ?_⟩) hS ?_
            rotate_left
            · rintro W' s0; go_simp; try with_reducible rfl
            simp only [Act.put, List.setIfInBounds_toArray, List.set_cons_zero, List.set_cons_succ]
            refine headY (v := ?_) (some 176) rfl rfl (Or.inl ⟨by rfl, ?_⟩) hS ?_
            rotate_left
            · rintro W' s0; go_simp; try with_reducible rfl
            simp only [Act.put, List.setIfInBounds_toArray, List.set_cons_zero, List.set_cons_succ]
            refine headY (v := ?_) (some 177) rfl rfl (Or.inl ⟨by rfl, ?_⟩) hS ?_
            rotate_left
            · rintro W' s0; go_simp; try with_reducible rfl
            simp only [Act.put, List.setIfInBounds_toArray, List.set_cons_zero, List.set_cons_succ]
            refine headY (v := ?_) (some 178) rfl rfl (Or.inl ⟨by rfl, ?_⟩) hS ?_
            rotate_left
            · rintro W' s0; go_simp; try with_reducible rfl
            simp only [Act.put, List.setIfInBounds_toArray, List.set_cons_zero, List.set_cons_succ]
            refine headY (v := ?_) (some 179) rfl rfl (Or.inl ⟨by rfl, ?_⟩) hS ?_
            rotate_left
            · rintro W' s0; go_simp; try with_reducible rfl
            simp only [Act.put, List.setIfInBounds_toArray, List.set_cons_zero, List.set_cons_succ]
            refine headY (v := ?_) (some 180) rfl rfl (Or.inl ⟨by rfl, ?_⟩) hS ?_
            rotate_left
            · rintro W' s0; go_simp; try with_reducible rfl
            simp only [Act.put, List.setIfInBounds_toArray, List.set_cons_zero, List.set_cons_succ]
            refine headY (v := ?_) (some 181) rfl rfl (Or.inl ⟨by rfl, ?_⟩) hS ?_
            rotate_left
            · rintro W' s0; go_simp; try with_reducible rfl
            simp only [Act.put, List.setIfInBounds_toArray, List.set_cons_zero, List.set_cons_succ]
            refine headY (v := ?_) (some 182) rfl rfl (Or.inl ⟨by rfl, ?_⟩) hS ?_
            rotate_left
            · rintro W' s0; go_simp; try with_reducible rfl
            simp only [Act.put, List.setIfInBounds_toArray, List.set_cons_zero, List.set_cons_succ]
            refine headY (v := ?_) (some 183) rfl rfl (Or.inl ⟨by rfl, ?_⟩) hS ?_
            rotate_left
            · rintro W' s0; go_simp; try with_reducible rfl
            simp only [Act.put, List.setIfInBounds_toArray, List.set_cons_zero, List.set_cons_succ]
            refine headY (v := ?_) (some 184) rfl rfl (Or.inl ⟨by rfl, ?_⟩) hS ?_
            rotate_left
            · rintro W' s0; go_simp; try with_reducible rfl
            simp only [Act.put, List.setIfInBounds_toArray, List.set_cons_zero, List.set_cons_succ]
            refine headY (v := ?_) (some 185) rfl rfl (Or.inl ⟨by rfl, ?_⟩) hS ?_
            rotate_left
            · rintro W' s0; go_simp; try with_reducible rfl
            simp only [Act.put, List.setIfInBounds_toArray, List.set_cons_zero, List.set_cons_succ]
            refine headY (v := ?_) (some 186) rfl rfl (Or.inl ⟨by rfl, ?_⟩) hS ?_
            rotate_left
            · rintro W' s0; go_simp; try with_reducible rfl
            simp only [Act.put, List.setIfInBounds_toArray, List.set_cons_zero, List.set_cons_succ]
            refine headY (v := ?_) (some 187) rfl rfl (Or.inl ⟨by rfl, ?_⟩) hS ?_
            rotate_left
            · rintro W' s0; go_simp; try with_reducible rfl
            simp only [Act.put, List.setIfInBounds_toArray, List.set_cons_zero, List.set_cons_succ]
            refine head0 ?_
            simp only [List.drop_succ_cons, List.drop_zero]
            clear hS
            go_wp2
            refine NoPanic.normal ?_
            go_wp2
            go_roundw
            case measure => have := hjl2.out; simp [intOf]; omega
            case rel => exact ⟨j + 1, n + 1, by have := hjl2.out; omega, by go_num, rfl⟩
          · obtain rfl : j = i := by omega
            have bWo : Below w3.heap.size w3 (wo.drewN n) := b3W.trans ((below_drewN bI n).mono b3W.size)
            have hLo := hL3.out.below bWo
            have b1o := Below.step b13 bWo
            have hlv := live_any r ga gc (pairG K k T') (wo.drewN n) (hg.out.below b1o) (by rw [pairG_len, hM.out]; exact hLo) (fun k1 hk => hsz.out k1 (by rw [pairG_len, hM.out] at hk; exact hk))
            rw [pairG_len, hM.out] at hlv
            replace hlv := Lib.hid hlv
            replace hLo := Lib.hid hLo
            go_wp2_with fail
            refine hlv.out.mono ?_
            rintro e w5 ⟨lw, y, rfl, b5, he, hls, _⟩
            rw [hck.out] at he hls
            obtain rfl := he.none_eq
            obtain ⟨L2, hL2, ho2⟩ := hls rfl
            rw [pairG_len] at hL2
            obtain rfl := hL2.unique hLL.out
            clear hls he hlv
            have b5' : Below w3.heap.size w3 w5 := b3W.trans (((below_drewN bI n).trans (b5.mono (below_drewN bI n).size)).mono b3W.size)
            have hlen2 := hL2.len
            have hsame := live_diags hL2 hdl.out
            have lLw := ho2.at.len
            rw [castI_len] at lLw
            obtain ⟨lwa, lwn, lwc, rfl⟩ := ho2.at.shape
            have b15 := Below.step b13 b5'
            have ho5 := ho.out.below b5'
            replace hL2 := Lib.hid hL2
            replace ho2 := Lib.hid ho2
            replace ho5 := Lib.hid ho5
            replace hsame := Lib.hid hsame
            rw [hM.out] at hlen2
            clear cPo
            go_wp2_with fail
            go_loopw [18, 19, 20] (fun tv sv iv wr => ∃ (i : Nat) (tw : Value), i ≤ L2.length ∧ iv = .int .i64 i ∧ sv = .int .i64 (((L2.take i).filter fun p => decide (Diag k p)).length : Nat) ∧ tw = tv ∧ OwnI w5.heap.size wr tw (castI ((L2.take i).filter fun p => !decide (Diag k p))) ∧ Below w5.heap.size w5 wr) (fun _ _ iv _ => L2.length - (intOf iv).toNat)
            case atStart => exact ⟨0, _, by omega, rfl, rfl, rfl, OwnI.nil _ _, Below.refl _ _⟩
            case round =>
              obtain ⟨i4, tw, hi4, rfl, rfl, rfl, hoT, bT⟩ := hrel
              obtain ⟨wt, rfl⟩ : ∃ wt : World, wt = wr := ⟨_, rfl⟩
              have hsl : ((L2.take i4).filter fun p => decide (Diag k p)).length ≤ 6561 := Nat.le_trans (List.length_filter_le _ _) (by rw [List.length_take]; omega)
              have hal : (castI ((L2.take i4).filter fun p => !decide (Diag k p))).length ≤ 6561 := by rw [castI_len]; exact Nat.le_trans (List.length_filter_le _ _) (by rw [List.length_take]; omega)
              by_cases hil4 : i4 < L2.length
              · obtain ⟨x, hx⟩ : ∃ x, L2[i4] = x := ⟨_, rfl⟩
                have hxk : x < kk := by rw [← hx, ← hM.out]; exact ((hL2.out.mem _).1 (List.getElem_mem hil4)).1
                have hoL := ho2.out.at.below bT
                have iX := fun w' => hoL.idx i4 (by rw [castI_len]; exact hil4) w'
                have cX := hoL.cellD i4 (by rw [castI_len]; exact hil4)
                rw [castI_get (x := x) (by rw [List.getElem?_eq_getElem hil4, hx])] at cX
                have f1 := filter_take_succ (fun p => decide (Diag k p)) L2 i4 hil4
                have f2 := filter_take_succ (fun p => !decide (Diag k p)) L2 i4 hil4
                rw [hx] at f1 f2
                obtain ⟨e1, e2, e3, e4, e5, e6⟩ := dm x k (by omega)
                obtain ⟨a, ha⟩ : ∃ z, x / k = z := ⟨_, rfl⟩
                obtain ⟨b, hb⟩ : ∃ z, x % k = z := ⟨_, rfl⟩
                have hdg : Diag k x ↔ a = b := by unfold Diag; rw [ha, hb]
                rw [ha] at e1 e3 e5
                rw [hb] at e2 e4 e6
                obtain ⟨sm, hsm⟩ : ∃ z, ((L2.take i4).filter fun p => decide (Diag k p)).length = z := ⟨_, rfl⟩
                rw [hsm] at hsl
                have hil5 := Lib.hid hil4
                generalize valAt (.slice lwa lwn lwc) i4 = xa at *
                have hB5 := bT.size
                replace ha := Lib.hid ha
                replace hb := Lib.hid hb
                replace hx := Lib.hid hx
                replace hoL := Lib.hid hoL
                rw [hsm]
                go_upto_region 38 with fail
                refine wp_region_plan (fun w' => w'.cell? xa = some (.int .i64 x)) 12 [(0, true), (1, true), (2, true), (3, true), (4, true), (5, true), (6, true), (7, true), (8, true), (9, true), (10, true), (11, true)] (by kernel_rfl) (by kernel_rfl) ?_
                have hS : wt.drew.cell? xa = some (.int .i64 x) := cX
                refine headY (v := ?_) (some 202) rfl rfl (Or.inl ⟨by rfl, ?_⟩) hS ?_
                rotate_left
                · rintro W' s0; go_simp; try with_reducible rfl
                simp only [Act.put, List.setIfInBounds_toArray, List.set_cons_zero, List.set_cons_succ]
                refine headY (v := ?_) (some 203) rfl rfl (Or.inl ⟨by rfl, ?_⟩) hS ?_
                rotate_left
                · rintro W' s0; go_simp; try with_reducible rfl
                simp only [Act.put, List.setIfInBounds_toArray, List.set_cons_zero, List.set_cons_succ]
                refine headY (v := ?_) (some 204) rfl rfl (Or.inl ⟨by rfl, ?_⟩) hS ?_
                rotate_left
                · rintro W' s0; go_simp; try with_reducible rfl
                simp only [Act.put, List.setIfInBounds_toArray, List.set_cons_zero, List.set_cons_succ]
                refine headY (v := ?_) (some 205) rfl rfl (Or.inl ⟨by rfl, ?_⟩) hS ?_
                rotate_left
                · rintro W' s0; go_simp; try with_reducible rfl
                simp only [Act.put, List.setIfInBounds_toArray, List.set_cons_zero, List.set_cons_succ]
                refine headY (v := ?_) (some 206) rfl rfl (Or.inl ⟨by rfl, ?_⟩) hS ?_
                rotate_left
                · rintro W' s0; go_simp; try with_reducible rfl
                simp only [Act.put, List.setIfInBounds_toArray, List.set_cons_zero, List.set_cons_succ]
                refine headY (v := ?_) (some 207) rfl rfl (Or.inl ⟨by rfl, ?_⟩) hS ?_
                rotate_left
                · rintro W' s0; go_simp; try with_reducible rfl
                simp only [Act.put, List.setIfInBounds_toArray, List.set_cons_zero, List.set_cons_succ]
                refine headY (v := ?_) (some 208) rfl rfl (Or.inl ⟨by rfl, ?_⟩) hS ?_
                rotate_left
                · rintro W' s0; go_simp; try with_reducible rfl
                simp only [Act.put, List.setIfInBounds_toArray, List.set_cons_zero, List.set_cons_succ]
                refine headY (v := ?_) (some 209) rfl rfl (Or.inl ⟨by rfl, ?_⟩) hS ?_
                rotate_left
                · rintro W' s0; go_simp; try with_reducible rfl
                simp only [Act.put, List.setIfInBounds_toArray, List.set_cons_zero, List.set_cons_succ]
                refine headY (v := ?_) (some 210) rfl rfl (Or.inl ⟨by rfl, ?_⟩) hS ?_
                rotate_left
                · rintro W' s0; go_simp; try with_reducible rfl
                simp only [Act.put, List.setIfInBounds_toArray, List.set_cons_zero, List.set_cons_succ]
                refine headY (v := ?_) (some 211) rfl rfl (Or.inl ⟨by rfl, ?_⟩) hS ?_
                rotate_left
                · rintro W' s0; go_simp; try with_reducible rfl
                simp only [Act.put, List.setIfInBounds_toArray, List.set_cons_zero, List.set_cons_succ]
                refine headY (v := ?_) (some 212) rfl rfl (Or.inl ⟨by rfl, ?_⟩) hS ?_
                rotate_left
                · rintro W' s0; go_simp; try with_reducible rfl
                simp only [Act.put, List.setIfInBounds_toArray, List.set_cons_zero, List.set_cons_succ]
                refine headY (v := ?_) (some 213) rfl rfl (Or.inl ⟨by rfl, ?_⟩) hS ?_
                rotate_left
                · rintro W' s0; go_simp; try with_reducible rfl
                simp only [Act.put, List.setIfInBounds_toArray, List.set_cons_zero, List.set_cons_succ]
                refine head0 ?_
                simp only [List.drop_succ_cons, List.drop_zero]
                clear hS
                by_cases hab : a = b
                · have hq : ((a : Int) != (b : Int)) = false := by rw [bne_eq_false_iff_eq]; omega
                  have f1' : ((L2.take (i4 + 1)).filter fun p => decide (Diag k p)).length = sm + 1 := by
                    rw [f1, if_pos (by simpa using hdg.2 hab), List.length_append, hsm]; rfl
                  have f2' : (L2.take (i4 + 1)).filter (fun p => !decide (Diag k p)) = (L2.take i4).filter fun p => !decide (Diag k p) := by
                    rw [f2, if_neg (by simpa using hdg.2 hab), List.append_nil]
                  replace f1' := Lib.hid f1'
                  replace f2' := Lib.hid f2'
                  replace hoT := Lib.hid hoT
                  replace hsm := Lib.hid hsm
                  replace hdg := Lib.hid hdg
                  replace hab := Lib.hid hab
                  clear f1 f2
                  go_wp2
                  refine NoPanic.normal ?_
                  go_wp2
                  go_roundw
                  case measure => have := hil5.out; simp [intOf]; omega
                  case rel => exact ⟨i4 + 1, _, by have := hil5.out; omega, by go_num, by rw [f1'.out]; go_num, rfl, by rw [f2'.out]; exact hoT.out, bT.drew⟩
                · have hq : ((a : Int) != (b : Int)) = true := by rw [bne_iff_ne]; omega
                  have f1' : ((L2.take (i4 + 1)).filter fun p => decide (Diag k p)).length = sm := by
                    rw [f1, if_neg (by simpa using fun q => hab (hdg.1 q)), List.append_nil, hsm]
                  have f2' : (L2.take (i4 + 1)).filter (fun p => !decide (Diag k p)) = ((L2.take i4).filter fun p => !decide (Diag k p)) ++ [x] := by
                    rw [f2, if_pos (by simpa using fun q => hab (hdg.1 q))]
                  replace f1' := Lib.hid f1'
                  replace f2' := Lib.hid f2'
                  replace hsm := Lib.hid hsm
                  replace hdg := Lib.hid hdg
                  replace hab := Lib.hid hab
                  have hoD := hoT.drew
                  replace hoT := Lib.hid hoT
                  clear f1 f2
                  go_wp2
                  refine NoPanic.normal ?_
                  go_wp2_with (at_builtin; refine wpl_append1 rfl _ _ rfl w5.heap.size tw _ x hoD rfl rfl (by omega) (by simpa using hB5) ?_)
                  intro v' w7 ho7 b7 _ _
                  obtain ⟨t7a, t7n, t7c, rfl⟩ := ho7.at.shape
                  replace ho7 := Lib.hid ho7
                  clear hoD
                  go_wp2
                  go_roundw
                  case measure => have := hil5.out; simp [intOf]; omega
                  case rel => exact ⟨i4 + 1, _, by have := hil5.out; omega, by go_num, by rw [f1'.out], rfl, by rw [f2'.out, castI_snoc]; exact ho7.out, bT.drew.trans b7⟩
              · obtain rfl : i4 = L2.length := by omega
                rw [List.take_length] at hoT hsl hal ⊢
                rw [hsame.out] at hsl ⊢
                have hoA := hoT.at
                have hB := ho5.out.at.below bT
                replace hoT := Lib.hid hoT
                replace hoA := Lib.hid hoA
                replace hB := Lib.hid hB
                have bE := Below.step b15 bT
                go_wp2_with fail
                refine (ints_any tw _ _ _ wt hoA.out hB.out).mono ?_
                rintro e w8 h8
                obtain ⟨rfl, b8⟩ := h8.below
                clear h8
                rw [show decide (castI (L2.filter fun p => !decide (Diag k p)) = castI (L2.filter fun p => !decide (Diag k p))) = true by simp]
                go_wp2
                go_ret
                exact ⟨_, rfl, Below.step b0 (Below.step bE b8), rfl⟩

theorem pairsTurn_any (r : Nat → Addr) (k R : Int) (u : Value) (T : List Int) (p : Int) (w : World) (hg : Glob r w) (h : IntsAt w u T) :
    Calls Tryd.prog 4 #[.agg #[.int .i64 k, .int .i64 R, u], .int .i64 p] w (Ret1 (fun x _ => x = .bool true) w) := by
  obtain ⟨a, n, c, rfl⟩ := h.shape
  cases hs : smallP k R T with
  | some t => exact pairsTurn_bad r k R a n c T p t w hg h hs
  | none =>
    obtain ⟨hc, hl⟩ := smallP_none hs
    obtain ⟨K, Q, rfl, rfl, hr⟩ := checkP_none hc
    exact pairsTurn_ok r K Q a n c T p w hg h hr hl
end Go.Proofs.YtdldadgnggaopaaDoor

namespace Go.Proofs.YtdldadgnggaopaaDoor
open Go.ChangeShapes Go.WideShapes Go.ChangeAt Go.RowKit Go.Joins
set_option maxRecDepth 100000

theorem own : ownKnob Tryd.prog.godebug = none := by kernel_rfl
theorem laidOut : laidOutB Tryd.prog = true := by kernel_rfl
theorem cellsInt : Tryd.prog.cellsOf 3 = 1 := by kernel_rfl
theorem uInt : Tryd.prog.underlying 3 = some (.int .i64) := by kernel_rfl
theorem bytesInt : Tryd.prog.bytesOf 3 = 8 := by kernel_rfl

theorem i64_of_wf {n : Int} (h : (Lit.int .i64 n).wf = true) : I64 n := by
  have := bounds_i64 h
  unfold I64
  omega

/-- A []int that came in. -/
theorem open_intsV {H : Type} {enc : TypeId × Value → H} {W : World} {held : Bool} {fuel : Nat} {v : Value} {y : DataW H × List MemPlace}
    (h : DataW.trod enc Tryd.prog W 0 (fun _ => true) held fuel 22 [v] = some y) (hw : ∀ n ∈ y.1.weights Tryd.prog 22, n ≤ reachBytes) :
    ∃ xs, IntsAt W v xs ∧ xs.length ≤ 17592186043904 ∧ ∀ x ∈ xs, I64 x := by
  rcases open_ints uInts uInt cellsInt h with ⟨hcs, _⟩ | ⟨a, len, cap, zs, hcs, _, hl, hm, hz, hx, hcell, hwz⟩
  · simp at hcs
    subst hcs
    exact ⟨[], (OwnI.nil 0 W).at, by simp, by simp⟩
  · simp at hcs
    subst hcs
    simp only [if_true] at hz
    have hzl : (zs.take len).length = len := by simp; omega
    refine ⟨zs.take len, ⟨some a, cap, by rw [hzl], by rw [hzl]; exact hl, hm, (fun e => by cases e), fun i hi => ?_⟩, ?_, fun x hx => i64_of_wf (hwz x (List.mem_of_mem_take hx))⟩
    · have hi' : i < zs.length := by rw [hzl] at hi; omega
      show W.cell? (a.add i) = _
      rw [hcell i hi']
      simp [List.getD, hi']
    · rw [hx] at hw
      have := hw ((lits (H := H) .i64 (zs.take len)).length * 8 + (lits (H := H) .i64 (zs.drop len)).length * 8) (by
        simp only [DataW.weights, uInts, bytesInt, List.mem_cons]
        left; omega)
      simp only [lits, List.length_map, reachBytes] at this
      omega

theorem open_intsT {H : Type} {enc : TypeId × Value → H} {W : World} {held : Bool} {v : Value} {d : DataW H} {p : List MemPlace} {b0 : Nat}
    (hv : Value.okWide Tryd.prog W .any b0 22 v) (h : DataW.Trod enc Tryd.prog W 0 (fun _ => true) held 22 v d p) (hw : ∀ n ∈ d.weights Tryd.prog 22, n ≤ reachBytes) :
    ∃ xs, IntsAt W v xs ∧ xs.length ≤ 17592186043904 ∧ ∀ x ∈ xs, I64 x := by
  obtain ⟨a, l, c, rfl⟩ := okWide_slice uInts hv
  obtain ⟨fuel, hf⟩ := h
  exact open_intsV (y := (d, p)) (by simpa [Value.cells] using hf) hw

theorem weights_each3 {H : Type} {t0 t1 t2 : TypeId} {y0 y1 y2 : DataW H} {n : Nat} (h : n ∈ y2.weights Tryd.prog t2) : n ∈ DataW.weightsEach Tryd.prog [t0, t1, t2] [y0, y1, y2] := by
  simp only [DataW.weightsEach, List.mem_append]
  exact .inr (.inr (.inl h))

/-- A rule that came in. -/
theorem open_ruleV {H : Type} {enc : TypeId × Value → H} {W : World} {held : Bool} {v : Value} {d : DataW H} {p : List MemPlace} {b0 : Nat}
    (hv : Value.okWide Tryd.prog W .any b0 24 v) (h : DataW.Trod enc Tryd.prog W 0 (fun _ => true) held 24 v d p) (hw : ∀ n ∈ d.weights Tryd.prog 24, n ≤ reachBytes) :
    ∃ (k R : Int) (u : Value) (xs : List Int), v = .agg #[.int .i64 k, .int .i64 R, u] ∧ IntsAt W u xs ∧ xs.length ≤ 17592186043904 ∧ (∀ x ∈ xs, I64 x) ∧ I64 k ∧ I64 R := by
  obtain ⟨v0, v1, v2, y0, y1, y2, n, rfl, rfl, rfl, h0, h1, h2⟩ := open_agg3 Tryd.underlying24 (by kernel_rfl) (by kernel_rfl) hv h
  obtain ⟨a, e0, _, wa⟩ := DataW.trod_int uInt h0
  obtain ⟨b, e1, _, wb⟩ := DataW.trod_int uInt h1
  simp at e0 e1
  subst e0 e1
  obtain ⟨xs, hx, hl, hb⟩ := open_intsV h2 fun n hn => hw n (by
    simp only [DataW.weights, Tryd.underlying24]
    exact weights_each3 (t0 := 3) (t1 := 3) (t2 := 22) hn)
  exact ⟨a, b, v2, xs, rfl, hx, hl, hb, i64_of_wf wa, i64_of_wf wb⟩

/-! The package-level errors. -/
theorem star : "*" ++ "errors.errorString" = "*errors.errorString" := by decide
theorem rowES (u : TypeId) (h : Tryd.prog.typeName? 3 u = some "*errors.errorString") : u = 208 :=
  typeName_ptr_named (nm := "errors.errorString") (by rw [star]; kernel_rfl) (by kernel_rfl) (by decide) u (by rw [star]; exact h)
theorem pES : Tryd.prog.underlying 208 = some (.pointer 229) := by kernel_rfl
theorem cES : Tryd.prog.cellsOf 229 = 1 := by kernel_rfl
theorem cStr : Tryd.prog.cellsOf 9 = 1 := by kernel_rfl

def laid12 : List (String × DataW Unit) := [("eden/api.BadRule", Rows.laid_eden_api_BadRule), ("eden/api.BadWord", Rows.laid_eden_api_BadWord), ("eden/api.BadArg", Rows.laid_eden_api_BadArg), ("eden/api.TooBig", Rows.laid_eden_api_TooBig), ("eden/api.NoBudget", Rows.laid_eden_api_NoBudget), ("eden/api.BadText", Rows.laid_eden_api_BadText), ("eden/api.BadPatch", Rows.laid_eden_api_BadPatch), ("eden/api.BadCert", Rows.laid_eden_api_BadCert), ("eden/api.NoInverse", Rows.laid_eden_api_NoInverse), ("eden/api.BadLine", Rows.laid_eden_api_BadLine), ("eden/api.BadState", Rows.laid_eden_api_BadState), ("eden/api.Unknown", Rows.laid_eden_api_Unknown)]

theorem sentinel {n : String} {text : List UInt8} {r : List (String × DataW Unit)} {W : World} {g : Nat}
    (h : laidMet Tryd.prog ((n, .iface "*errors.errorString" (.ptr (.agg [.lit (.string text)]))) :: r) W)
    (hg : Tryd.prog.globalNamed n = some g) (ht : (Tryd.prog.globals[g]?).map (·.type) = some 27) :
    (∃ a : Addr, W.cell? ⟨g, 0, none⟩ = some (.iface 208 (.pointer (some a))) ∧ ∃ s, W.cell? a = some (.string s) ∧ s.data.toList = text) ∧ laidMet Tryd.prog r W := by
  refine ⟨?_, h.tail⟩
  obtain ⟨a, s, hv, hc, hs, _⟩ := laid_sentinel h hg ht Tryd.underlying27 rowES pES Tryd.underlying229 rfl rfl Tryd.underlying9 cES cStr
  exact ⟨a, by simpa using World.var?_cell hg hv 0, s, hc, hs⟩

def txt : Nat → List UInt8
  | 1 => [98, 97, 100, 32, 114, 117, 108, 101]
  | 2 => [98, 97, 100, 32, 119, 111, 114, 100]
  | 3 => [98, 97, 100, 32, 97, 114, 103, 117, 109, 101, 110, 116]
  | 4 => [116, 111, 111, 32, 98, 105, 103]
  | 5 => [110, 111, 32, 98, 117, 100, 103, 101, 116]
  | 6 => [98, 97, 100, 32, 116, 101, 120, 116]
  | 7 => [98, 97, 100, 32, 112, 97, 116, 99, 104]
  | 8 => [98, 97, 100, 32, 99, 101, 114, 116, 105, 102, 105, 99, 97, 116, 101]
  | 9 => [110, 111, 32, 105, 110, 118, 101, 114, 115, 101]
  | 10 => [98, 97, 100, 32, 108, 105, 110, 101]
  | 11 => [98, 97, 100, 32, 115, 116, 97, 116, 101]
  | 99 => [117, 110, 107, 110, 111, 119, 110]
  | _ => []
theorem txt_apart : ∀ m n : Fin 12, 1 ≤ m.val → 1 ≤ n.val → txt m.val = txt n.val → m = n := by decide

theorem glob_of_laid {W : World} (h : laidMet Tryd.prog laid12 W) : ∃ r, Glob r W := by
  obtain ⟨⟨a1, c1, s1, e1, t1⟩, h⟩ := sentinel (text := txt 1) h (g := 0) (by kernel_rfl) (by kernel_rfl)
  obtain ⟨⟨a2, c2, s2, e2, t2⟩, h⟩ := sentinel (text := txt 2) h (g := 1) (by kernel_rfl) (by kernel_rfl)
  obtain ⟨⟨a3, c3, s3, e3, t3⟩, h⟩ := sentinel (text := txt 3) h (g := 2) (by kernel_rfl) (by kernel_rfl)
  obtain ⟨⟨a4, c4, s4, e4, t4⟩, h⟩ := sentinel (text := txt 4) h (g := 3) (by kernel_rfl) (by kernel_rfl)
  obtain ⟨⟨a5, c5, s5, e5, t5⟩, h⟩ := sentinel (text := txt 5) h (g := 4) (by kernel_rfl) (by kernel_rfl)
  obtain ⟨⟨a6, c6, s6, e6, t6⟩, h⟩ := sentinel (text := txt 6) h (g := 5) (by kernel_rfl) (by kernel_rfl)
  obtain ⟨⟨a7, c7, s7, e7, t7⟩, h⟩ := sentinel (text := txt 7) h (g := 6) (by kernel_rfl) (by kernel_rfl)
  obtain ⟨⟨a8, c8, s8, e8, t8⟩, h⟩ := sentinel (text := txt 8) h (g := 7) (by kernel_rfl) (by kernel_rfl)
  obtain ⟨⟨a9, c9, s9, e9, t9⟩, h⟩ := sentinel (text := txt 9) h (g := 8) (by kernel_rfl) (by kernel_rfl)
  obtain ⟨⟨a10, c10, s10, e10, t10⟩, h⟩ := sentinel (text := txt 10) h (g := 9) (by kernel_rfl) (by kernel_rfl)
  obtain ⟨⟨a11, c11, s11, e11, t11⟩, h⟩ := sentinel (text := txt 11) h (g := 10) (by kernel_rfl) (by kernel_rfl)
  obtain ⟨⟨a99, c99, s99, e99, t99⟩, h⟩ := sentinel (text := txt 99) h (g := 11) (by kernel_rfl) (by kernel_rfl)
  clear h
  have key : ∀ n : Nat, (1 ≤ n ∧ n ≤ 11) ∨ n = 99 → ∃ s, W.cell? ((fun n : Nat => match n with | 1 => a1 | 2 => a2 | 3 => a3 | 4 => a4 | 5 => a5 | 6 => a6 | 7 => a7 | 8 => a8 | 9 => a9 | 10 => a10 | 11 => a11 | _ => a99) n) = some (.string s) ∧ s.data.toList = txt n := by
    intro n hn
    have : n = 1 ∨ n = 2 ∨ n = 3 ∨ n = 4 ∨ n = 5 ∨ n = 6 ∨ n = 7 ∨ n = 8 ∨ n = 9 ∨ n = 10 ∨ n = 11 ∨ n = 99 := by omega
    rcases this with rfl | rfl | rfl | rfl | rfl | rfl | rfl | rfl | rfl | rfl | rfl | rfl
    · exact ⟨s1, e1, t1⟩
    · exact ⟨s2, e2, t2⟩
    · exact ⟨s3, e3, t3⟩
    · exact ⟨s4, e4, t4⟩
    · exact ⟨s5, e5, t5⟩
    · exact ⟨s6, e6, t6⟩
    · exact ⟨s7, e7, t7⟩
    · exact ⟨s8, e8, t8⟩
    · exact ⟨s9, e9, t9⟩
    · exact ⟨s10, e10, t10⟩
    · exact ⟨s11, e11, t11⟩
    · exact ⟨s99, e99, t99⟩
  refine ⟨(fun n : Nat => match n with | 1 => a1 | 2 => a2 | 3 => a3 | 4 => a4 | 5 => a5 | 6 => a6 | 7 => a7 | 8 => a8 | 9 => a9 | 10 => a10 | 11 => a11 | _ => a99), c1, c2, c3, c4, c5, c6, c7, c8, c9, c10, c11, c99, (fun n hn => ?_), fun m n hm1 hm2 hn1 hn2 he => ?_⟩
  · obtain ⟨s, hs, _⟩ := key n hn
    exact ⟨s, hs⟩
  · obtain ⟨s, hs, ts⟩ := key m.toNat (by omega)
    obtain ⟨s', hs', ts'⟩ := key n.toNat (by omega)
    have hss : s = s' := by
      have := hs.symm.trans ((congrArg W.cell? he).trans hs')
      simpa using this
    subst hss
    have := txt_apart ⟨m.toNat, by omega⟩ ⟨n.toNat, by omega⟩ (by simp; omega) (by simp; omega) (ts.symm.trans ts')
    have := congrArg Fin.val this
    simp at this
    omega
end Go.Proofs.YtdldadgnggaopaaDoor

namespace Go.Proofs.YtdldadgnggaopaaDoor
open Go.ChangeShapes Go.WideShapes Go.ChangeAt Go.RowKit Go.Joins
namespace PairsTurnP

set_option maxRecDepth 100000 in
theorem door_met (os : Os) (args : Array Value) : laidMetH Tryd.prog Rows.pairsTurnRow.laid ((World.doorLaid Tryd.prog 400 os).forCall (fun _ _ => 0) ⟨#[], args, []⟩).memory :=
  laidMetH_of_parts3 (fuel := 8) (laidMet_of_run' 8 (by kernel_rfl) (by kernel_rfl)) (by kernel_rfl) (by kernel_rfl)

set_option maxRecDepth 100000 in
theorem lifted (os : Os) (started : os.Started) (H : Type) (enc : TypeId × Value → H) :
    ReturnsInHanded {} Tryd.checked os 4 .any (fun w args => (Rows.pairsTurnSpec.pre enc Tryd.prog Tryd.f4 [] false w args ∧ laidMetH Tryd.prog Rows.pairsTurnRow.laid w) ∧ sizedMet enc Tryd.prog Tryd.f4 (OpenSpec.ofChange Rows.pairsTurnSpec) false w args)
      (Rows.pairsTurnSpec.post enc Tryd.prog Tryd.f4 false true false false) := by
  refine returnsInHanded_of_change_and (C := Tryd.checked) (X := fun w _ => laidMetH Tryd.prog Rows.pairsTurnRow.laid w) (fun _ _ _ hh h => h.of_heap hh) own started (by kernel_rfl) Tryd.func4
    (ChangeSpec.witness_shaped (enc := enc) (C := Tryd.checked) (os := os) (X := fun w _ => laidMetH Tryd.prog Rows.pairsTurnRow.laid w) false (World.doorLaid Tryd.prog 400 os) #[.agg #[.int .i64 0, .int .i64 0, .slice none 0 0], .int .i64 0] 8 rfl (World.shaped_of_RefB (by kernel_rfl) (by kernel_rfl)) (by kernel_rfl) (by kernel_rfl) (by kernel_rfl) (door_met os _)) ?_
  intro W base args ds gs before hval0 hW _ hsz hL _
  have hval : ∀ (j : Nat) t v, Tryd.f4.params[j]? = some t → args[j]? = some v → Value.okWide Tryd.prog W .any base t v := hval0
  have hW' := hW
  obtain ⟨p, q, hA0, hV, rfl, hfz, hnd⟩ := hW
  have hA : DataW.TrodAll enc Tryd.prog W 0 (fun _ => true) true Tryd.f4.params.toList args.toList ds p := hA0
  rw [Tryd.params4] at hA hval hsz
  obtain ⟨v0, vs0, d0, ds0, p0, q0, hargs, rfl, rfl, g0, t0⟩ := trodAll_cons hA
  obtain ⟨v1, vs1, d1, ds1, p1, q1, rfl, rfl, rfl, g1, t1⟩ := trodAll_cons t0
  obtain ⟨rfl, rfl, rfl⟩ := trodAll_nil t1
  obtain rfl : args = #[v0, v1] := by cases args; simp_all
  obtain ⟨rfl, rfl⟩ := trodVars_none hV
  have kk0 := g0
  have lt0 : ∀ x ∈ p0, x.block < W.heap.size := by obtain ⟨m, hm⟩ := kk0; exact DataW.trod_lt m _ _ _ hm
  obtain ⟨kr0, rr0, u0, x0, rfl, h0, l0, b0, bk0, br0⟩ := open_ruleV (hval 0 24 v0 rfl rfl) g0 (fun n hn => by
    have := List.all_eq_true.1 hsz n (DataW.weights_mem_each (j := 0) (t := 24) rfl rfl n hn)
    simpa using this)
  obtain ⟨k1, rfl, rfl, rfl, w1⟩ := open_int uInt (hval 1 3 v1 rfl rfl) g1
  have b1 := i64_of_wf w1
  obtain ⟨r, hg⟩ := glob_of_laid (W := W) (by
    rw [MakeChecks.laidMetH_plain _ _ _ (by kernel_rfl)] at hL
    exact hL)
  clear hA0 hval0
  refine (pairsTurn_any r kr0 rr0 u0 x0 k1 W hg h0).mono fun e W' ⟨x, he, bel, hxx⟩ => ?_
  subst he; subst hxx
  exact ⟨_, rfl, _, _, _, [], _, [], hW', trodAll_mk1 (shut_bool Tryd.underlying4 _), (trodAll_cons_mk (Below.trod laidOut (by kernel_rfl) (of_decide_eq_true (by kernel_rfl)) kk0 bel lt0) (trodAll_cons_mk (shut_int uInt w1) trodAll_mk0)), rfl, bel.frame _, fun h => by cases h⟩

theorem over : Rows.PairsTurnSaid :=
  OpenClaim.holds_of_wide 4 Tryd.f4 rfl rfl rfl rfl rfl rfl rfl ⟨rfl, rfl, rfl, rfl, rfl⟩ rfl rfl rfl rfl rfl (by kernel_rfl) Tryd.func4 (by kernel_rfl)
    (of_decide_eq_true (by kernel_rfl)) (by unfold Func.isWrapper; first | (rw [if_pos (by decide +kernel)]; kernel_rfl) | (rw [if_neg (by decide +kernel)]; exact ⟨rfl, rfl⟩))
    (fun os started H enc _ => lifted os started H enc)

/-- The tied card. -/
theorem card_holds : Rows.PairsTurnCardSaid :=
  Claim7.holds_tied_plain_at .later [] [.sentinel, .sentinel, .sentinel, .sentinel, .sentinel, .sentinel, .sentinel, .sentinel, .sentinel, .sentinel, .sentinel, .sentinel] true _ true
    over (fun _ h => by cases h) (by kernel_rfl) (fun _ h => by cases h) pairsTurn_row_tie rfl ⟨rfl, rfl⟩ (by kernel_rfl) rfl
    (fun f fn hf hfn => by
      obtain rfl : f = 4 := Option.some.inj ((show Tryd.prog.funcNamed Rows.pairsTurnRow.func = some 4 by kernel_rfl).symm.trans hf) |>.symm
      obtain rfl : fn = Tryd.f4 := (Option.some.inj (Tryd.func4.symm.trans hfn)).symm
      exact ⟨by kernel_rfl, fun j t ht => by
        rw [Tryd.params4] at ht
        have hm : t ∈ [24, 3] := by simpa using Array.mem_of_getElem? ht
        have hall : ([24, 3].all fun u => !Tryd.prog.wantsStandIn u) = true := by kernel_rfl
        exact (show Tryd.prog.wantsStandIn t = false by simpa using List.all_eq_true.1 hall t hm)⟩)
    (by kernel_rfl)
end PairsTurnP
#print axioms PairsTurnP.card_holds
end Go.Proofs.YtdldadgnggaopaaDoor
