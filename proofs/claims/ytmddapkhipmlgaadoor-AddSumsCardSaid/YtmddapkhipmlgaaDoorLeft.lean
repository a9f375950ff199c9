/-
  Walk: permut.Left.
-/
import Derived.Test.YtmddapkhipmlgaaDoorRight
namespace Go.Proofs.YtmddapkhipmlgaaDoor
open Go.RowKit
set_option maxRecDepth 100000

theorem leftS_lt {K : Nat} {T : List Int} (hK : 1 ≤ K) (node : Nat) (hn : node < T.length / K) (w : List Int) : (leftS K T node w).1 < T.length / K := by
  induction w with
  | nil => exact hn
  | cons y w ih =>
    have hf := fit_lt hK T (leftS K T node w).1 (T.length / K) y
    show (fit K T (leftS K T node w).1 (T.length / K) y * (T.length / K) + (leftS K T node w).1) / K < T.length / K
    rw [Nat.div_lt_iff_lt_mul hK]
    have h1 : (fit K T (leftS K T node w).1 (T.length / K) y + 1) * (T.length / K) ≤ K * (T.length / K) := Nat.mul_le_mul_right _ hf
    rw [Nat.succ_mul] at h1
    rw [Nat.mul_comm (T.length / K) K]
    omega

theorem run_makeI (C : Int) (n : Nat) (w : World) (hC : C = n) (hn : n ≤ 17592186044416) :
    ∃ v w', (Instr.makeSlice 22 (.int .i64 C) (.int .i64 C)).run Tryd.prog w = .ok v w' ∧ OwnI w.heap.size w' v (List.replicate n 0) ∧ Below w.heap.size w w' := by
  subst hC
  obtain ⟨i, hi, hz0, hz1, hz2⟩ := info_parts iInt
  obtain ⟨w', hrun, r1, r2⟩ := run_make_full (P := Tryd.prog) w w.heap.size 22 3 i (.int .i64 0) 1 uInts hi hz0 hz1 .i64 .i64 n (by rw [hz2]; omega) (by unfold maxLen; omega) (Nat.le_refl _)
  refine ⟨_, w', hrun, ?_, (Below.refl _ _).grown r2 (Nat.le_refl _) (by intro k hk; cases hk)⟩
  have e : (madeCells (Value.cells (.int .i64 0)) (n * 1)).toList = (List.replicate n (0 : Int)).map (Value.int .i64) := by
    rw [show Value.cells (.int .i64 0) = #[.int .i64 0] from rfl, toList_madeCells_one]; simp
  rw [e] at r1
  simpa [OwnI] using r1

/-- What is left of an owned slice from a place on. -/
theorem OwnI.post {B : Nat} {w : World} {v : Value} {xs : List Int} (h : OwnI B w v xs) (off : Nat) (ho : off ≤ xs.length) :
    ∃ dp dLen dCap, (∀ w', (Instr.slice 22 v (some (.int .i64 off)) none none).run Tryd.prog w' = .ok (.slice dp dLen dCap) w') ∧ dLen = xs.length - off ∧ (0 < xs.length - off → dp = some (valAt v off)) := by
  rcases h.2 with ⟨rfl, hn⟩ | ⟨g, cap, cur, rfl, hB, hg, hn, hm, hs, ht⟩
  · have hr : ∀ w', (Instr.slice 22 (.slice none 0 0) (some (.int .i64 off)) none none).run Tryd.prog w' = .ok (sliced none off 0 0 1) w' := by
      intro w'
      rw [run_slice_l w' 22 none 0 0 uIntsE .i64 off (by omega) (by omega), eInts, sInt]
      rfl
    exact ⟨_, _, _, hr, by omega, by intro hh; omega⟩
  · have hr : ∀ w', (Instr.slice 22 (.slice (some ⟨g, 0, none⟩) xs.length cap) (some (.int .i64 off)) none none).run Tryd.prog w' = .ok (sliced (some ⟨g, 0, none⟩) off xs.length cap 1) w' := by
      intro w'
      rw [run_slice_l w' 22 (some ⟨g, 0, none⟩) xs.length cap uIntsE .i64 off (by omega) (by omega), eInts, sInt]
      rfl
    refine ⟨_, _, _, hr, rfl, fun hh => ?_⟩
    rw [if_neg (by omega), valAt_row]
    simp [Addr.add]
    intro e; exact e.symm

theorem left_bad1 (r : Nat → Addr) (k R : Int) (va : Option Addr) (vn vc : Nat) (xs : List Int) (u v : Value) (t : Int × List (ByteArray × Int)) (w : World) (hg : Glob r w) (h : IntsAt w (.slice va vn vc) xs) (hc : checkP k R xs = some t) :
    Calls Tryd.prog 22 #[.agg #[.int .i64 k, .int .i64 R, .slice va vn vc], u, v] w (Ret2 (fun x y w' => x = .slice none 0 0 ∧ ErrIs r w' (under sPermut 0 (some t)) y) w) := by
  have hb0 := belowAlloc w (.cells #[.int .i64 k, .int .i64 R, .slice va vn vc] 24)
  replace hg := Lib.hid (hg.below hb0)
  replace h := Lib.hid (h.below hb0)
  replace hc := Lib.hid hc
  go_enter Tryd.func22, Tryd.ntmps22
  go_wp2_with fail
  refine (sides_bad r k R va vn vc xs t _ hg.out h.out hc.out).mono ?_
  rintro e w1 ⟨x, y, z, rfl, hb, rfl, rfl, he⟩
  have he' := Lib.hid he
  obtain ⟨T, p, rfl⟩ := he.some_shape
  clear he
  go_wp2
  go_ret2
  exact ⟨_, _, rfl, Below.step hb0 hb, rfl, he'.out⟩

theorem left_bad2 (r : Nat → Addr) (K R : Nat) (va : Option Addr) (vn vc : Nat) (xs : List Int) (u v : Value) (w : World) (hg : Glob r w) (h : IntsAt w (.slice va vn vc) xs) (hr : RuleOk K R xs) (hu : unlikeP K xs (xs.length / K) = false) :
    Calls Tryd.prog 22 #[.agg #[.int .i64 K, .int .i64 R, .slice va vn vc], u, v] w (Ret2 (fun x y w' => x = .slice none 0 0 ∧ ErrIs r w' (fresh sPermut 0 3) y) w) := by
  have hb0 := belowAlloc w (.cells #[.int .i64 K, .int .i64 R, .slice va vn vc] 24)
  replace hg := Lib.hid (hg.below hb0)
  replace h := Lib.hid (h.below hb0)
  replace hr := Lib.hid hr
  replace hu := Lib.hid hu
  go_enter Tryd.func22, Tryd.ntmps22
  go_wp2_with fail
  refine (sides_ok K R va vn vc xs _ h.out hr.out).mono ?_
  rintro e w1 ⟨x, y, z, rfl, hb, rfl, rfl, rfl⟩
  rw [hu.out]
  generalize unlikeP K xs 1 = q
  go_wp2_with fail
  refine (perm_wrong r _ _ _ (hg.out.below hb) (by decide) (by decide)).mono ?_
  rintro e w2 ⟨x, rfl, hb', he⟩
  go_wp2
  go_ret2
  exact ⟨_, _, rfl, Below.step hb0 (Below.step hb hb'), rfl, he⟩

theorem left_bad3 (r : Nat → Addr) (K R : Nat) (va : Option Addr) (vn vc : Nat) (xs : List Int) (u v : Value) (ys zs : List Int) (t : Int × List (ByteArray × Int)) (w : World) (hg : Glob r w) (h : IntsAt w (.slice va vn vc) xs) (hr : RuleOk K R xs) (hp : unlikeP K xs (xs.length / K) = true)
    (hu : IntsAt w u ys) (hv : IntsAt w v zs) (hc : checkM K R ys zs = some t) :
    Calls Tryd.prog 22 #[.agg #[.int .i64 K, .int .i64 R, .slice va vn vc], u, v] w (Ret2 (fun x y w' => x = .slice none 0 0 ∧ ErrIs r w' (some t) y) w) := by
  have hb0 := belowAlloc w (.cells #[.int .i64 K, .int .i64 R, .slice va vn vc] 24)
  have hR := hr.r3
  replace hg := Lib.hid (hg.below hb0)
  replace h := Lib.hid (h.below hb0)
  replace hr := Lib.hid hr
  replace hp := Lib.hid hp
  replace hc := Lib.hid hc
  replace hu := Lib.hid (hu.below hb0)
  replace hv := Lib.hid (hv.below hb0)
  go_enter Tryd.func22, Tryd.ntmps22
  go_wp2_with fail
  refine (sides_ok K R va vn vc xs _ h.out hr.out).mono ?_
  rintro e w1 ⟨x, y, z, rfl, hb, rfl, rfl, rfl⟩
  rw [hp.out]
  obtain ⟨z0, z1, z2, f0, f1, f2⟩ := cells3 hb
  generalize unlikeP K xs 1 = q
  go_wp2_with fail
  refine (perm_check r K R va vn vc u v ys zs _ (hg.out.below hb) (hu.out.below hb) (hv.out.below hb) hR).mono ?_
  rintro e w2 ⟨x, rfl, hb', he⟩
  rw [hc.out] at he
  have he' := Lib.hid he
  obtain ⟨T, p, rfl⟩ := he.some_shape
  clear he
  go_wp2
  go_ret2
  exact ⟨_, _, rfl, Below.step hb0 (Below.step hb hb'), rfl, he'.out⟩

set_option maxHeartbeats 2000000 in
theorem left_ok (r : Nat → Addr) (K R : Nat) (va : Option Addr) (vn vc : Nat) (xs : List Int) (u v : Value) (ys zs : List Int) (w : World) (hg : Glob r w) (h : IntsAt w (.slice va vn vc) xs) (hr : RuleOk K R xs) (hp : unlikeP K xs (xs.length / K) = true)
    (hu : IntsAt w u ys) (hv : IntsAt w v zs) (hc : checkM K R ys zs = none) :
    Calls Tryd.prog 22 #[.agg #[.int .i64 K, .int .i64 R, .slice va vn vc], u, v] w (Ret2 (fun x y w' => OwnI w.heap.size w' x ((leftS K xs (numW K zs) ys).2 ++ zs) ∧ y = .nilIface) w) := by
  have hb0 := belowAlloc w (.cells #[.int .i64 K, .int .i64 R, .slice va vn vc] 24)
  have hR := hr.r3
  have hk1 := hr.k1
  have hk4 := hr.k4
  have hlen := hr.len_le
  have hhf := hr.half
  obtain ⟨hy4, hzl, hys, hzs⟩ := checkM_none hc
  have l1 := hu.len
  have l2 := hv.len
  replace hg := Lib.hid (hg.below hb0)
  replace h := Lib.hid (h.below hb0)
  replace hr := Lib.hid hr
  replace hhf := Lib.hid hhf
  replace hp := Lib.hid hp
  replace hc := Lib.hid hc
  have hz6 : zs.length ≤ 6 := by omega
  replace hzl := Lib.hid hzl
  replace hys := Lib.hid hys
  replace hzs := Lib.hid hzs
  obtain ⟨ua, un, uc, rfl⟩ := hu.shape
  obtain ⟨a2, n2, c2, rfl⟩ := hv.shape
  replace hu := Lib.hid (hu.below hb0)
  replace hv := Lib.hid (hv.below hb0)
  go_enter Tryd.func22, Tryd.ntmps22
  go_wp2_with fail
  refine (sides_ok K R va vn vc xs _ h.out hr.out).mono ?_
  rintro e w1 ⟨x, y, z, rfl, hb, rfl, rfl, rfl⟩
  rw [hp.out]
  obtain ⟨z0, z1, z2, f0, f1, f2⟩ := cells3 hb
  generalize unlikeP K xs 1 = q
  go_wp2_with fail
  refine (perm_check r K R va vn vc _ _ ys zs _ (hg.out.below hb) (hu.out.below hb) (hv.out.below hb) hR).mono ?_
  rintro e w2 ⟨x, rfl, hb', he⟩
  rw [hc.out] at he
  obtain rfl := he.none_eq
  clear he z0 z1 z2 f0 f1 f2
  replace hb := Below.step hb hb'
  clear hb'
  obtain ⟨z0, z1, z2, f0, f1, f2⟩ := cells3 hb
  go_wp2_with fail
  have hsz : w.heap.size < w2.heap.size := World.block_lt_of_cell? _ _ z0
  have hv2 := Lib.hid (hv.out.below hb)
  have hui := Lib.hid (hu.out.below hb)
  have hxi := Lib.hid (h.out.below hb)
  have zz := Lib.hid (And.intro z0 (And.intro z1 z2))
  clear z0 z1 z2 f0 f1 f2
  obtain ⟨ov, w3, hmk, hout, hb3⟩ := run_makeI ((ys.length : Int) + (zs.length : Int)) (ys.length + zs.length) w2 (by omega) (by omega)
  have hK0 : ((K : Int) == 0) = false := by rw [beq_eq_false_iff_ne]; omega
  have hK1 : ¬ (K : Int) = 0 := by omega
  have hK2 : (0 : Int) < K := by omega
  have hK3 : ¬ K = 0 := by omega
  have hq0 : 0 ≤ (xs.length : Int) / (K : Int) := Int.ediv_nonneg (by omega) (by omega)
  have hqc : (xs.length : Int) / (K : Int) = ((xs.length / K : Nat) : Int) := by simp
  have hqw : IntKind.i64.wrap ((xs.length : Int) / (K : Int)) = (xs.length : Int) / (K : Int) := by
    have : xs.length / K ≤ 16384 := Nat.le_trans (Nat.div_le_self _ _) hlen
    exact wrapK (by omega) (by rw [hqc]; omega)
  replace hqc := Lib.hid hqc
  have hlx := h.out.len
  have hol : (List.replicate (ys.length + zs.length) (0 : Int)).length = ys.length + zs.length := by simp
  obtain ⟨dp, dLen, dCap, hsl, hd1, hd2⟩ := hout.post ys.length (by omega)
  obtain ⟨w4, hcp, ho4, hb4, _⟩ := run_copyI ys.length 3 dp dLen dCap hout (hv2.out.below hb3) rfl (by omega) (by omega) (fun hh => hd2 (by omega))
  have e1 : (List.replicate (ys.length + zs.length) (0 : Int)).take ys.length ++ zs ++ (List.replicate (ys.length + zs.length) (0 : Int)).drop (ys.length + zs.length) = List.replicate ys.length 0 ++ zs := by
    rw [List.take_replicate, List.drop_replicate]; simp
  rw [e1] at ho4
  clear e1 hol hd1 hd2 hout
  have hbA : Below w2.heap.size w2 w4 := hb3.trans hb4
  replace ho4 := Lib.hid ho4
  clear hb3 hb4
  obtain ⟨z0, z1, z2⟩ := keep3 hbA zz.out
  have hvi := Lib.hid (hv2.out.below hbA)
  go_wp2_with fail
  rw [hmk]
  simp only [Result.andThen]
  go_wp2
  go_loop [14, 58] (fun n i => ∃ j : Nat, j ≤ zs.length ∧ i = .int .i64 j ∧ n = .int .i64 (numW K (zs.take j))) (fun _ i => zs.length - (intOf i).toNat)
  case atStart => exact ⟨0, by omega, rfl, rfl⟩
  case round =>
    obtain ⟨j, hj, rfl, rfl⟩ := hrel
    by_cases hjl : j < zs.length
    · have i1 := hvi.out.idx j hjl
      have c1 := hvi.out.cell j hjl
      have hx := hzs.out zs[j] (by simp)
      have hn : Hid (numW K (zs.take (j + 1)) = numW K (zs.take j) * K + zs[j].toNat) := by
        show _ = _
        rw [take_snoc zs j hjl, numW_snoc]
      have hn2 : numW K (zs.take j) ≤ 16384 := by
        have h1 := numW_lt (zs.take j) (fun x hx => hzs.out x (List.mem_of_mem_take hx))
        have h2 := pw_le hk1 hk4 (i := (zs.take j).length) (by simp; omega)
        omega
      generalize zs[j] = x at c1 hx hn
      generalize numW K (zs.take j) = N at hn hn2
      have hm1 : 0 ≤ (N : Int) * (K : Int) := Int.mul_nonneg (by omega) (by omega)
      have hm2 : (N : Int) * (K : Int) ≤ 65536 := by
        have : N * K ≤ 65536 := Nat.mul_le_mul hn2 hk4
        have h2 := Int.ofNat_le.2 this
        rw [Int.natCast_mul] at h2
        exact h2
      go_wp2
      go_round
      case rel => exact ⟨j + 1, by omega, by go_num, by rw [hn.out]; go_num⟩
      case measure => simp [intOf]; omega
    · obtain rfl : j = zs.length := by omega
      rw [List.take_length]
      have hN : numW K zs < xs.length / K := by
        rw [hhf.out.1, ← hzl.out]; exact numW_lt zs hzs.out
      have hlK : xs.length / K ≤ 16384 := Nat.le_trans (Nat.div_le_self _ _) hlen
      have hlKK : xs.length / K * K = xs.length := by rw [hhf.out.1]; exact hhf.out.2.symm
      have hlx := h.out.len
      generalize hN0 : numW K zs = N at hN
      replace hN0 := Lib.hid hN0
      have hq1 : (xs.length : Int) / (K : Int) ≤ 16384 := by rw [hqc.out]; omega
      have hq2 : 0 < (xs.length : Int) / (K : Int) := by rw [hqc.out]; omega
      replace hN := Lib.hid hN
      have hlK0 := Lib.hid hlK
      replace hlKK := Lib.hid hlKK
      clear z0 z1 z2 hlK hcp hsl hmk
      have hul := hui.out.len
      go_wp2
      go_loopw [14, 17] (fun n i wr => ∃ j : Nat, j ≤ ys.length ∧ i = .int .i64 ((j : Int) - 1) ∧ n = .int .i64 (leftS K xs N (ys.drop j)).1 ∧ OwnI w2.heap.size wr ov (List.replicate j 0 ++ (leftS K xs N (ys.drop j)).2 ++ zs) ∧ Below w2.heap.size w2 wr) (fun _ i _ => (intOf i + 1).toNat)
      case atStart => exact ⟨ys.length, by omega, rfl, by rw [List.drop_length]; rfl, by rw [List.drop_length]; simpa [leftS] using ho4.out, hbA⟩
      case round =>
        obtain ⟨j, hj, rfl, rfl, hO, hbO⟩ := hrel
        obtain ⟨wo, rfl⟩ : ∃ wo : World, wo = wr := ⟨_, rfl⟩
        cases j with
        | zero =>
          rw [show ((0 : Nat) : Int) - 1 = -1 from rfl]
          rw [List.drop_zero, List.replicate_zero, List.nil_append] at hO
          go_wp2
          go_ret2
          exact ⟨_, _, rfl, Below.step hb0 (Below.step hb hbO), (by rw [hN0.out]; exact hO.mono (by omega)), rfl⟩
        | succ j =>
          rw [show ((j + 1 : Nat) : Int) - 1 = (j : Int) by omega]
          have hjl : j < ys.length := by omega
          have hyi := hui.out.below hbO
          have i1 := hyi.idx j hjl
          have c1 := hyi.cell j hjl
          have b1 := hyi.blk j hjl
          obtain ⟨z0, z1, z2⟩ := keep3 hbO zz.out
          have hM := leftS_lt (T := xs) hk1 N hN.out (ys.drop (j + 1))
          have hD : Hid (leftS K xs N (ys.drop j) = ((fit K xs (leftS K xs N (ys.drop (j + 1))).1 (xs.length / K) ys[j] * (xs.length / K) + (leftS K xs N (ys.drop (j + 1))).1) / K, (fit K xs (leftS K xs N (ys.drop (j + 1))).1 (xs.length / K) ys[j] : Int) :: (leftS K xs N (ys.drop (j + 1))).2)) := by
            show _ = _
            rw [List.drop_eq_getElem_cons hjl]; rfl
          generalize ys[j] = x at c1 hD
          have hfl := fit_lt hk1 xs (leftS K xs N (ys.drop (j + 1))).1 (xs.length / K) x
          have hPl : (leftS K xs N (ys.drop (j + 1))).2.length ≤ 4096 := by rw [leftS_length]; simp; omega
          generalize leftS K xs N (ys.drop (j + 1)) = p at hO hM hD hfl hPl
          obtain ⟨M, P⟩ := p
          simp only [] at hO hM hD hfl hPl
          have hOl : j < (List.replicate (j + 1) (0 : Int) ++ P ++ zs).length := by simp; omega
          have hset : (List.replicate (j + 1) (0 : Int) ++ P ++ zs).set j (fit K xs M (xs.length / K) x : Int) = List.replicate j 0 ++ ((fit K xs M (xs.length / K) x : Int) :: P) ++ zs := by
            rw [List.replicate_succ', List.append_assoc, List.append_assoc, List.append_assoc, List.set_append_right _ _ (by simp)]
            simp
          have hin : M + (K - 1) * (xs.length / K) < xs.length := by
            have h1 : (K - 1 + 1) * (xs.length / K) = xs.length := by rw [Nat.sub_add_cancel hk1, Nat.mul_comm]; exact hlKK.out
            rw [Nat.succ_mul] at h1
            omega
          have hM1 : M ≤ 16384 := by have := hlK0.out; omega
          have hsm : fit K xs M (xs.length / K) x * (xs.length / K) ≤ 65536 := Nat.mul_le_mul (show _ ≤ 4 by omega) hlK0.out
          have hf : ∀ w_, IntsAt w_ (.slice va vn vc) xs → Calls Tryd.prog 57 #[.agg #[.int .i64 K, .int .i64 R, .slice va vn vc], .int .i64 M, .int .i64 ((xs.length : Int) / (K : Int)), .int .i64 x] w_ fun e w' => e = .returned (.int .i64 (fit K xs M (xs.length / K) x)) ∧ Below w_.heap.size w_ w' := by
            intro w_ h_
            rw [hqc.out]
            refine (perm_fits K R va vn vc xs M (xs.length / K) x w_ h_ hr.out hin).mono ?_
            rintro e w' ⟨h1, rfl⟩
            exact ⟨h1, belowAlloc _ _⟩
          generalize fit K xs M (xs.length / K) x = s at hset hD hfl hf hsm
          have hm1 : 0 ≤ (s : Int) * ((xs.length : Int) / (K : Int)) := Int.mul_nonneg (by omega) (by omega)
          have hm2 : (s : Int) * ((xs.length : Int) / (K : Int)) ≤ 65536 := by
            rw [hqc.out]
            have h2 := Int.ofNat_le.2 hsm
            rw [Int.natCast_mul] at h2
            exact h2
          have hdv0 : 0 ≤ ((s : Int) * ((xs.length : Int) / (K : Int)) + (M : Int)) / (K : Int) := Int.ediv_nonneg (by omega) (by omega)
          have hdvc : ((s : Int) * ((xs.length : Int) / (K : Int)) + (M : Int)) / (K : Int) = (((s * (xs.length / K) + M) / K : Nat) : Int) := by simp
          have hdv1 : ((s : Int) * ((xs.length : Int) / (K : Int)) + (M : Int)) / (K : Int) ≤ 131072 := by
            rw [hdvc]
            have : (s * (xs.length / K) + M) / K ≤ s * (xs.length / K) + M := Nat.div_le_self _ _
            omega
          have hdvw : IntKind.i64.wrap (((s : Int) * ((xs.length : Int) / (K : Int)) + (M : Int)) / (K : Int)) = ((s : Int) * ((xs.length : Int) / (K : Int)) + (M : Int)) / (K : Int) := wrapK (by omega) (by omega)
          replace hdvc := Lib.hid hdvc
          replace hset := Lib.hid hset
          replace hM := Lib.hid hM
          replace hO := Lib.hid hO
          replace hf := Lib.hid hf
          replace hin := Lib.hid hin
          have hxw := Lib.hid (hxi.out.below hbO)
          generalize List.replicate (j + 1) (0 : Int) ++ P ++ zs = O at hO hOl hset
          go_wp2
          go_region_held3 (fun w' => w'.cell? ⟨w.heap.size, 0, none⟩ = some (.int .i64 K) ∧ w'.cell? ⟨w.heap.size, 1, none⟩ = some (.int .i64 R) ∧ w'.cell? ⟨w.heap.size, 2, none⟩ = some (.slice va vn vc) ∧ w'.cell? (valAt (.slice ua un uc) j) = some (.int .i64 x)) (go_keep)
            (first | (go_at_call 57; refine (hf.out _ (by first | exact hxw.out.drew | exact hxw.out)).mono ?_; rintro e w5 ⟨rfl, hb'⟩; have S := keep3 hb' ⟨z0, z1, z2⟩; have y0 := S.1; have y1 := S.2.1; have y2 := S.2.2; have y3 := (hb'.cell b1).trans c1; have bb : Below wo.heap.size wo w5 := ((Below.refl _ _).drew).trans hb'))
          have hO5 := hO.out.below bb
          have hbT := hbO.trans (bb.mono hbO.size)
          have i3 := hO5.at.idx j hOl
          have c3 := hO5.at.cell j hOl
          have f3 := hO5.frz j hOl
          have hO6 := hO5.set j hOl (s : Int)
          have hb6 := hO5.setBelow hbT j hOl (.int .i64 (s : Int))
          obtain ⟨x0, x1, x2⟩ := keep3 hb6 zz.out
          rw [hset.out] at hO6
          replace hO6 := Lib.hid hO6
          generalize O[j] = o at c3
          clear hset hO5 hO y1 y2 y3 z0 z1 z2 c1 i1 x1 x2
          go_wp2
          go_roundw
          case rel =>
            refine ⟨j, by omega, by go_num, ?_, by rw [hD.out]; exact hO6.out, hb6⟩
            rw [hD.out, ← hdvc.out]
          case measure => simp [intOf]

/-- permut.Left at all operands. -/
theorem left_any (r : Nat → Addr) (k R : Int) (va : Option Addr) (vn vc : Nat) (xs : List Int) (u v : Value) (ys zs : List Int) (w : World) (hg : Glob r w) (h : IntsAt w (.slice va vn vc) xs) (hu : IntsAt w u ys) (hv : IntsAt w v zs) :
    Calls Tryd.prog 22 #[.agg #[.int .i64 k, .int .i64 R, .slice va vn vc], u, v] w (Ret2 (fun x y w' => ErrIs r w' (permF k R xs (xs.length / k.toNat) ys zs) y ∧ (permF k R xs (xs.length / k.toNat) ys zs = none → OwnI w.heap.size w' x ((leftS k.toNat xs (numW k.toNat zs) ys).2 ++ zs)) ∧ (permF k R xs (xs.length / k.toNat) ys zs ≠ none → x = .slice none 0 0)) w) := by
  cases hc : checkP k R xs with
  | some t =>
    have e : permF k R xs (xs.length / k.toNat) ys zs = under sPermut 0 (some t) := by simp [permF, hc]
    refine (left_bad1 r k R va vn vc xs u v t w hg h hc).mono ?_
    rintro e1 w' ⟨x, y, he, hb, hx, hy⟩
    exact ⟨x, y, he, hb, by rw [e]; exact hy, (fun h => by rw [e] at h; cases h), fun _ => hx⟩
  | none =>
    obtain ⟨K, R, rfl, rfl, hr⟩ := checkP_none hc
    rw [Int.toNat_natCast]
    cases hp : unlikeP K xs (xs.length / K) with
    | false =>
      have e : permF K R xs (xs.length / K) ys zs = fresh sPermut 0 3 := by simp [permF, hc, hp]
      refine (left_bad2 r K R va vn vc xs u v w hg h hr hp).mono ?_
      rintro e1 w' ⟨x, y, he, hb, hx, hy⟩
      exact ⟨x, y, he, hb, by rw [e]; exact hy, (fun h => by rw [e] at h; cases h), fun _ => hx⟩
    | true =>
      have e : permF K R xs (xs.length / K) ys zs = checkM K R ys zs := by simp [permF, hc, hp]
      cases hm : checkM K R ys zs with
      | some t =>
        rw [hm] at e
        refine (left_bad3 r K R va vn vc xs u v ys zs t w hg h hr hp hu hv hm).mono ?_
        rintro e1 w' ⟨x, y, he, hb, hx, hy⟩
        exact ⟨x, y, he, hb, by rw [e]; exact hy, (fun h => by rw [e] at h; cases h), fun _ => hx⟩
      | none =>
        rw [hm] at e
        refine (left_ok r K R va vn vc xs u v ys zs w hg h hr hp hu hv hm).mono ?_
        rintro e1 w' ⟨x, y, he, hb, hx, hy⟩
        exact ⟨x, y, he, hb, by rw [e]; exact hy, fun _ => hx, fun h => absurd e h⟩
end Go.Proofs.YtmddapkhipmlgaaDoor
