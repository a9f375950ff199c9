/-
  Walk: permut.Left.
  Walk: forms.made, with a function that holds two things.
  Walks: forms.behind, forms.check, forms.wrong, forms.Compose.
  A law for a region that draws its order: the operations of its head in an order of our own, each load under a fact on the world that the head keeps; then the forced tail, one behind the other.
  Walks: edenref04.Value, edenref05.fault, edenref05.Mirror at a rule.
  Walk: edenref05.Mirror at a rule.
  Walks: edenref19.right, edenref19.mirror, edenref03.Back.
  Walk: edenref19.Sides.
  append(s, t...) as a run and as a step of a drawn region; walk: edenraw.Copy.
  Walk: edenref19.fault.
  Pieces of a slice of ints: s[k:], s[k:l].
  Walk: edenref19.on.
  Walks: edenraw.LentRule, KeptRule.
  A store of a whole edenraw.Err into its box: what stays as it was.
-/
import Derived.Test.YtmddapkhipmlgaaDoorMPa3
import Derived.StillTail
import Derived.Deep.RegionHeld3
namespace Go.Proofs.YtmddapkhipmlgaaDoor
open Go.RowKit
set_option maxRecDepth 100000

theorem leftS_lt {K : Nat} {T : List Int} (hK : 1 ≤ K) (node : Nat) (hn : node < T.length / K) (w : List Int) : (leftS K T node w).1 < T.length / K := by
  induction w with
  | nil => exact hn
  | cons y w ih =>
    have hf := fit_lt hK T (leftS K T node w).1 (T.length / K) y
    show (fit K T (leftS K T node w).1 (T.length / K) y * (T.length / K) + (leftS K T node w).1) / K < T.length / K
    rw [Nat.div_lt_iff_lt_mul hK]
    have h1 : (fit K T (leftS K T node w).1 (T.length / K) y + 1) * (T.length / K) ≤ K * (T.length / K) := Nat.mul_le_mul_right _ hf
    rw [Nat.succ_mul] at h1
    rw [Nat.mul_comm (T.length / K) K]
    omega

theorem run_makeI (C : Int) (n : Nat) (w : World) (hC : C = n) (hn : n ≤ 17592186044416) :
    ∃ v w', (Instr.makeSlice 22 (.int .i64 C) (.int .i64 C)).run Tryd.prog w = .ok v w' ∧ OwnI w.heap.size w' v (List.replicate n 0) ∧ Below w.heap.size w w' := by
  subst hC
  obtain ⟨i, hi, hz0, hz1, hz2⟩ := info_parts iInt
  obtain ⟨w', hrun, r1, r2⟩ := run_make_full (P := Tryd.prog) w w.heap.size 22 3 i (.int .i64 0) 1 uInts hi hz0 hz1 .i64 .i64 n (by rw [hz2]; omega) (by unfold maxLen; omega) (Nat.le_refl _)
  refine ⟨_, w', hrun, ?_, (Below.refl _ _).grown r2 (Nat.le_refl _) (by intro k hk; cases hk)⟩
  have e : (madeCells (Value.cells (.int .i64 0)) (n * 1)).toList = (List.replicate n (0 : Int)).map (Value.int .i64) := by
    rw [show Value.cells (.int .i64 0) = #[.int .i64 0] from rfl, toList_madeCells_one]; simp
  rw [e] at r1
  simpa [OwnI] using r1

/-- What is left of an owned slice from a place on. -/
theorem OwnI.post {B : Nat} {w : World} {v : Value} {xs : List Int} (h : OwnI B w v xs) (off : Nat) (ho : off ≤ xs.length) :
    ∃ dp dLen dCap, (∀ w', (Instr.slice 22 v (some (.int .i64 off)) none none).run Tryd.prog w' = .ok (.slice dp dLen dCap) w') ∧ dLen = xs.length - off ∧ (0 < xs.length - off → dp = some (valAt v off)) := by
  rcases h.2 with ⟨rfl, hn⟩ | ⟨g, cap, cur, rfl, hB, hg, hn, hm, hs, ht⟩
  · have hr : ∀ w', (Instr.slice 22 (.slice none 0 0) (some (.int .i64 off)) none none).run Tryd.prog w' = .ok (sliced none off 0 0 1) w' := by
      intro w'
      rw [run_slice_l w' 22 none 0 0 uIntsE .i64 off (by omega) (by omega), eInts, sInt]
      rfl
    exact ⟨_, _, _, hr, by omega, by intro hh; omega⟩
  · have hr : ∀ w', (Instr.slice 22 (.slice (some ⟨g, 0, none⟩) xs.length cap) (some (.int .i64 off)) none none).run Tryd.prog w' = .ok (sliced (some ⟨g, 0, none⟩) off xs.length cap 1) w' := by
      intro w'
      rw [run_slice_l w' 22 (some ⟨g, 0, none⟩) xs.length cap uIntsE .i64 off (by omega) (by omega), eInts, sInt]
      rfl
    refine ⟨_, _, _, hr, rfl, fun hh => ?_⟩
    rw [if_neg (by omega), valAt_row]
    simp [Addr.add]
    intro e; exact e.symm

theorem left_bad1 (r : Nat → Addr) (k R : Int) (va : Option Addr) (vn vc : Nat) (xs : List Int) (u v : Value) (t : Int × List (ByteArray × Int)) (w : World) (hg : Glob r w) (h : IntsAt w (.slice va vn vc) xs) (hc : checkP k R xs = some t) :
    Calls Tryd.prog 22 #[.agg #[.int .i64 k, .int .i64 R, .slice va vn vc], u, v] w (Ret2 (fun x y w' => x = .slice none 0 0 ∧ ErrIs r w' (under sPermut 0 (some t)) y) w) := by
  have hb0 := belowAlloc w (.cells #[.int .i64 k, .int .i64 R, .slice va vn vc] 24)
  replace hg := Lib.hid (hg.below hb0)
  replace h := Lib.hid (h.below hb0)
  replace hc := Lib.hid hc
  go_enter Tryd.func22, Tryd.ntmps22
  go_wp2_with fail
  refine (sides_bad r k R va vn vc xs t _ hg.out h.out hc.out).mono ?_
  rintro e w1 ⟨x, y, z, rfl, hb, rfl, rfl, he⟩
  have he' := Lib.hid he
  obtain ⟨T, p, rfl⟩ := he.some_shape
  clear he
  go_wp2
  go_ret2
  exact ⟨_, _, rfl, Below.step hb0 hb, rfl, he'.out⟩

theorem left_bad2 (r : Nat → Addr) (K R : Nat) (va : Option Addr) (vn vc : Nat) (xs : List Int) (u v : Value) (w : World) (hg : Glob r w) (h : IntsAt w (.slice va vn vc) xs) (hr : RuleOk K R xs) (hu : unlikeP K xs (xs.length / K) = false) :
    Calls Tryd.prog 22 #[.agg #[.int .i64 K, .int .i64 R, .slice va vn vc], u, v] w (Ret2 (fun x y w' => x = .slice none 0 0 ∧ ErrIs r w' (fresh sPermut 0 3) y) w) := by
  have hb0 := belowAlloc w (.cells #[.int .i64 K, .int .i64 R, .slice va vn vc] 24)
  replace hg := Lib.hid (hg.below hb0)
  replace h := Lib.hid (h.below hb0)
  replace hr := Lib.hid hr
  replace hu := Lib.hid hu
  go_enter Tryd.func22, Tryd.ntmps22
  go_wp2_with fail
  refine (sides_ok K R va vn vc xs _ h.out hr.out).mono ?_
  rintro e w1 ⟨x, y, z, rfl, hb, rfl, rfl, rfl⟩
  rw [hu.out]
  generalize unlikeP K xs 1 = q
  go_wp2_with fail
  refine (perm_wrong r _ _ _ (hg.out.below hb) (by decide) (by decide)).mono ?_
  rintro e w2 ⟨x, rfl, hb', he⟩
  go_wp2
  go_ret2
  exact ⟨_, _, rfl, Below.step hb0 (Below.step hb hb'), rfl, he⟩

theorem left_bad3 (r : Nat → Addr) (K R : Nat) (va : Option Addr) (vn vc : Nat) (xs : List Int) (u v : Value) (ys zs : List Int) (t : Int × List (ByteArray × Int)) (w : World) (hg : Glob r w) (h : IntsAt w (.slice va vn vc) xs) (hr : RuleOk K R xs) (hp : unlikeP K xs (xs.length / K) = true)
    (hu : IntsAt w u ys) (hv : IntsAt w v zs) (hc : checkM K R ys zs = some t) :
    Calls Tryd.prog 22 #[.agg #[.int .i64 K, .int .i64 R, .slice va vn vc], u, v] w (Ret2 (fun x y w' => x = .slice none 0 0 ∧ ErrIs r w' (some t) y) w) := by
  have hb0 := belowAlloc w (.cells #[.int .i64 K, .int .i64 R, .slice va vn vc] 24)
  have hR := hr.r3
  replace hg := Lib.hid (hg.below hb0)
  replace h := Lib.hid (h.below hb0)
  replace hr := Lib.hid hr
  replace hp := Lib.hid hp
  replace hc := Lib.hid hc
  replace hu := Lib.hid (hu.below hb0)
  replace hv := Lib.hid (hv.below hb0)
  go_enter Tryd.func22, Tryd.ntmps22
  go_wp2_with fail
  refine (sides_ok K R va vn vc xs _ h.out hr.out).mono ?_
  rintro e w1 ⟨x, y, z, rfl, hb, rfl, rfl, rfl⟩
  rw [hp.out]
  obtain ⟨z0, z1, z2, f0, f1, f2⟩ := cells3 hb
  generalize unlikeP K xs 1 = q
  go_wp2_with fail
  refine (perm_check r K R va vn vc u v ys zs _ (hg.out.below hb) (hu.out.below hb) (hv.out.below hb) hR).mono ?_
  rintro e w2 ⟨x, rfl, hb', he⟩
  rw [hc.out] at he
  have he' := Lib.hid he
  obtain ⟨T, p, rfl⟩ := he.some_shape
  clear he
  go_wp2
  go_ret2
  exact ⟨_, _, rfl, Below.step hb0 (Below.step hb hb'), rfl, he'.out⟩

set_option maxHeartbeats 2000000 in
theorem left_ok (r : Nat → Addr) (K R : Nat) (va : Option Addr) (vn vc : Nat) (xs : List Int) (u v : Value) (ys zs : List Int) (w : World) (hg : Glob r w) (h : IntsAt w (.slice va vn vc) xs) (hr : RuleOk K R xs) (hp : unlikeP K xs (xs.length / K) = true)
    (hu : IntsAt w u ys) (hv : IntsAt w v zs) (hc : checkM K R ys zs = none) :
    Calls Tryd.prog 22 #[.agg #[.int .i64 K, .int .i64 R, .slice va vn vc], u, v] w (Ret2 (fun x y w' => OwnI w.heap.size w' x ((leftS K xs (numW K zs) ys).2 ++ zs) ∧ y = .nilIface) w) := by
  have hb0 := belowAlloc w (.cells #[.int .i64 K, .int .i64 R, .slice va vn vc] 24)
  have hR := hr.r3
  have hk1 := hr.k1
  have hk4 := hr.k4
  have hlen := hr.len_le
  have hhf := hr.half
  obtain ⟨hy4, hzl, hys, hzs⟩ := checkM_none hc
  have l1 := hu.len
  have l2 := hv.len
  replace hg := Lib.hid (hg.below hb0)
  replace h := Lib.hid (h.below hb0)
  replace hr := Lib.hid hr
  replace hhf := Lib.hid hhf
  replace hp := Lib.hid hp
  replace hc := Lib.hid hc
  have hz6 : zs.length ≤ 6 := by omega
  replace hzl := Lib.hid hzl
  replace hys := Lib.hid hys
  replace hzs := Lib.hid hzs
  obtain ⟨ua, un, uc, rfl⟩ := hu.shape
  obtain ⟨a2, n2, c2, rfl⟩ := hv.shape
  replace hu := Lib.hid (hu.below hb0)
  replace hv := Lib.hid (hv.below hb0)
  go_enter Tryd.func22, Tryd.ntmps22
  go_wp2_with fail
  refine (sides_ok K R va vn vc xs _ h.out hr.out).mono ?_
  rintro e w1 ⟨x, y, z, rfl, hb, rfl, rfl, rfl⟩
  rw [hp.out]
  obtain ⟨z0, z1, z2, f0, f1, f2⟩ := cells3 hb
  generalize unlikeP K xs 1 = q
  go_wp2_with fail
  refine (perm_check r K R va vn vc _ _ ys zs _ (hg.out.below hb) (hu.out.below hb) (hv.out.below hb) hR).mono ?_
  rintro e w2 ⟨x, rfl, hb', he⟩
  rw [hc.out] at he
  obtain rfl := he.none_eq
  clear he z0 z1 z2 f0 f1 f2
  replace hb := Below.step hb hb'
  clear hb'
  obtain ⟨z0, z1, z2, f0, f1, f2⟩ := cells3 hb
  go_wp2_with fail
  have hsz : w.heap.size < w2.heap.size := World.block_lt_of_cell? _ _ z0
  have hv2 := Lib.hid (hv.out.below hb)
  have hui := Lib.hid (hu.out.below hb)
  have hxi := Lib.hid (h.out.below hb)
  have zz := Lib.hid (And.intro z0 (And.intro z1 z2))
  clear z0 z1 z2 f0 f1 f2
  obtain ⟨ov, w3, hmk, hout, hb3⟩ := run_makeI ((ys.length : Int) + (zs.length : Int)) (ys.length + zs.length) w2 (by omega) (by omega)
  have hK0 : ((K : Int) == 0) = false := by rw [beq_eq_false_iff_ne]; omega
  have hK1 : ¬ (K : Int) = 0 := by omega
  have hK2 : (0 : Int) < K := by omega
  have hK3 : ¬ K = 0 := by omega
  have hq0 : 0 ≤ (xs.length : Int) / (K : Int) := Int.ediv_nonneg (by omega) (by omega)
  have hqc : (xs.length : Int) / (K : Int) = ((xs.length / K : Nat) : Int) := by simp
  have hqw : IntKind.i64.wrap ((xs.length : Int) / (K : Int)) = (xs.length : Int) / (K : Int) := by
    have : xs.length / K ≤ 16384 := Nat.le_trans (Nat.div_le_self _ _) hlen
    exact wrapK (by omega) (by rw [hqc]; omega)
  replace hqc := Lib.hid hqc
  have hlx := h.out.len
  have hol : (List.replicate (ys.length + zs.length) (0 : Int)).length = ys.length + zs.length := by simp
  obtain ⟨dp, dLen, dCap, hsl, hd1, hd2⟩ := hout.post ys.length (by omega)
  obtain ⟨w4, hcp, ho4, hb4, _⟩ := run_copyI ys.length 3 dp dLen dCap hout (hv2.out.below hb3) rfl (by omega) (by omega) (fun hh => hd2 (by omega))
  have e1 : (List.replicate (ys.length + zs.length) (0 : Int)).take ys.length ++ zs ++ (List.replicate (ys.length + zs.length) (0 : Int)).drop (ys.length + zs.length) = List.replicate ys.length 0 ++ zs := by
    rw [List.take_replicate, List.drop_replicate]; simp
  rw [e1] at ho4
  clear e1 hol hd1 hd2 hout
  have hbA : Below w2.heap.size w2 w4 := hb3.trans hb4
  replace ho4 := Lib.hid ho4
  clear hb3 hb4
  obtain ⟨z0, z1, z2⟩ := keep3 hbA zz.out
  have hvi := Lib.hid (hv2.out.below hbA)
  go_wp2_with fail
  rw [hmk]
  simp only [Result.andThen]
  go_wp2
  go_loop [14, 58] (fun n i => ∃ j : Nat, j ≤ zs.length ∧ i = .int .i64 j ∧ n = .int .i64 (numW K (zs.take j))) (fun _ i => zs.length - (intOf i).toNat)
  case atStart => exact ⟨0, by omega, rfl, rfl⟩
  case round =>
    obtain ⟨j, hj, rfl, rfl⟩ := hrel
    by_cases hjl : j < zs.length
    · have i1 := hvi.out.idx j hjl
      have c1 := hvi.out.cell j hjl
      have hx := hzs.out zs[j] (by simp)
      have hn : Hid (numW K (zs.take (j + 1)) = numW K (zs.take j) * K + zs[j].toNat) := by
        show _ = _
        rw [take_snoc zs j hjl, numW_snoc]
      have hn2 : numW K (zs.take j) ≤ 16384 := by
        have h1 := numW_lt (zs.take j) (fun x hx => hzs.out x (List.mem_of_mem_take hx))
        have h2 := pw_le hk1 hk4 (i := (zs.take j).length) (by simp; omega)
        omega
      generalize zs[j] = x at c1 hx hn
      generalize numW K (zs.take j) = N at hn hn2
      have hm1 : 0 ≤ (N : Int) * (K : Int) := Int.mul_nonneg (by omega) (by omega)
      have hm2 : (N : Int) * (K : Int) ≤ 65536 := by
        have : N * K ≤ 65536 := Nat.mul_le_mul hn2 hk4
        have h2 := Int.ofNat_le.2 this
        rw [Int.natCast_mul] at h2
        exact h2
      go_wp2
      go_round
      case rel => exact ⟨j + 1, by omega, by go_num, by rw [hn.out]; go_num⟩
      case measure => simp [intOf]; omega
    · obtain rfl : j = zs.length := by omega
      rw [List.take_length]
      have hN : numW K zs < xs.length / K := by
        rw [hhf.out.1, ← hzl.out]; exact numW_lt zs hzs.out
      have hlK : xs.length / K ≤ 16384 := Nat.le_trans (Nat.div_le_self _ _) hlen
      have hlKK : xs.length / K * K = xs.length := by rw [hhf.out.1]; exact hhf.out.2.symm
      have hlx := h.out.len
      generalize hN0 : numW K zs = N at hN
      replace hN0 := Lib.hid hN0
      have hq1 : (xs.length : Int) / (K : Int) ≤ 16384 := by rw [hqc.out]; omega
      have hq2 : 0 < (xs.length : Int) / (K : Int) := by rw [hqc.out]; omega
      replace hN := Lib.hid hN
      have hlK0 := Lib.hid hlK
      replace hlKK := Lib.hid hlKK
      clear z0 z1 z2 hlK hcp hsl hmk
      have hul := hui.out.len
      go_wp2
      go_loopw [14, 17] (fun n i wr => ∃ j : Nat, j ≤ ys.length ∧ i = .int .i64 ((j : Int) - 1) ∧ n = .int .i64 (leftS K xs N (ys.drop j)).1 ∧ OwnI w2.heap.size wr ov (List.replicate j 0 ++ (leftS K xs N (ys.drop j)).2 ++ zs) ∧ Below w2.heap.size w2 wr) (fun _ i _ => (intOf i + 1).toNat)
      case atStart => exact ⟨ys.length, by omega, rfl, by rw [List.drop_length]; rfl, by rw [List.drop_length]; simpa [leftS] using ho4.out, hbA⟩
      case round =>
        obtain ⟨j, hj, rfl, rfl, hO, hbO⟩ := hrel
        obtain ⟨wo, rfl⟩ : ∃ wo : World, wo = wr := ⟨_, rfl⟩
        cases j with
        | zero =>
          rw [show ((0 : Nat) : Int) - 1 = -1 from rfl]
          rw [List.drop_zero, List.replicate_zero, List.nil_append] at hO
          go_wp2
          go_ret2
          exact ⟨_, _, rfl, Below.step hb0 (Below.step hb hbO), (by rw [hN0.out]; exact hO.mono (by omega)), rfl⟩
        | succ j =>
          rw [show ((j + 1 : Nat) : Int) - 1 = (j : Int) by omega]
          have hjl : j < ys.length := by omega
          have hyi := hui.out.below hbO
          have i1 := hyi.idx j hjl
          have c1 := hyi.cell j hjl
          have b1 := hyi.blk j hjl
          obtain ⟨z0, z1, z2⟩ := keep3 hbO zz.out
          have hM := leftS_lt (T := xs) hk1 N hN.out (ys.drop (j + 1))
          have hD : Hid (leftS K xs N (ys.drop j) = ((fit K xs (leftS K xs N (ys.drop (j + 1))).1 (xs.length / K) ys[j] * (xs.length / K) + (leftS K xs N (ys.drop (j + 1))).1) / K, (fit K xs (leftS K xs N (ys.drop (j + 1))).1 (xs.length / K) ys[j] : Int) :: (leftS K xs N (ys.drop (j + 1))).2)) := by
            show _ = _
            rw [List.drop_eq_getElem_cons hjl]; rfl
          generalize ys[j] = x at c1 hD
          have hfl := fit_lt hk1 xs (leftS K xs N (ys.drop (j + 1))).1 (xs.length / K) x
          have hPl : (leftS K xs N (ys.drop (j + 1))).2.length ≤ 4096 := by rw [leftS_length]; simp; omega
          generalize leftS K xs N (ys.drop (j + 1)) = p at hO hM hD hfl hPl
          obtain ⟨M, P⟩ := p
          simp only [] at hO hM hD hfl hPl
          have hOl : j < (List.replicate (j + 1) (0 : Int) ++ P ++ zs).length := by simp; omega
          have hset : (List.replicate (j + 1) (0 : Int) ++ P ++ zs).set j (fit K xs M (xs.length / K) x : Int) = List.replicate j 0 ++ ((fit K xs M (xs.length / K) x : Int) :: P) ++ zs := by
            rw [List.replicate_succ', List.append_assoc, List.append_assoc, List.append_assoc, List.set_append_right _ _ (by simp)]
            simp
          have hin : M + (K - 1) * (xs.length / K) < xs.length := by
            have h1 : (K - 1 + 1) * (xs.length / K) = xs.length := by rw [Nat.sub_add_cancel hk1, Nat.mul_comm]; exact hlKK.out
            rw [Nat.succ_mul] at h1
            omega
          have hM1 : M ≤ 16384 := by have := hlK0.out; omega
          have hsm : fit K xs M (xs.length / K) x * (xs.length / K) ≤ 65536 := Nat.mul_le_mul (show _ ≤ 4 by omega) hlK0.out
          have hf : ∀ w_, IntsAt w_ (.slice va vn vc) xs → Calls Tryd.prog 57 #[.agg #[.int .i64 K, .int .i64 R, .slice va vn vc], .int .i64 M, .int .i64 ((xs.length : Int) / (K : Int)), .int .i64 x] w_ fun e w' => e = .returned (.int .i64 (fit K xs M (xs.length / K) x)) ∧ Below w_.heap.size w_ w' := by
            intro w_ h_
            rw [hqc.out]
            refine (perm_fits K R va vn vc xs M (xs.length / K) x w_ h_ hr.out hin).mono ?_
            rintro e w' ⟨h1, rfl⟩
            exact ⟨h1, belowAlloc _ _⟩
          generalize fit K xs M (xs.length / K) x = s at hset hD hfl hf hsm
          have hm1 : 0 ≤ (s : Int) * ((xs.length : Int) / (K : Int)) := Int.mul_nonneg (by omega) (by omega)
          have hm2 : (s : Int) * ((xs.length : Int) / (K : Int)) ≤ 65536 := by
            rw [hqc.out]
            have h2 := Int.ofNat_le.2 hsm
            rw [Int.natCast_mul] at h2
            exact h2
          have hdv0 : 0 ≤ ((s : Int) * ((xs.length : Int) / (K : Int)) + (M : Int)) / (K : Int) := Int.ediv_nonneg (by omega) (by omega)
          have hdvc : ((s : Int) * ((xs.length : Int) / (K : Int)) + (M : Int)) / (K : Int) = (((s * (xs.length / K) + M) / K : Nat) : Int) := by simp
          have hdv1 : ((s : Int) * ((xs.length : Int) / (K : Int)) + (M : Int)) / (K : Int) ≤ 131072 := by
            rw [hdvc]
            have : (s * (xs.length / K) + M) / K ≤ s * (xs.length / K) + M := Nat.div_le_self _ _
            omega
          have hdvw : IntKind.i64.wrap (((s : Int) * ((xs.length : Int) / (K : Int)) + (M : Int)) / (K : Int)) = ((s : Int) * ((xs.length : Int) / (K : Int)) + (M : Int)) / (K : Int) := wrapK (by omega) (by omega)
          replace hdvc := Lib.hid hdvc
          replace hset := Lib.hid hset
          replace hM := Lib.hid hM
          replace hO := Lib.hid hO
          replace hf := Lib.hid hf
          replace hin := Lib.hid hin
          have hxw := Lib.hid (hxi.out.below hbO)
          generalize List.replicate (j + 1) (0 : Int) ++ P ++ zs = O at hO hOl hset
          go_wp2
          go_region_held3 (fun w' => w'.cell? ⟨w.heap.size, 0, none⟩ = some (.int .i64 K) ∧ w'.cell? ⟨w.heap.size, 1, none⟩ = some (.int .i64 R) ∧ w'.cell? ⟨w.heap.size, 2, none⟩ = some (.slice va vn vc) ∧ w'.cell? (valAt (.slice ua un uc) j) = some (.int .i64 x)) (go_keep)
            (first | (go_at_call 57; refine (hf.out _ (by first | exact hxw.out.drew | exact hxw.out)).mono ?_; rintro e w5 ⟨rfl, hb'⟩; have S := keep3 hb' ⟨z0, z1, z2⟩; have y0 := S.1; have y1 := S.2.1; have y2 := S.2.2; have y3 := (hb'.cell b1).trans c1; have bb : Below wo.heap.size wo w5 := ((Below.refl _ _).drew).trans hb'))
          have hO5 := hO.out.below bb
          have hbT := hbO.trans (bb.mono hbO.size)
          have i3 := hO5.at.idx j hOl
          have c3 := hO5.at.cell j hOl
          have f3 := hO5.frz j hOl
          have hO6 := hO5.set j hOl (s : Int)
          have hb6 := hO5.setBelow hbT j hOl (.int .i64 (s : Int))
          obtain ⟨x0, x1, x2⟩ := keep3 hb6 zz.out
          rw [hset.out] at hO6
          replace hO6 := Lib.hid hO6
          generalize O[j] = o at c3
          clear hset hO5 hO y1 y2 y3 z0 z1 z2 c1 i1 x1 x2
          go_wp2
          go_roundw
          case rel =>
            refine ⟨j, by omega, by go_num, ?_, by rw [hD.out]; exact hO6.out, hb6⟩
            rw [hD.out, ← hdvc.out]
          case measure => simp [intOf]

/-- permut.Left at all operands. -/
theorem left_any (r : Nat → Addr) (k R : Int) (va : Option Addr) (vn vc : Nat) (xs : List Int) (u v : Value) (ys zs : List Int) (w : World) (hg : Glob r w) (h : IntsAt w (.slice va vn vc) xs) (hu : IntsAt w u ys) (hv : IntsAt w v zs) :
    Calls Tryd.prog 22 #[.agg #[.int .i64 k, .int .i64 R, .slice va vn vc], u, v] w (Ret2 (fun x y w' => ErrIs r w' (permF k R xs (xs.length / k.toNat) ys zs) y ∧ (permF k R xs (xs.length / k.toNat) ys zs = none → OwnI w.heap.size w' x ((leftS k.toNat xs (numW k.toNat zs) ys).2 ++ zs)) ∧ (permF k R xs (xs.length / k.toNat) ys zs ≠ none → x = .slice none 0 0)) w) := by
  cases hc : checkP k R xs with
  | some t =>
    have e : permF k R xs (xs.length / k.toNat) ys zs = under sPermut 0 (some t) := by simp [permF, hc]
    refine (left_bad1 r k R va vn vc xs u v t w hg h hc).mono ?_
    rintro e1 w' ⟨x, y, he, hb, hx, hy⟩
    exact ⟨x, y, he, hb, by rw [e]; exact hy, (fun h => by rw [e] at h; cases h), fun _ => hx⟩
  | none =>
    obtain ⟨K, R, rfl, rfl, hr⟩ := checkP_none hc
    rw [Int.toNat_natCast]
    cases hp : unlikeP K xs (xs.length / K) with
    | false =>
      have e : permF K R xs (xs.length / K) ys zs = fresh sPermut 0 3 := by simp [permF, hc, hp]
      refine (left_bad2 r K R va vn vc xs u v w hg h hr hp).mono ?_
      rintro e1 w' ⟨x, y, he, hb, hx, hy⟩
      exact ⟨x, y, he, hb, by rw [e]; exact hy, (fun h => by rw [e] at h; cases h), fun _ => hx⟩
    | true =>
      have e : permF K R xs (xs.length / K) ys zs = checkM K R ys zs := by simp [permF, hc, hp]
      cases hm : checkM K R ys zs with
      | some t =>
        rw [hm] at e
        refine (left_bad3 r K R va vn vc xs u v ys zs t w hg h hr hp hu hv hm).mono ?_
        rintro e1 w' ⟨x, y, he, hb, hx, hy⟩
        exact ⟨x, y, he, hb, by rw [e]; exact hy, (fun h => by rw [e] at h; cases h), fun _ => hx⟩
      | none =>
        rw [hm] at e
        refine (left_ok r K R va vn vc xs u v ys zs w hg h hr hp hu hv hm).mono ?_
        rintro e1 w' ⟨x, y, he, hb, hx, hy⟩
        exact ⟨x, y, he, hb, by rw [e]; exact hy, fun _ => hx, fun h => absurd e h⟩
end Go.Proofs.YtmddapkhipmlgaaDoor

namespace Go.Proofs.YtmddapkhipmlgaaDoor
open Go.RowKit
set_option maxRecDepth 100000

/-- The table of a function of windows. -/
def madeP (K n : Nat) (s : List Int → Int) (m : Nat) : List Int := (List.range m).map fun x => s (digs K n x)
theorem madeP_length (K n : Nat) (s : List Int → Int) (m : Nat) : (madeP K n s m).length = m := by simp [madeP]

theorem madeP_set (K n : Nat) (s : List Int → Int) (m P : Nat) (h : m < P) : (madeP K n s m ++ List.replicate (P - m) (0 : Int)).set m (s (digs K n m)) = madeP K n s (m + 1) ++ List.replicate (P - (m + 1)) 0 := by
  rw [List.set_append_right _ _ (by rw [madeP_length]; exact Nat.le_refl _), madeP_length, Nat.sub_self, show P - m = (P - (m + 1)) + 1 by omega, List.replicate_succ, List.set_cons_zero, madeP, madeP, List.range_succ, List.map_append, List.append_assoc]
  rfl

set_option maxHeartbeats 800000 in
theorem made_two0 (K R F : Nat) (c1 c2 : Value) (s : List Int → Int) (w : World) (hk1 : 1 ≤ K) (hk4 : K ≤ 4) (hR : R ≤ 3)
    (eg : ∀ args w, (callFunc F args).run Tryd.prog w = .ok (.enter F args) w)
    (hF : ∀ (v : Value) (ys : List Int) (w' : World), Below w.heap.size w w' → IntsAt w' v ys → Syms K ys → ys.length = 2 * R + 1 → Calls Tryd.prog F #[v, c1, c2] w' (Ret1 (fun x _ => x = .int .i64 (s ys)) w')) :
    Calls Tryd.prog 89 #[.int .i64 K, .int .i64 R, .func (.func F) #[] #[c1, c2]] w (Ret1 (fun x w' => ∃ a n c, x = .agg #[.int .i64 K, .int .i64 R, .slice a n c] ∧ OwnI w.heap.size w' (.slice a n c) (madeP K (2 * R + 1) s (pw K (2 * R + 1)))) w) := by
  have hpl := pw_le hk1 hk4 (i := 2 * R + 1) (by omega)
  replace hF := Lib.hid hF
  go_enter Tryd.func89, Tryd.ntmps89
  go_wp2_with fail
  refine (size_ok K R _ hk1 hk4 hR).mono ?_
  rintro e w' ⟨rfl, rfl⟩
  go_wp2_with fail
  have hb0 := belowAlloc w (.cells #[.int .i64 0, .int .i64 0, .slice none 0 0] 24)
  obtain ⟨tv, w1, hmk, ho1, hb1⟩ := run_makeI ((pw K (2 * R + 1) : Nat) : Int) (pw K (2 * R + 1)) (w.alloc (.cells #[.int .i64 0, .int .i64 0, .slice none 0 0] 24)) rfl (by omega)
  obtain ⟨ta, tn, tc, rfl⟩ := ho1.at.shape
  rw [hmk]
  simp only [Result.andThen]
  clear hmk
  generalize hN : 2 * R + 1 = N at *
  go_wp2_with fail
  obtain ⟨wv, w2, hmk2, ho2, hb2⟩ := run_makeI (2 * (R : Int) + 1) N (w1.alloc (.cells #[.int .i64 K, .int .i64 R, .slice ta tn tc] 24)) (by omega) (by omega)
  obtain ⟨wa, wn, wc, rfl⟩ := ho2.at.shape
  rw [hmk2]
  simp only [Result.andThen]
  clear hmk2
  obtain ⟨z0, z1, z2, -, -, -⟩ := cells3 hb2
  have lt := (ho1.at.len)
  rw [List.length_replicate] at lt
  have hN7 : N ≤ 7 := by omega
  replace hN := Lib.hid hN
  have ltb : ∀ k, (Value.slice ta tn tc).ownBlock = some k → k < w1.heap.size := fun k hk => (ho1.lt k hk).2
  have lwn := ho2.at.len
  rw [List.length_replicate] at lwn
  have ho1' := Lib.hid ((ho1.alloc (.cells #[.int .i64 K, .int .i64 R, .slice ta tn tc] 24)).below hb2)
  have zz := Lib.hid (And.intro z0 (And.intro z1 z2))
  have hbw := Lib.hid (hb1.trans ((Below.step (belowAlloc w1 (.cells #[.int .i64 K, .int .i64 R, .slice ta tn tc] 24)) hb2).mono hb1.size))
  replace ho2 := Lib.hid ho2
  replace ltb := Lib.hid ltb
  have hsz1 := hb1.size
  simp at hsz1
  have hM : pw K N = pw K N := rfl
  clear hM
  go_wp2
  go_loopw [32] (fun i wr => ∃ m : Nat, m ≤ pw K N ∧ i = .int .i64 m ∧ OwnI (w.heap.size + 1) wr (.slice ta tn tc) (madeP K N s m ++ List.replicate (pw K N - m) 0) ∧ (∃ p : List Int, p.length = N ∧ OwnI (w1.heap.size + 1) wr (.slice wa wn wc) p) ∧
      (wr.cell? ⟨w1.heap.size, 0, none⟩ = some (.int .i64 K) ∧ wr.cell? ⟨w1.heap.size, 1, none⟩ = some (.int .i64 R) ∧ wr.cell? ⟨w1.heap.size, 2, none⟩ = some (.slice ta tn tc)) ∧
      Below (w.heap.size + 1) (w.alloc (.cells #[.int .i64 0, .int .i64 0, .slice none 0 0] 24)) wr) (fun i _ => pw K N - (intOf i).toNat)
  case atStart => exact ⟨0, by omega, rfl, by simpa [madeP] using ho1'.out, ⟨List.replicate N 0, by simp, by simpa using ho2.out⟩, zz.out, by simpa using hbw.out⟩
  case round =>
    obtain ⟨m, hm, rfl, hT, ⟨p, hp, hP⟩, hz, hbO⟩ := hrel
    obtain ⟨wo, rfl⟩ : ∃ wo : World, wo = wr := ⟨_, rfl⟩
    replace hz := Lib.hid hz
    replace hT := Lib.hid hT
    by_cases hml : m < pw K N
    · have hsz2 : w1.heap.size < wo.heap.size := World.block_lt_of_cell? _ _ hz.out.1
      have hK0 : ((K : Int) == 0) = false := by rw [beq_eq_false_iff_ne]; omega
      have hK1 : ¬ (K : Int) = 0 := by omega
      have hK2 : (0 : Int) < K := by omega
      go_wp2
      go_loopw [12, 38] (fun x i wr => ∃ j : Nat, j ≤ N ∧ i = .int .i64 j ∧ x = .int .i64 (m / pw K j : Nat) ∧ OwnI (w1.heap.size + 1) wr (.slice wa wn wc) (p.take (N - j) ++ (digs K N m).drop (N - j)) ∧ Below (w1.heap.size + 1) wo wr) (fun _ i _ => N - (intOf i).toNat)
      case atStart => exact ⟨0, by omega, rfl, by simp [pw], by rw [Nat.sub_zero, List.drop_of_length_le (by rw [digs_length]; exact Nat.le_refl _), List.append_nil, List.take_of_length_le (by omega)]; exact hP, Below.refl _ _⟩
      case round =>
        obtain ⟨j, hj, rfl, rfl, hO, hbI⟩ := hrel
        obtain ⟨wi, rfl⟩ : ∃ wi : World, wi = wr := ⟨_, rfl⟩
        by_cases hjl : j < N
        · have hXl : (p.take (N - j) ++ (digs K N m).drop (N - j)).length = N := by simp [digs_length]; omega
          have i1 : ∀ w', (Instr.indexAt 22 (.slice wa wn wc) (.int .i64 ((N : Int) - 1 - (j : Int)))).run Tryd.prog w' = .ok (.pointer (some (valAt (.slice wa wn wc) (N - 1 - j)))) w' := by
            intro w'
            have := hO.at.idxI ((N : Int) - 1 - (j : Int)) (by omega) (by rw [hXl]; omega) w'
            rwa [show ((N : Int) - 1 - (j : Int)).toNat = N - 1 - j by omega] at this
          have c1 := hO.at.cellD (N - 1 - j) (by rw [hXl]; omega)
          have f1 := hO.frz (N - 1 - j) (by rw [hXl]; omega)
          have hS := hO.set (N - 1 - j) (by rw [hXl]; omega) ((m / pw K j % K : Nat) : Int)
          have hbS := hO.setBelow hbI (N - 1 - j) (by rw [hXl]; omega) (.int .i64 ((m / pw K j % K : Nat) : Int))
          rw [digs_fill K N m j hjl p hp] at hS
          replace hS := Lib.hid hS
          replace hbS := Lib.hid hbS
          have hqd : m / pw K j / K = m / pw K (j + 1) := by rw [Nat.div_div_eq_div_mul, ← pw_succ]
          replace hqd := Lib.hid hqd
          have hql : m / pw K j ≤ 16384 := Nat.le_trans (Nat.div_le_self _ _) (by omega)
          generalize (p.take (N - j) ++ (digs K N m).drop (N - j)).getD (N - 1 - j) 0 = y at c1
          clear hXl hO
          generalize m / pw K j = q at *
          rw [Int.natCast_emod] at hS hbS
          have hd0 : 0 ≤ (q : Int) / (K : Int) := Int.ediv_nonneg (by omega) (by omega)
          have hd1 : (q : Int) / (K : Int) ≤ 16384 := by
            have h1 : q / K ≤ q := Nat.div_le_self _ _
            have h2 : q / K ≤ 16384 := by omega
            exact_mod_cast h2
          have hdw : IntKind.i64.wrap ((q : Int) / (K : Int)) = (q : Int) / (K : Int) := wrapK (by omega) (by omega)
          go_wp2
          go_roundw
          case rel => exact ⟨j + 1, by omega, by go_num, by rw [← hqd.out]; simp, hS.out, hbS.out⟩
          case measure => simp [intOf]; omega
        · have hjN : j = N := by omega
          subst hjN
          rw [Nat.sub_self, List.take_zero, List.drop_zero, List.nil_append] at hO
          have hbW : Below w.heap.size w wi := ((belowAlloc w _).trans (hbO.mono (by omega))).trans (hbI.mono (by omega))
          have hz2 := hbI.cell (p := ⟨w1.heap.size, 2, none⟩) (by simp)
          have hTl : m < (madeP K j s m ++ List.replicate (pw K j - m) (0 : Int)).length := by simp [madeP_length]; omega
          have hTi := hT.out.belowB hbI (fun k hk => by have := ltb.out k hk; omega)
          have i2 := hTi.at.idx m hTl
          have c2 := hTi.at.cellD m hTl
          have f2 := hTi.frz m hTl
          have b2 := hTi.at.blk m hTl
          have z2i := hz2.trans hz.out.2.2
          have zbi : (⟨w1.heap.size, 2, none⟩ : Addr).block < wi.heap.size := World.block_lt_of_cell? _ _ z2i
          generalize (madeP K j s m ++ List.replicate (pw K j - m) (0 : Int)).getD m 0 = o at c2
          replace hTi := Lib.hid hTi
          replace hO := Lib.hid hO
          replace hbW := Lib.hid hbW
          replace hTl := Lib.hid hTl
          clear hz2
          have hvb : (valAt (.slice ta tn tc) m).block ≠ w1.heap.size := by
            have := ltb.out _ (hT.out.toV.blkB m (by simpa using hTl.out)).1
            omega
          have hdl : m + 1 ≤ pw K j := hml
          go_wp2
          go_region_held3 (fun w' => w'.cell? ⟨w1.heap.size, 2, none⟩ = some (.slice ta tn tc)) (go_keep)
            (first | (refine (hF.out _ (digs K j m) _ (by first | exact hbW.out.drew | exact hbW.out) (by first | exact hO.out.at.drew | exact hO.out.at) (digs_syms hk1 _ _) (by rw [digs_length])).mono ?_; rintro e w5 ⟨x5, rfl, hb5, rfl⟩; have y1 := (hb5.cell zbi).trans z2i; have y2 := (hb5.cell b2).trans c2; have y3 := (hb5.frozen b2).trans f2; have bb : Below wi.heap.size wi w5 := ((Below.refl _ _).drew).trans hb5))
          have hT5 := (hTi.out.drew.below hb5).set m hTl.out (s (digs K j m))
          rw [madeP_set K j s m _ hml] at hT5
          have hO5 := (hO.out.drew.below hb5).setOther (hTi.out.drew.below hb5) (by
            intro e
            have e1 := (hT.out.toV.blkB m (by simpa using hTl.out)).1
            have e2 := (hO.out.lt _ (e.trans e1)).1
            have e3 := ltb.out _ e1
            omega) m hTl.out (.int .i64 (s (digs K j m)))
          have hB5 := ((hbO.trans (hbI.mono (by omega))).trans (bb.mono (by omega))).setCell ((hTi.out.blkB m hTl.out)) (.int .i64 (s (digs K j m)))
          have x0 := (World.cell?_setCell_far w5 (valAt (.slice ta tn tc) m) ⟨w1.heap.size, 0, none⟩ (.int .i64 (s (digs K j m))) hvb).trans (((bb.cell (p := ⟨w1.heap.size, 0, none⟩) zbi)).trans ((hbI.cell (p := ⟨w1.heap.size, 0, none⟩) (by simp)).trans hz.out.1))
          have x1 := (World.cell?_setCell_far w5 (valAt (.slice ta tn tc) m) ⟨w1.heap.size, 1, none⟩ (.int .i64 (s (digs K j m))) hvb).trans (((bb.cell (p := ⟨w1.heap.size, 1, none⟩) zbi)).trans ((hbI.cell (p := ⟨w1.heap.size, 1, none⟩) (by simp)).trans hz.out.2.1))
          have x2 := (World.cell?_setCell_far w5 (valAt (.slice ta tn tc) m) ⟨w1.heap.size, 2, none⟩ (.int .i64 (s (digs K j m))) hvb).trans y1
          have xx := Lib.hid (And.intro x0 (And.intro x1 x2))
          clear x0 x1 x2
          replace hT5 := Lib.hid hT5
          replace hO5 := Lib.hid hO5
          replace hB5 := Lib.hid hB5
          go_wp2
          go_roundw
          case rel => exact ⟨m + 1, by omega, by go_num, hT5.out, ⟨digs K j m, digs_length .., hO5.out⟩, xx.out, hB5.out⟩
          case measure => simp [intOf]; omega
    · obtain rfl : m = pw K N := by omega
      rw [Nat.sub_self, List.replicate_zero, List.append_nil] at hT
      obtain ⟨z0, z1, z2⟩ := hz.out
      obtain ⟨y0, y1, y2, f0, f1, f2⟩ := cells3 (w := w) (show Below (w.alloc (.cells #[.int .i64 0, .int .i64 0, .slice none 0 0] 24)).heap.size _ wo by simpa using hbO)
      replace hbO := Lib.hid hbO
      go_wp2
      refine bodyPost_ret (v := .agg #[.int .i64 K, .int .i64 R, .slice ta tn tc]) (by simp [results, Tryd.results89, go_sem, y0, y1, y2]) rfl ⟨_, rfl, ?_, ta, tn, tc, rfl, ?_⟩
      · exact (((belowAlloc w _).trans (hbO.out.mono (by omega))).setCell (by simp) _).setCell (by simp) _ |>.setCell (by simp) _
      · rw [hN.out]; exact (((hT.out.setBelowBase (a := ⟨w.heap.size, 0, none⟩) (by simp) _).setBelowBase (a := ⟨w.heap.size, 1, none⟩) (by simp) _).setBelowBase (a := ⟨w.heap.size, 2, none⟩) (by simp) _).mono (Nat.le_succ _)

theorem made_two (K R F : Nat) (c1 c2 : Value) (s : List Int → Int) (w : World) (hk1 : 1 ≤ K) (hk4 : K ≤ 4) (hR : R ≤ 3) (Ri : Int) (hRi : Ri = R)
    (eg : ∀ args w, (callFunc F args).run Tryd.prog w = .ok (.enter F args) w)
    (hF : ∀ (v : Value) (ys : List Int) (w' : World), Below w.heap.size w w' → IntsAt w' v ys → Syms K ys → ys.length = 2 * R + 1 → Calls Tryd.prog F #[v, c1, c2] w' (Ret1 (fun x _ => x = .int .i64 (s ys)) w')) :
    Calls Tryd.prog 89 #[.int .i64 K, .int .i64 Ri, .func (.func F) #[] #[c1, c2]] w (Ret1 (fun x w' => ∃ a n c, x = .agg #[.int .i64 K, .int .i64 R, .slice a n c] ∧ OwnI w.heap.size w' (.slice a n c) (madeP K (2 * R + 1) s (pw K (2 * R + 1)))) w) := by
  subst hRi
  exact made_two0 K R F c1 c2 s w hk1 hk4 hR eg hF
end Go.Proofs.YtmddapkhipmlgaaDoor

namespace Go.Proofs.YtmddapkhipmlgaaDoor
open Go.RowKit
set_option maxRecDepth 100000

abbrev zR : Value := .agg #[.int .i64 0, .int .i64 0, .slice none 0 0]
def sForms : ByteArray := ⟨#[102, 111, 114, 109, 115]⟩
theorem madeP_behind (K R1 : Nat) (T1 : List Int) (R2 : Nat) (T2 : List Int) :
    madeP K (2 * (R1 + R2) + 1) (fun ys => T1.getD (numW K (imgP K R2 T2 ys)) 0) (pw K (2 * (R1 + R2) + 1)) = behindT K R1 T1 R2 T2 := rfl

theorem eg_behind1 (args : Array Value) (w : World) : (callFunc 101 args).run Tryd.prog w = .ok (.enter 101 args) w := by kernel_rfl

set_option maxHeartbeats 800000 in
theorem behind_any (K R1 R2 : Nat) (va : Option Addr) (vn vc : Nat) (T1 : List Int) (ua : Option Addr) (un uc : Nat) (T2 : List Int) (w : World)
    (h1 : IntsAt w (.slice va vn vc) T1) (hr1 : RuleOk K R1 T1) (h2 : IntsAt w (.slice ua un uc) T2) (hr2 : RuleOk K R2 T2) (hR : R1 + R2 ≤ 3) :
    Calls Tryd.prog 61 #[.agg #[.int .i64 K, .int .i64 R1, .slice va vn vc], .agg #[.int .i64 K, .int .i64 R2, .slice ua un uc]] w
      (Ret1 (fun x w' => ∃ a n c, x = .agg #[.int .i64 K, .int .i64 ((R1 + R2 : Nat) : Int), .slice a n c] ∧ OwnI w.heap.size w' (.slice a n c) (behindT K R1 T1 R2 T2)) w) := by
  have hk1 := hr1.k1
  have hk4 := hr1.k4
  have b0 := belowAlloc w (.cells #[.int .i64 K, .int .i64 R1, .slice va vn vc] 24)
  have b1 := Below.step (Below.step b0 (belowAlloc _ (.cells #[.int .i64 K, .int .i64 R2, .slice ua un uc] 24))) (belowAlloc _ (.cells #[.int .i64 0, .int .i64 0, .slice none 0 0] 24))
  replace h1 := Lib.hid (h1.below b1)
  replace h2 := Lib.hid (h2.below b1)
  replace hr1 := Lib.hid hr1
  replace hr2 := Lib.hid hr2
  go_enter Tryd.func61, Tryd.ntmps61
  go_wp2_with fail
  refine (made_two K (R1 + R2) 101 _ _ (fun ys => T1.getD (numW K (imgP K R2 T2 ys)) 0) _ hk1 hk4 hR _ (by omega) eg_behind1 ?_).mono ?_
  · intro v ys w' hb hv hy hyl
    obtain ⟨x0, x1, x2⟩ := keep3 (n := w.heap.size + 1) (a := .int .i64 K) (b := .int .i64 R2) (c := .slice ua un uc) hb ⟨by simp [go_sem], by simp [go_sem], by simp [go_sem]⟩
    obtain ⟨y0, y1, y2⟩ := keep3 (n := w.heap.size) (a := .int .i64 K) (b := .int .i64 R1) (c := .slice va vn vc) hb ⟨by simp [go_sem], by simp [go_sem], by simp [go_sem]⟩
    exact behind1_any K R1 R2 va vn vc T1 ua un uc T2 _ _ v ys w' (h1.out.below hb) hr1.out (h2.out.below hb) hr2.out hv hy hyl x0 x1 x2 y0 y1 y2
  · rintro e w1 ⟨x, rfl, hb, a, n, c, rfl, ho⟩
    rw [madeP_behind] at ho
    replace ho := Lib.hid ho
    obtain ⟨y0, y1, y2, f0, f1, f2⟩ := cells3 hb
    rw [show ((w.alloc (.cells #[.int .i64 K, .int .i64 R1, .slice va vn vc] 24)).alloc (.cells #[.int .i64 K, .int .i64 R2, .slice ua un uc] 24)).heap.size = w.heap.size + 1 + 1 by simp] at y0 y1 y2 f0 f1 f2
    go_wp2
    refine bodyPost_ret (v := .agg #[.int .i64 K, .int .i64 ((R1 + R2 : Nat) : Int), .slice a n c]) (by simp [results, Tryd.results61, go_sem, y0, y1, y2]) rfl ⟨_, rfl, ?_, a, n, c, rfl, ?_⟩
    · exact (((Below.step b1 hb).setCell (by simp; omega) _).setCell (by simp; omega) _).setCell (by simp; omega) _
    · exact (((ho.out.setBelowBase (a := ⟨w.heap.size + 1 + 1, 0, none⟩) (by simp) _).setBelowBase (a := ⟨w.heap.size + 1 + 1, 1, none⟩) (by simp) _).setBelowBase (a := ⟨w.heap.size + 1 + 1, 2, none⟩) (by simp) _).mono (by simp; omega)

theorem forms_wrong (r : Nat → Addr) (at_ n : Int) (w : World) (hg : Glob r w) (h1 : 1 ≤ n) (h2 : n ≤ 11) :
    Calls Tryd.prog 60 #[.int .i64 at_, .int .i64 n] w (Ret1 (fun v w' => ErrIs r w' (fresh sForms at_ n) v) w) := by
  go_enter Tryd.func60, Tryd.ntmps60
  go_wp2_with fail
  refine (new_any r _ at_ n w hg h1 h2).mono ?_
  rintro e w' ⟨v, rfl, hb, he⟩
  go_wp2
  go_ret
  exact ⟨_, rfl, hb, he⟩

theorem forms_check (r : Nat → Addr) (at_ : Int) (k R : Int) (va : Option Addr) (vn vc : Nat) (xs : List Int) (w : World) (hg : Glob r w) (h : IntsAt w (.slice va vn vc) xs) :
    Calls Tryd.prog 59 #[.int .i64 at_, .agg #[.int .i64 k, .int .i64 R, .slice va vn vc]] w (Ret1 (fun x w' => ErrIs r w' (under sForms at_ (checkP k R xs)) x) w) := by
  have hb0 := belowAlloc w (.cells #[.int .i64 k, .int .i64 R, .slice va vn vc] 24)
  replace hg := Lib.hid (hg.below hb0)
  replace h := Lib.hid (h.below hb0)
  go_enter Tryd.func59, Tryd.ntmps59
  go_wp2_with fail
  refine (check_any r k R _ xs _ hg.out h.out).mono ?_
  rintro e w1 ⟨x, rfl, hb, he⟩
  go_wp2_with fail
  refine (under_any r _ _ _ _ _ he).mono ?_
  rintro e w2 ⟨x, rfl, hb', he⟩
  go_wp2
  go_ret
  exact ⟨_, rfl, Below.step hb0 (Below.step hb hb'), he⟩

/-- forms.Compose's fault. -/
def composeP (k R : Int) (T : List Int) (k' R' : Int) (T' : List Int) : PErr :=
  match checkP k R T with
  | some t => under sForms 0 (some t)
  | none => match checkP k' R' T' with
    | some t => under sForms 1 (some t)
    | none => if k ≠ k' then fresh sForms 1 3 else if 3 < R + R' then fresh sForms 0 4 else none


/-- Two rules boxed, and a result's variable: their cells stay. -/
theorem cells9 {w w1 : World} {x0 x1 x2 x3 x4 x5 x6 x7 x8 : Value} {T1 T2 T3 : TypeId} (hb : Below (((w.alloc (.cells #[x0, x1, x2] T1)).alloc (.cells #[x3, x4, x5] T2)).alloc (.cells #[x6, x7, x8] T3)).heap.size (((w.alloc (.cells #[x0, x1, x2] T1)).alloc (.cells #[x3, x4, x5] T2)).alloc (.cells #[x6, x7, x8] T3)) w1) :
    (w1.cell? ⟨w.heap.size, 0, none⟩ = some x0 ∧ w1.cell? ⟨w.heap.size, 1, none⟩ = some x1 ∧ w1.cell? ⟨w.heap.size, 2, none⟩ = some x2) ∧
    (w1.cell? ⟨w.heap.size + 1, 0, none⟩ = some x3 ∧ w1.cell? ⟨w.heap.size + 1, 1, none⟩ = some x4 ∧ w1.cell? ⟨w.heap.size + 1, 2, none⟩ = some x5) ∧
    (w1.cell? ⟨w.heap.size + 1 + 1, 0, none⟩ = some x6 ∧ w1.cell? ⟨w.heap.size + 1 + 1, 1, none⟩ = some x7 ∧ w1.cell? ⟨w.heap.size + 1 + 1, 2, none⟩ = some x8) ∧
    (w1.frozen? ⟨w.heap.size + 1 + 1, 0, none⟩ = false ∧ w1.frozen? ⟨w.heap.size + 1 + 1, 1, none⟩ = false ∧ w1.frozen? ⟨w.heap.size + 1 + 1, 2, none⟩ = false) := by
  refine ⟨keep3 (n := w.heap.size) hb ⟨by simp [go_sem], by simp [go_sem], by simp [go_sem]⟩, keep3 (n := w.heap.size + 1) hb ⟨by simp [go_sem], by simp [go_sem], by simp [go_sem]⟩, ?_⟩
  have := cells3 hb
  rw [show ((w.alloc (.cells #[x0, x1, x2] T1)).alloc (.cells #[x3, x4, x5] T2)).heap.size = w.heap.size + 1 + 1 by simp] at this
  exact ⟨⟨this.1, this.2.1, this.2.2.1⟩, this.2.2.2⟩

set_option maxHeartbeats 800000 in
theorem compose_bad1 (r : Nat → Addr) (k R : Int) (va : Option Addr) (vn vc : Nat) (T : List Int) (k' R' : Int) (ua : Option Addr) (un uc : Nat) (t : Int × List (ByteArray × Int)) (w : World) (hg : Glob r w)
    (h : IntsAt w (.slice va vn vc) T) (hc : checkP k R T = some t) :
    Calls Tryd.prog 25 #[.agg #[.int .i64 k, .int .i64 R, .slice va vn vc], .agg #[.int .i64 k', .int .i64 R', .slice ua un uc]] w (Ret2 (fun x y w' => x = zR ∧ ErrIs r w' (under sForms 0 (some t)) y) w) := by
  replace hc := Lib.hid hc
  have b1 := Below.step (Below.step (belowAlloc w (.cells #[.int .i64 k, .int .i64 R, .slice va vn vc] 24)) (belowAlloc _ (.cells #[.int .i64 k', .int .i64 R', .slice ua un uc] 24))) (belowAlloc _ (.cells #[.int .i64 0, .int .i64 0, .slice none 0 0] 24))
  replace hg := Lib.hid (hg.below b1)
  replace h := Lib.hid (h.below b1)
  go_enter Tryd.func25, Tryd.ntmps25
  go_wp2_with fail
  refine (forms_check r _ k R va vn vc T _ hg.out h.out).mono ?_
  rintro e w1 ⟨x, rfl, hb, he⟩
  rw [hc.out] at he
  obtain ⟨T1, a1, rfl⟩ := ErrIs.some_shape he
  replace he := Lib.hid he
  obtain ⟨-, -, ⟨y0, y1, y2⟩, f0, f1, f2⟩ := cells9 hb
  go_wp2
  rw [setCell_self3 y0 y1 y2]
  exact bodyPost_ret (v := .tuple #[zR, .iface T1 (.pointer (some a1))]) (by simp [results, Tryd.results25, go_sem, y0, y1, y2]) rfl ⟨_, _, rfl, Below.step b1 hb, rfl, he.out⟩

set_option maxHeartbeats 800000 in
theorem compose_bad2 (r : Nat → Addr) (k R : Int) (va : Option Addr) (vn vc : Nat) (T : List Int) (k' R' : Int) (ua : Option Addr) (un uc : Nat) (T' : List Int) (t : Int × List (ByteArray × Int)) (w : World) (hg : Glob r w)
    (h : IntsAt w (.slice va vn vc) T) (h' : IntsAt w (.slice ua un uc) T') (hc : checkP k R T = none) (hc' : checkP k' R' T' = some t) :
    Calls Tryd.prog 25 #[.agg #[.int .i64 k, .int .i64 R, .slice va vn vc], .agg #[.int .i64 k', .int .i64 R', .slice ua un uc]] w (Ret2 (fun x y w' => x = zR ∧ ErrIs r w' (under sForms 1 (some t)) y) w) := by
  replace hc := Lib.hid hc
  replace hc' := Lib.hid hc'
  have b1 := Below.step (Below.step (belowAlloc w (.cells #[.int .i64 k, .int .i64 R, .slice va vn vc] 24)) (belowAlloc _ (.cells #[.int .i64 k', .int .i64 R', .slice ua un uc] 24))) (belowAlloc _ (.cells #[.int .i64 0, .int .i64 0, .slice none 0 0] 24))
  replace hg := Lib.hid (hg.below b1)
  replace h := Lib.hid (h.below b1)
  replace h' := Lib.hid (h'.below b1)
  go_enter Tryd.func25, Tryd.ntmps25
  go_wp2_with fail
  refine (forms_check r _ k R va vn vc T _ hg.out h.out).mono ?_
  rintro e w1 ⟨x, rfl, hb, he⟩
  rw [hc.out] at he
  obtain rfl := ErrIs.none_eq he
  clear he
  obtain ⟨⟨x0, x1, x2⟩, ⟨z0, z1, z2⟩, ⟨y0, y1, y2⟩, f0, f1, f2⟩ := cells9 hb
  go_wp2_with fail
  refine (forms_check r _ k' R' ua un uc T' _ (hg.out.below hb) (h'.out.below hb)).mono ?_
  rintro e w2 ⟨x, rfl, hb', he⟩
  rw [hc'.out] at he
  clear x0 x1 x2 z0 z1 z2 y0 y1 y2 f0 f1 f2
  obtain ⟨-, -, ⟨y0, y1, y2⟩, f0, f1, f2⟩ := cells9 (Below.step hb hb')
  obtain ⟨T1, a1, rfl⟩ := ErrIs.some_shape he
  replace he := Lib.hid he
  go_wp2
  rw [setCell_self3 y0 y1 y2]
  exact bodyPost_ret (v := .tuple #[zR, .iface T1 (.pointer (some a1))]) (by simp [results, Tryd.results25, go_sem, y0, y1, y2]) rfl ⟨_, _, rfl, Below.step b1 (Below.step hb hb'), rfl, he.out⟩

set_option maxHeartbeats 800000 in
theorem compose_bad3 (r : Nat → Addr) (k R : Int) (va : Option Addr) (vn vc : Nat) (T : List Int) (k' R' : Int) (ua : Option Addr) (un uc : Nat) (T' : List Int) (w : World) (hg : Glob r w)
    (h : IntsAt w (.slice va vn vc) T) (h' : IntsAt w (.slice ua un uc) T') (hc : checkP k R T = none) (hc' : checkP k' R' T' = none) (hk : k ≠ k') :
    Calls Tryd.prog 25 #[.agg #[.int .i64 k, .int .i64 R, .slice va vn vc], .agg #[.int .i64 k', .int .i64 R', .slice ua un uc]] w (Ret2 (fun x y w' => x = zR ∧ ErrIs r w' (fresh sForms 1 3) y) w) := by
  replace hc := Lib.hid hc
  replace hc' := Lib.hid hc'
  have hkb : (k != k') = true := by rw [bne_iff_ne]; exact hk
  clear hk
  have b1 := Below.step (Below.step (belowAlloc w (.cells #[.int .i64 k, .int .i64 R, .slice va vn vc] 24)) (belowAlloc _ (.cells #[.int .i64 k', .int .i64 R', .slice ua un uc] 24))) (belowAlloc _ (.cells #[.int .i64 0, .int .i64 0, .slice none 0 0] 24))
  replace hg := Lib.hid (hg.below b1)
  replace h := Lib.hid (h.below b1)
  replace h' := Lib.hid (h'.below b1)
  go_enter Tryd.func25, Tryd.ntmps25
  go_wp2_with fail
  refine (forms_check r _ k R va vn vc T _ hg.out h.out).mono ?_
  rintro e w1 ⟨x, rfl, hb, he⟩
  rw [hc.out] at he
  obtain rfl := ErrIs.none_eq he
  clear he
  obtain ⟨⟨x0, x1, x2⟩, ⟨z0, z1, z2⟩, ⟨y0, y1, y2⟩, f0, f1, f2⟩ := cells9 hb
  go_wp2_with fail
  refine (forms_check r _ k' R' ua un uc T' _ (hg.out.below hb) (h'.out.below hb)).mono ?_
  rintro e w2 ⟨x, rfl, hb', he⟩
  rw [hc'.out] at he
  obtain rfl := ErrIs.none_eq he
  clear x0 x1 x2 z0 z1 z2 y0 y1 y2 f0 f1 f2 he
  obtain ⟨⟨x0, x1, x2⟩, ⟨z0, z1, z2⟩, ⟨y0, y1, y2⟩, f0, f1, f2⟩ := cells9 (Below.step hb hb')
  go_wp2_with fail
  refine (forms_wrong r _ _ _ ((hg.out.below hb).below hb') (by decide) (by decide)).mono ?_
  rintro e w3 ⟨x, rfl, hb3, he⟩
  clear x0 x1 x2 z0 z1 z2 y0 y1 y2 f0 f1 f2
  obtain ⟨-, -, ⟨y0, y1, y2⟩, f0, f1, f2⟩ := cells9 (Below.step (Below.step hb hb') hb3)
  obtain ⟨T1, a1, rfl⟩ := ErrIs.some_shape he
  replace he := Lib.hid he
  go_wp2
  rw [setCell_self3 y0 y1 y2]
  exact bodyPost_ret (v := .tuple #[zR, .iface T1 (.pointer (some a1))]) (by simp [results, Tryd.results25, go_sem, y0, y1, y2]) rfl ⟨_, _, rfl, Below.step b1 (Below.step (Below.step hb hb') hb3), rfl, he.out⟩

set_option maxHeartbeats 800000 in
theorem compose_bad4 (r : Nat → Addr) (K Q Q' : Nat) (va : Option Addr) (vn vc : Nat) (T : List Int) (ua : Option Addr) (un uc : Nat) (T' : List Int) (w : World) (hg : Glob r w)
    (h : IntsAt w (.slice va vn vc) T) (h' : IntsAt w (.slice ua un uc) T') (hc : RuleOk K Q T) (hc' : RuleOk K Q' T') (hR : 3 < Q + Q') :
    Calls Tryd.prog 25 #[.agg #[.int .i64 K, .int .i64 Q, .slice va vn vc], .agg #[.int .i64 K, .int .i64 Q', .slice ua un uc]] w (Ret2 (fun x y w' => x = zR ∧ ErrIs r w' (fresh sForms 0 4) y) w) := by
  have hq := hc.r3
  have hq' := hc'.r3
  have hRi : (3 : Int) < (Q : Int) + (Q' : Int) := by omega
  replace hc := hc.check
  replace hc' := hc'.check
  obtain ⟨k, hk⟩ : ∃ k : Int, k = K := ⟨_, rfl⟩
  obtain ⟨R, hr⟩ : ∃ k : Int, k = Q := ⟨_, rfl⟩
  obtain ⟨R', hr'⟩ : ∃ k : Int, k = Q' := ⟨_, rfl⟩
  have hr0 : 0 ≤ R := by omega
  have hr3 : R ≤ 3 := by omega
  have hr0' : 0 ≤ R' := by omega
  have hr3' : R' ≤ 3 := by omega
  rw [← hk, ← hr] at hc
  rw [← hk, ← hr'] at hc'
  rw [← hr, ← hr'] at hRi
  rw [← hk, ← hr, ← hr']
  clear hk hr hr'
  replace hc := Lib.hid hc
  replace hc' := Lib.hid hc'
  have hkb : (k != k) = false := by simp
  have b1 := Below.step (Below.step (belowAlloc w (.cells #[.int .i64 k, .int .i64 R, .slice va vn vc] 24)) (belowAlloc _ (.cells #[.int .i64 k, .int .i64 R', .slice ua un uc] 24))) (belowAlloc _ (.cells #[.int .i64 0, .int .i64 0, .slice none 0 0] 24))
  replace hg := Lib.hid (hg.below b1)
  replace h := Lib.hid (h.below b1)
  replace h' := Lib.hid (h'.below b1)
  go_enter Tryd.func25, Tryd.ntmps25
  go_wp2_with fail
  refine (forms_check r _ k R va vn vc T _ hg.out h.out).mono ?_
  rintro e w1 ⟨x, rfl, hb, he⟩
  rw [hc.out] at he
  obtain rfl := ErrIs.none_eq he
  clear he
  obtain ⟨⟨x0, x1, x2⟩, ⟨z0, z1, z2⟩, ⟨y0, y1, y2⟩, f0, f1, f2⟩ := cells9 hb
  go_wp2_with fail
  refine (forms_check r _ k R' ua un uc T' _ (hg.out.below hb) (h'.out.below hb)).mono ?_
  rintro e w2 ⟨x, rfl, hb', he⟩
  rw [hc'.out] at he
  obtain rfl := ErrIs.none_eq he
  clear x0 x1 x2 z0 z1 z2 y0 y1 y2 f0 f1 f2 he
  obtain ⟨⟨x0, x1, x2⟩, ⟨z0, z1, z2⟩, ⟨y0, y1, y2⟩, f0, f1, f2⟩ := cells9 (Below.step hb hb')
  go_wp2_with fail
  refine (forms_wrong r _ _ _ ((hg.out.below hb).below hb') (by decide) (by decide)).mono ?_
  rintro e w3 ⟨x, rfl, hb3, he⟩
  clear x0 x1 x2 z0 z1 z2 y0 y1 y2 f0 f1 f2
  obtain ⟨-, -, ⟨y0, y1, y2⟩, f0, f1, f2⟩ := cells9 (Below.step (Below.step hb hb') hb3)
  obtain ⟨T1, a1, rfl⟩ := ErrIs.some_shape he
  replace he := Lib.hid he
  go_wp2
  rw [setCell_self3 y0 y1 y2]
  exact bodyPost_ret (v := .tuple #[zR, .iface T1 (.pointer (some a1))]) (by simp [results, Tryd.results25, go_sem, y0, y1, y2]) rfl ⟨_, _, rfl, Below.step b1 (Below.step (Below.step hb hb') hb3), rfl, he.out⟩

set_option maxHeartbeats 800000 in
theorem compose_ok (r : Nat → Addr) (K Q Q' : Nat) (va : Option Addr) (vn vc : Nat) (T : List Int) (ua : Option Addr) (un uc : Nat) (T' : List Int) (w : World) (hg : Glob r w)
    (h : IntsAt w (.slice va vn vc) T) (h' : IntsAt w (.slice ua un uc) T') (hc : RuleOk K Q T) (hc' : RuleOk K Q' T') (hR : Q + Q' ≤ 3) :
    Calls Tryd.prog 25 #[.agg #[.int .i64 K, .int .i64 Q, .slice va vn vc], .agg #[.int .i64 K, .int .i64 Q', .slice ua un uc]] w (Ret2 (fun x y w' => y = .nilIface ∧ ∃ a n c, x = .agg #[.int .i64 K, .int .i64 ((Q + Q' : Nat) : Int), .slice a n c] ∧ OwnI w.heap.size w' (.slice a n c) (behindT K Q T Q' T')) w) := by
  have b1 := Below.step (Below.step (belowAlloc w (.cells #[.int .i64 K, .int .i64 Q, .slice va vn vc] 24)) (belowAlloc _ (.cells #[.int .i64 K, .int .i64 Q', .slice ua un uc] 24))) (belowAlloc _ (.cells #[.int .i64 0, .int .i64 0, .slice none 0 0] 24))
  have hRi : (Q : Int) + (Q' : Int) ≤ 3 := by omega
  have hkb : ((K : Int) != (K : Int)) = false := by simp
  have d1 := Lib.hid hc.check
  have d2 := Lib.hid hc'.check
  replace hc := Lib.hid hc
  replace hc' := Lib.hid hc'
  replace hg := Lib.hid (hg.below b1)
  replace h := Lib.hid (h.below b1)
  replace h' := Lib.hid (h'.below b1)
  go_enter Tryd.func25, Tryd.ntmps25
  go_wp2_with fail
  refine (forms_check r _ K Q va vn vc T _ hg.out h.out).mono ?_
  rintro e w1 ⟨x, rfl, hb, he⟩
  rw [d1.out] at he
  obtain rfl := ErrIs.none_eq he
  clear he
  obtain ⟨⟨x0, x1, x2⟩, ⟨z0, z1, z2⟩, ⟨y0, y1, y2⟩, f0, f1, f2⟩ := cells9 hb
  go_wp2_with fail
  refine (forms_check r _ K Q' ua un uc T' _ (hg.out.below hb) (h'.out.below hb)).mono ?_
  rintro e w2 ⟨x, rfl, hb', he⟩
  rw [d2.out] at he
  obtain rfl := ErrIs.none_eq he
  clear x0 x1 x2 z0 z1 z2 y0 y1 y2 f0 f1 f2 he
  have hb2 := Below.step hb hb'
  obtain ⟨⟨x0, x1, x2⟩, ⟨z0, z1, z2⟩, ⟨y0, y1, y2⟩, f0, f1, f2⟩ := cells9 hb2
  go_wp2_with fail
  refine (behind_any K Q Q' va vn vc T ua un uc T' _ (h.out.below hb2) hc.out (h'.out.below hb2) hc'.out hR).mono ?_
  rintro e w3 ⟨x, rfl, hb3, a, n, c, rfl, ho⟩
  clear x0 x1 x2 z0 z1 z2 y0 y1 y2 f0 f1 f2
  obtain ⟨-, -, ⟨y0, y1, y2⟩, f0, f1, f2⟩ := cells9 (Below.step hb2 hb3)
  have hsz := hb2.size
  simp at hsz
  replace ho := Lib.hid ho
  go_wp2
  refine bodyPost_ret (v := .tuple #[.agg #[.int .i64 K, .int .i64 ((Q + Q' : Nat) : Int), .slice a n c], .nilIface]) (by simp [results, Tryd.results25, go_sem, y0, y1, y2]) rfl ⟨_, _, rfl, ?_, rfl, a, n, c, rfl, ?_⟩
  · exact (((Below.step b1 (Below.step hb2 hb3)).setCell (by simp; omega) _).setCell (by simp; omega) _).setCell (by simp; omega) _
  · exact (((ho.out.setBelowBase (a := ⟨w.heap.size + 1 + 1, 0, none⟩) (by simp; omega) _).setBelowBase (a := ⟨w.heap.size + 1 + 1, 1, none⟩) (by simp; omega) _).setBelowBase (a := ⟨w.heap.size + 1 + 1, 2, none⟩) (by simp; omega) _).mono (by omega)

/-- forms.Compose at all rules. -/
theorem compose_any (r : Nat → Addr) (k R : Int) (va : Option Addr) (vn vc : Nat) (T : List Int) (k' R' : Int) (ua : Option Addr) (un uc : Nat) (T' : List Int) (w : World) (hg : Glob r w)
    (h : IntsAt w (.slice va vn vc) T) (h' : IntsAt w (.slice ua un uc) T') :
    Calls Tryd.prog 25 #[.agg #[.int .i64 k, .int .i64 R, .slice va vn vc], .agg #[.int .i64 k', .int .i64 R', .slice ua un uc]] w (Ret2 (fun x y w' => ErrIs r w' (composeP k R T k' R' T') y ∧ (composeP k R T k' R' T' ≠ none → x = zR) ∧
      (composeP k R T k' R' T' = none → ∃ a n c, x = .agg #[.int .i64 k, .int .i64 (R + R'), .slice a n c] ∧ OwnI w.heap.size w' (.slice a n c) (behindT k.toNat R.toNat T R'.toNat T'))) w) := by
  cases hc : checkP k R T with
  | some t =>
    have e : composeP k R T k' R' T' = under sForms 0 (some t) := by simp [composeP, hc]
    refine (compose_bad1 r k R va vn vc T k' R' ua un uc t w hg h hc).mono ?_
    rintro _ w' ⟨x, y, he, hb, hx, hy⟩
    exact ⟨x, y, he, hb, by rw [e]; exact hy, fun _ => hx, (fun q => by rw [e] at q; cases q)⟩
  | none =>
    cases hc' : checkP k' R' T' with
    | some t =>
      have e : composeP k R T k' R' T' = under sForms 1 (some t) := by simp [composeP, hc, hc']
      refine (compose_bad2 r k R va vn vc T k' R' ua un uc T' t w hg h h' hc hc').mono ?_
      rintro _ w' ⟨x, y, he, hb, hx, hy⟩
      exact ⟨x, y, he, hb, by rw [e]; exact hy, fun _ => hx, (fun q => by rw [e] at q; cases q)⟩
    | none =>
      by_cases hk : k = k'
      case neg =>
        have e : composeP k R T k' R' T' = fresh sForms 1 3 := by simp [composeP, hc, hc', hk]
        refine (compose_bad3 r k R va vn vc T k' R' ua un uc T' w hg h h' hc hc' hk).mono ?_
        rintro _ w' ⟨x, y, he, hb, hx, hy⟩
        exact ⟨x, y, he, hb, by rw [e]; exact hy, fun _ => hx, (fun q => by rw [e] at q; cases q)⟩
      subst hk
      obtain ⟨K, Q, rfl, rfl, hok⟩ := checkP_none hc
      obtain ⟨K', Q', hK, rfl, hok'⟩ := checkP_none hc'
      obtain rfl : K = K' := by omega
      by_cases hR : Q + Q' ≤ 3
      · have e : composeP K Q T K Q' T' = none := by
          simp only [composeP, hc, hc']
          rw [if_neg (by simp), if_neg (by omega)]
        refine (compose_ok r K Q Q' va vn vc T ua un uc T' w hg h h' hok hok' hR).mono ?_
        rintro _ w' ⟨x, y, he, hb, hy, a, n, c, hx, ho⟩
        exact ⟨x, y, he, hb, by rw [e]; exact hy, fun q => absurd e q, fun _ => ⟨a, n, c, by rw [hx]; simp, by simpa using ho⟩⟩
      · have e : composeP K Q T K Q' T' = fresh sForms 0 4 := by
          simp only [composeP, hc, hc']
          rw [if_neg (by simp), if_pos (by omega)]
        refine (compose_bad4 r K Q Q' va vn vc T ua un uc T' w hg h h' hok hok' (by omega)).mono ?_
        rintro _ w' ⟨x, y, he, hb, hx, hy⟩
        exact ⟨x, y, he, hb, by rw [e]; exact hy, fun _ => hx, (fun q => by rw [e] at q; cases q)⟩
end Go.Proofs.YtmddapkhipmlgaaDoor

namespace Go.Proofs.YtmddapkhipmlgaaDoor

section
variable {P : Program} {ops : Array Oper} {Q : Exit → Act → World → Prop} {md : Region.Mode} {S : World → Prop}

/-- Whatever order is picked from here on; behind an operation of the head the fact S holds. -/
def wpAnyT (P : Program) (md : Region.Mode) (ops : Array Oper) (Q : Exit → Act → World → Prop) (S : World → Prop) (n : Nat) : Nat → Array Bool → Act → World → Prop
  | 0, listed, a, w => Region.ready md ops listed = [] ∧ Q .normal a w
  | fuel + 1, listed, a, w =>
    (Region.ready md ops listed = [] → Q .normal a w) ∧
    ∀ i ∈ Region.ready md ops listed, wpOp P ops Q i (fun a' w' => (i < n → S w') ∧ wpAnyT P md ops Q S n fuel (listed.setIfInBounds i true) a' w') a w

theorem wpAny_of_T {n : Nat} : ∀ (fuel : Nat) (listed : Array Bool) (a : Act) (w : World), wpAnyT P md ops Q S n fuel listed a w → wpAny P md ops Q fuel listed a w
  | 0, _, _, _, h => h
  | fuel + 1, _, _, _, h => ⟨h.1, fun i hi => wpOp_mono (fun a' w' h' => wpAny_of_T fuel _ a' w' h'.2) (h.2 i hi)⟩

/-- Where the whole head has come up, it is a wpAny. -/
theorem wpAnyT_of {n : Nat} : ∀ (fuel : Nat) (listed : Array Bool) (a : Act) (w : World), (∀ j, j < n → listed.getD j true = true) → wpAny P md ops Q fuel listed a w → wpAnyT P md ops Q S n fuel listed a w
  | 0, _, _, _, _, h => h
  | fuel + 1, listed, a, w, hl, h => ⟨h.1, fun i hi => wpOp_mono (fun a' w' h' => ⟨fun hin => Bool.noConfusion ((hl i hin).symm.trans (mem_ready.1 hi).1), wpAnyT_of fuel _ a' w' (fun j hj => by
        by_cases hij : i = j
        · subst hij
          rcases Nat.lt_or_ge i listed.size with h2 | h2
          · simp [h2]
          · rw [Array.getD_eq_getD_getElem?, Array.getElem?_eq_none (by simpa using h2)]; rfl
        · rw [getD_set_ne true hij]; exact hl j hj) h'⟩) (h.2 i hi)⟩

theorem wpAnyT_first {n i : Nat} {oi : Oper} {v : Value} (hi : ops[i]? = some oi) (hsel : ∀ (j : Nat) (o : Oper) cs b, ops[j]? = some o → o.op ≠ .select cs b)
    (hs : Region.sinkB md ops n = true) (hc : Region.chainB md ops n = true) (hn : n < ops.size) (hin : i < n)
    (hQ : ∀ c a w, Q (.panic c) (a.put oi.dst v) w → Q (.panic c) a w) :
    ∀ (fuel : Nat) (listed : Array Bool) (a : Act) (w : World), HeadInv md ops n listed →
      (∀ j oj, ops[j]? = some oj → j ≠ i → listed.getD j true = false → (∀ e ∈ oj.after, Region.binds md e = true → e.on ≠ i) → oi.apart ops oj = true) →
      i ∈ Region.ready md ops listed → YieldsIf P ops S oi v a → S w →
      wpAnyT P md ops Q S n fuel (listed.setIfInBounds i true) (a.put oi.dst v) w → wpAnyT P md ops Q S n (fuel + 1) listed a w := by
  intro fuel
  induction fuel with
  | zero =>
    intro listed a w inv _ hr hy hS H
    refine ⟨fun h => (by rw [h] at hr; cases hr), fun j hj => ?_⟩
    by_cases hji : j = i
    · subst hji; exact hy.wpOp hi hS ⟨fun _ => hS, H⟩
    · have := ready_mono hj hji
      rw [H.1] at this
      cases this
  | succ fuel ih =>
    intro listed a w inv hfree hr hy hS H
    have hun := (mem_ready.1 hr).1
    refine ⟨fun h => (by rw [h] at hr; cases hr), fun j hj => ?_⟩
    have hjn : j < n := by
      rcases Nat.lt_or_ge j n with h | h
      · exact h
      · exact absurd hj (tail_waits hs hc hn inv _ i rfl hin hun j h)
    by_cases hji : j = i
    · subst hji; exact hy.wpOp hi hS ⟨fun _ => hS, H⟩
    · have h1 := H.2 j (ready_mono hj hji)
      obtain ⟨hjun, oj, hoj, hall⟩ := mem_ready.1 hj
      have hnot : ∀ e ∈ oj.after, Region.binds md e = true → e.on ≠ i := fun e he hb heq => by
        have h1 := hall e he hb
        rw [heq, getD_both hun] at h1
        cases h1
      have h2 := wpOp_putIf hoj (hfree j oj hoj hji hjun hnot) (fun cs b => hsel i oi cs b hi) (fun cs b => hsel j oj cs b hoj) hQ hy h1
      have hfree' : ∀ k ok, ops[k]? = some ok → k ≠ i → (listed.setIfInBounds j true).getD k true = false →
          (∀ e ∈ ok.after, Region.binds md e = true → e.on ≠ i) → oi.apart ops ok = true := fun k ok hk hki hun hno => by
        refine hfree k ok hk hki ?_ hno
        by_cases hjk : j = k
        · subst hjk; exact hjun
        · rw [getD_set_ne true hjk] at hun; exact hun
      refine wpOp_mono (fun a' w' h3 => ⟨fun _ => h3.2.1 hjn, ih (listed.setIfInBounds j true) a' w' (inv.set hj hjn) hfree' (ready_mono hr (Ne.symm hji)) h3.1 (h3.2.1 hjn) ?_⟩) h2
      rw [Array.setIfInBounds_comm _ _ hji]
      exact h3.2.2

/-- The head's operations in the plan's order: (k, true): number k yields a value under S; (k, false): number k alone can come up, whatever it does. -/
def wpHead (P : Program) (ops : Array Oper) (Q : Exit → Act → World → Prop) (S : World → Prop) (K : Act → World → Prop) : List (Nat × Bool) → Act → World → Prop
  | [], a, w => K a w
  | (k, true) :: l, a, w => ∃ o v, ops[k]? = some o ∧ YieldsIf P ops S o v a ∧ S w ∧ wpHead P ops Q S K l (a.put o.dst v) w
  | (k, false) :: l, a, w => wpOp P ops Q k (fun a' w' => S w' ∧ wpHead P ops Q S K l a' w') a w

def planB (md : Region.Mode) (ops : Array Oper) (n : Nat) : List (Nat × Bool) → Array Bool → Bool
  | [], listed => (List.range n).all (fun j => listed.getD j true) && Region.seqB md ops (ops.size - n) n listed
  | (k, true) :: l, listed => decide (k < n) && (Region.ready md ops listed).contains k && Region.free md ops listed k && planB md ops n l (listed.setIfInBounds k true)
  | (k, false) :: l, listed => decide (k < n) && decide (Region.ready md ops listed = [k]) && planB md ops n l (listed.setIfInBounds k true)

theorem wpAnyT_plan {n : Nat} {ol : List Oper} (hol : ops = ol.toArray) (hsel : Region.noSelect ops = true) (hs : Region.sinkB md ops n = true) (hc : Region.chainB md ops n = true) (hn : n < ops.size)
    (hQ : ∀ c a w, Q (.panic c) a w → False) :
    ∀ (l : List (Nat × Bool)) (listed : Array Bool) (a : Act) (w : World), HeadInv md ops n listed → planB md ops n l listed = true →
      wpHead P ops Q S (fun a' w' => wpList P ops Q (ol.drop n) a' w') l a w → wpAnyT P md ops Q S n (l.length + (ops.size - n)) listed a w
  | [], listed, a, w, inv, hB, h => by
    simp only [planB, Bool.and_eq_true] at hB
    have hl : ∀ j, j < n → listed.getD j true = true := fun j hj => List.all_eq_true.1 hB.1 j (List.mem_range.2 hj)
    rw [List.length_nil, Nat.zero_add]
    refine wpAnyT_of _ _ _ _ hl ?_
    have hdl : (ol.drop n).length = ops.size - n := by subst hol; simp
    rw [← hdl]
    refine wpAny_of_seq (ol.drop n) n listed a w (fun j => by subst hol; simp) ?_ h
    rw [hdl]; exact hB.2
  | (k, true) :: l, listed, a, w, inv, hB, h => by
    simp only [planB, Bool.and_eq_true, decide_eq_true_eq] at hB
    obtain ⟨⟨⟨hkn, hr⟩, hf⟩, hB'⟩ := hB
    obtain ⟨o, v, ho, hy, hS, h'⟩ := h
    have hr' : k ∈ Region.ready md ops listed := by simpa using hr
    rw [show ((k, true) :: l).length + (ops.size - n) = (l.length + (ops.size - n)) + 1 by simp; omega]
    exact wpAnyT_first ho (Region.noSelect_spec hsel) hs hc hn hkn (fun c a w h => (hQ c _ w h).elim) _ listed a w inv (Region.free_spec ho hf) hr' hy hS
      (wpAnyT_plan hol hsel hs hc hn hQ l _ _ _ (inv.set hr' hkn) hB' h')
  | (k, false) :: l, listed, a, w, inv, hB, h => by
    simp only [planB, Bool.and_eq_true, decide_eq_true_eq] at hB
    obtain ⟨⟨hkn, hr⟩, hB'⟩ := hB
    rw [show ((k, false) :: l).length + (ops.size - n) = (l.length + (ops.size - n)) + 1 by simp; omega]
    refine ⟨fun h0 => (by rw [h0] at hr; cases hr), fun i hi => ?_⟩
    have hi' := hi
    rw [hr] at hi'
    obtain rfl : i = k := by simpa using hi'
    exact wpOp_mono (fun a' w' h3 => ⟨fun _ => h3.1, wpAnyT_plan hol hsel hs hc hn hQ l _ a' w' (inv.set hi hkn) hB' h3.2⟩) h

/-- What is asked of the region and the plan. -/
def tailB (md : Region.Mode) (ops : Array Oper) (n : Nat) (plan : List (Nat × Bool)) : Bool :=
  Region.noSelect ops && decide (n < ops.size) && Region.sinkB md ops n && Region.chainB md ops n && decide (plan.length = n) && planB md ops n plan (Array.replicate ops.size false)

/-- **The law**: a region that draws its order, by a plan for its head; then its tail, one behind the other. -/
theorem wp_region_plan {id : Nat} {a : Act} {w : World} {l : List Oper} (S : World → Prop) (n : Nat) (plan : List (Nat × Bool)) (hm : P.follows .mixedOrders = true) (hB : tailB .any l.toArray n plan = true)
    (h : wpHead P l.toArray (NoPanic Q) S (fun a' w' => wpList P l.toArray (NoPanic Q) (l.drop n) a' w') plan a w.drew) : (Code.region id l.toArray true).wp P Q a w := by
  simp only [tailB, Bool.and_eq_true, decide_eq_true_eq] at hB
  obtain ⟨⟨⟨⟨⟨hsel, hn⟩, hs⟩, hc⟩, hlen⟩, hp⟩ := hB
  refine wp_region_noPanic ?_
  refine wp_region_any hm ?_
  have inv0 : HeadInv .any l.toArray n (Array.replicate l.toArray.size false) :=
    ⟨by simp, fun j oj _ hl => (by rw [getD_replicate_false] at hl; cases hl), fun t _ ht => getD_in (by simpa using ht) (getD_replicate_false _ _)⟩
  have := wpAnyT_plan (md := .any) (Q := NoPanic Q) (S := S) rfl hsel hs hc hn (fun _ _ _ h => h) plan _ a _ inv0 hp h
  rw [hlen, show n + (l.toArray.size - n) = l.toArray.size by omega] at this
  exact wpAny_of_T _ _ _ _ this

/-- A step that yields. -/
theorem headY {K : Act → World → Prop} {k : Nat} {o : Oper} {v : Value} {l : List (Nat × Bool)} {a : Act} {w : World} (d : Option Tmp) (ho : ops[k]? = some o) (hd : o.dst = d)
    (hy : YieldsIf P ops S o v a) (hS : S w) (h : wpHead P ops Q S K l (a.put d v) w) : wpHead P ops Q S K ((k, true) :: l) a w := by
  subst hd; exact ⟨o, v, ho, hy, hS, h⟩
/-- A step that does whatever it does. -/
theorem headC {K : Act → World → Prop} {k : Nat} {o : Oper} {l : List (Nat × Bool)} {a : Act} {w : World} (ho : ops[k]? = some o)
    (h : ∀ K' : Act → World → Prop, (∀ a w, S w → wpHead P ops Q S K l a w → K' a w) → if Region.wanted o (yielded ops a.tmps) = true then Oper.wp P o a w K' Q else K' (a.put o.dst undef) w) :
    wpHead P ops Q S K ((k, false) :: l) a w := by
  show wpOp _ _ _ _ _ _ _
  unfold wpOp
  simp only [ho]
  have := h (fun a' w' => S w' ∧ wpHead P ops Q S K l a' w') (fun a w h1 h2 => ⟨h1, h2⟩)
  split
  · rename_i hw; rw [if_pos hw] at this; exact .inl this
  · rename_i hw; rw [if_neg hw] at this; exact this
theorem head0 {K : Act → World → Prop} {a : Act} {w : World} (h : K a w) : wpHead P ops Q S K [] a w := h
end
end Go.Proofs.YtmddapkhipmlgaaDoor

namespace Go.Proofs.YtmddapkhipmlgaaDoor
open Go.RowKit
set_option maxRecDepth 100000

theorem ref_value (K : Nat) (u : Value) (ys : List Int) (w : World) (hk1 : 1 ≤ K) (hk4 : K ≤ 4) (hu : IntsAt w u ys) (hy : Syms K ys) (hyl : ys.length ≤ 7) :
    Calls Tryd.prog 116 #[.int .i64 K, u] w fun e w' => e = .returned (.int .i64 (numW K ys)) ∧ w = w' := by
  have l1 := hu.len
  replace hu := Lib.hid hu
  replace hy := Lib.hid hy
  go_enter Tryd.func116, Tryd.ntmps116
  go_wp2
  go_loop [5, 6] (fun n i => ∃ j : Nat, j ≤ ys.length ∧ i = .int .i64 j ∧ n = .int .i64 (numW K (ys.take j))) (fun _ i => ys.length - (intOf i).toNat)
  case atStart => exact ⟨0, by omega, rfl, rfl⟩
  case round =>
    obtain ⟨j, hj, rfl, rfl⟩ := hrel
    by_cases hjl : j < ys.length
    · have i1 := hu.out.idx j hjl
      have c1 := hu.out.cell j hjl
      have hx := hy.out ys[j] (by simp)
      have hn : Hid (numW K (ys.take (j + 1)) = numW K (ys.take j) * K + ys[j].toNat) := by
        show _ = _
        rw [take_snoc ys j hjl, numW_snoc]
      have hn2 : numW K (ys.take j) ≤ 16384 := by
        have h1 := numW_lt (ys.take j) (fun x hx => hy.out x (List.mem_of_mem_take hx))
        have h2 := pw_le hk1 hk4 (i := (ys.take j).length) (by simp; omega)
        omega
      generalize ys[j] = x at c1 hx hn
      generalize numW K (ys.take j) = N at hn hn2
      have hm1 : 0 ≤ (N : Int) * (K : Int) := Int.mul_nonneg (by omega) (by omega)
      have hm2 : (N : Int) * (K : Int) ≤ 65536 := by
        have : N * K ≤ 65536 := Nat.mul_le_mul hn2 hk4
        have h2 := Int.ofNat_le.2 this
        rw [Int.natCast_mul] at h2
        exact h2
      go_wp2
      go_round
      case rel => exact ⟨j + 1, by omega, by go_num, by rw [hn.out]; go_num⟩
      case measure => simp [intOf]; omega
    · obtain rfl : j = ys.length := by omega
      rw [List.take_length]
      go_wp2
      go_ret
      exact ⟨rfl, rfl⟩

theorem f05_fault (at_ k R : Int) (va : Option Addr) (vn vc : Nat) (xs : List Int) (w : World) (h : IntsAt w (.slice va vn vc) xs) :
    Calls Tryd.prog 127 #[.int .i64 at_, .agg #[.int .i64 k, .int .i64 R, .slice va vn vc]] w (Ret1 (fun x w' => EOwn w.heap.size w' (under sForms at_ (checkP k R xs)) x) w) := by
  have b0 := Below.step (belowAlloc w (.cells #[.int .i64 k, .int .i64 R, .slice va vn vc] 24)) (belowAlloc _ (.cells #[.int .i64 0, .slice none 0 0, .slice none 0 0] 55))
  have q4 : Box3 ((w.alloc (.cells #[.int .i64 k, .int .i64 R, .slice va vn vc] 24)).alloc (.cells #[.int .i64 0, .slice none 0 0, .slice none 0 0] 55)) (w.heap.size + 1) (.int .i64 0) (.slice none 0 0) (.slice none 0 0) := by simp [Box3, go_sem]
  replace h := Lib.hid (h.below b0)
  go_enter Tryd.func127, Tryd.ntmps127
  go_wp2_with fail
  refine (ref_check k R va vn vc xs _ h.out).mono ?_
  rintro e w1 ⟨x, rfl, b1, he⟩
  go_wp2_with fail
  refine (raw_under _ at_ (checkP k R xs) x _ he.at (fun n l e => by
    have := checkP_num e
    simp only at this
    exact ⟨by omega, by omega, by omega⟩)).mono ?_
  rintro e w2 ⟨x2, rfl, b2, he2⟩
  obtain ⟨q, a1, n1, c1, a2, n2, c2, rfl⟩ := he2.shape
  have q4' := q4.below (Below.step b1 b2)
  obtain ⟨⟨y0, y1, y2⟩, f0, f1, f2⟩ := q4'
  have hs := b1.size
  simp only [World.size_alloc] at hs
  replace he2 := Lib.hid he2
  go_wp2
  exact bodyPost_ret (v := .agg #[.int .i64 q, .slice a1 n1 c1, .slice a2 n2 c2]) (by simp [results, Tryd.results127, go_sem, y0, y1, y2]) rfl ⟨_, rfl, below_set3 (Below.step b0 (Below.step b1 b2)) (Nat.le_succ _) _ _ _, (he2.out.set3 (by omega) _ _ _).mono (by omega)⟩
end Go.Proofs.YtmddapkhipmlgaaDoor

namespace Go.Proofs.YtmddapkhipmlgaaDoor
open Go.RowKit
set_option maxRecDepth 100000

theorem cell_alloc' {w : World} {a : Addr} {x : Value} (h : w.cell? a = some x) (o : Obj) : (w.alloc o).cell? a = some x := ((belowAlloc w o).cell (World.block_lt_of_cell? _ _ h)).trans h

/-- The symbol of a window read backwards. -/
def mirF (K n : Nat) (T : List Int) (i : Nat) : Int := T.getD (numW K (digs K n i).reverse) 0
theorem mirT_range (K n : Nat) (T : List Int) : mirT K n T = (List.range T.length).map (mirF K n T) := rfl

/-- A list while it is filled from its front. -/
theorem fill_front (A B : List Int) (j : Nat) (hj : j < A.length) (hl : B.length = A.length) : (A.take j ++ B.drop j).set j (A.getD j 0) = A.take (j + 1) ++ B.drop (j + 1) := by
  have e : (A.take j).length = j := by simp; omega
  rw [List.set_append_right _ _ (by omega), e, Nat.sub_self, List.drop_eq_getElem_cons (show j < B.length by omega), List.set_cons_zero, take_snoc A j hj, List.append_assoc]
  simp [List.getD, hj]
theorem fill_len (A B : List Int) (j : Nat) (hj : j ≤ A.length) (hl : B.length = A.length) : (A.take j ++ B.drop j).length = A.length := by simp; omega
theorem rev_getD (A : List Int) (j : Nat) (hj : j < A.length) : A.reverse.getD j 0 = A.getD (A.length - 1 - j) 0 := by
  have h2 : A.length - 1 - j < A.length := by omega
  simp [List.getD, hj, h2]

set_option maxHeartbeats 2000000 in
theorem mirror05_ok (K R : Nat) (va : Option Addr) (vn vc : Nat) (T : List Int) (w : World) (h : IntsAt w (.slice va vn vc) T) (hr : RuleOk K R T) :
    Calls Tryd.prog 115 #[.agg #[.int .i64 K, .int .i64 R, .slice va vn vc]] w (Ret2 (fun x y w' => ∃ a n c, x = .agg #[.int .i64 K, .int .i64 R, .slice a n c] ∧ OwnI w.heap.size w' (.slice a n c) (mirT K (2 * R + 1) T) ∧ y = zErr) w) := by
  have hlen := h.len
  have hk1 := hr.k1
  have hk4 := hr.k4
  have hr3 := hr.r3
  have hTl := hr.len_le
  have hck := Lib.hid hr.check
  have b0 := Below.step (Below.step (belowAlloc w (.cells #[.int .i64 K, .int .i64 R, .slice va vn vc] 24)) (belowAlloc _ (.cells #[.int .i64 0, .int .i64 0, .slice none 0 0] 24))) (belowAlloc _ (.cells #[.int .i64 0, .slice none 0 0, .slice none 0 0] 55))
  obtain ⟨w0, hw0⟩ : ∃ w0, w0 = ((w.alloc (.cells #[.int .i64 K, .int .i64 R, .slice va vn vc] 24)).alloc (.cells #[.int .i64 0, .int .i64 0, .slice none 0 0] 24)).alloc (.cells #[.int .i64 0, .slice none 0 0, .slice none 0 0] 55) := ⟨_, rfl⟩
  have q1 : Box3 w0 w.heap.size (.int .i64 K) (.int .i64 R) (.slice va vn vc) := by simp [hw0, Box3, go_sem]
  have q2 : Box3 w0 (w.heap.size + 1) (.int .i64 0) (.int .i64 0) (.slice none 0 0) := by simp [hw0, Box3, go_sem]
  have q3 : Box3 w0 (w.heap.size + 1 + 1) (.int .i64 0) (.slice none 0 0) (.slice none 0 0) := by simp [hw0, Box3, go_sem]
  have s0 : w0.heap.size = w.heap.size + 3 := by simp [hw0]
  rw [← hw0] at b0
  replace h := Lib.hid (h.below b0)
  have hrl := Lib.hid hr.len
  have hrs := Lib.hid hr.syms
  clear hr
  obtain ⟨n, hn⟩ : ∃ n, n = 2 * R + 1 := ⟨_, rfl⟩
  rw [← hn]
  have hn7 : n ≤ 7 := by omega
  have hnc : (2 * (R : Int) + 1) = (n : Int) := by omega
  rw [← hn] at hrl
  replace hn := Lib.hid hn
  go_enter Tryd.func115, Tryd.ntmps115
  go_wp2_with fail
  rw [← hw0]
  clear hw0
  refine (f05_fault 0 K R va vn vc T _ h.out).mono ?_
  rintro e w1 ⟨x, rfl, b1, he⟩
  rw [hck.out] at he
  obtain rfl : x = zErr := he
  have b1' := Below.step b1 (belowAlloc w1 (.cells #[.int .i64 0, .slice none 0 0, .slice none 0 0] 55))
  have q4 : Box3 (w1.alloc (.cells #[.int .i64 0, .slice none 0 0, .slice none 0 0] 55)) w1.heap.size (.int .i64 0) (.slice none 0 0) (.slice none 0 0) := by simp [Box3, go_sem]
  go_wp2_with fail
  refine (err_bad 0 none 0 0 none 0 0 _).mono ?_
  rintro e w2 ⟨x, rfl, b2, rfl⟩
  have b02 := Below.step b1' b2
  have q1a := q1.below b02
  have q1b := q1a.alloc (.cells #[.int .i64 K, .int .i64 R, .slice none 0 0] 24)
  have q5 : Box3 (w2.alloc (.cells #[.int .i64 K, .int .i64 R, .slice none 0 0] 24)) w2.heap.size (.int .i64 K) (.int .i64 R) (.slice none 0 0) := by simp [Box3, go_sem]
  have z0 := q1a.1.1
  have z1 := q1a.1.2.1
  have z2 := q1b.1.2.1
  have z3 := q1b.1.1
  have b03 := Below.step b02 (belowAlloc w2 (.cells #[.int .i64 K, .int .i64 R, .slice none 0 0] 24))
  have q2b := q2.below b03
  have q3b := q3.below b03
  have q4b := (q4.below b2).alloc (.cells #[.int .i64 K, .int .i64 R, .slice none 0 0] 24)
  have s2 : w.heap.size + 3 ≤ w2.heap.size := by have := b02.size; omega
  have hB0 := Below.step b0 b03
  go_wp2
  obtain ⟨W0, hW0⟩ : ∃ W0, W0 = w2.alloc (.cells #[.int .i64 K, .int .i64 R, .slice none 0 0] 24) := ⟨_, rfl⟩
  have sW : W0.heap.size = w2.heap.size + 1 := by simp [hW0]
  rw [← hW0] at q1b q5 b03 q2b q3b q4b hB0 ⊢
  clear hW0 z0 z1 z2 z3 q1a
  have h0 := Lib.hid (h.out.below b03)
  have hlT := Lib.hid (show T.length = T.length from rfl)
  go_loopw [7] (fun i wr => ∃ m : Nat, m ≤ T.length ∧ i = .int .i64 m ∧ (∃ ta tn tc, OwnI (w2.heap.size + 1) wr (.slice ta tn tc) ((List.range m).map (mirF K n T)) ∧ Box3 wr w2.heap.size (.int .i64 K) (.int .i64 R) (.slice ta tn tc)) ∧ Below w2.heap.size W0 wr ∧ W0.heap.size ≤ wr.heap.size) (fun i _ => T.length - (intOf i).toNat)
  case atStart => exact ⟨0, by omega, rfl, ⟨none, 0, 0, OwnI.nil _ _, q5⟩, Below.refl _ _, Nat.le_refl _⟩
  case round =>
    obtain ⟨m, hm, rfl, ⟨ta, tn, tc, hT, hX⟩, hB, hsz⟩ := hrel
    obtain ⟨wo, rfl⟩ : ∃ wo : World, wo = wr := ⟨_, rfl⟩
    have q1c := q1b.belowB hB (by omega)
    obtain ⟨⟨z0, z1, z2⟩, -, -, -⟩ := q1c
    by_cases hml : m < T.length
    · go_wp2_with fail
      refine (ref_digits _ _ _ K n m _ rfl rfl rfl hk1 hk4 hn7 (by omega)).mono ?_
      rintro e w4 ⟨dv, rfl, b4, hd⟩
      have hdl : (digs K n m).length = n := digs_length ..
      replace hdl := Lib.hid hdl
      replace hd := Lib.hid hd
      go_wp2_with (at_make; refine wpl_make rfl _ _ rfl _ rfl rfl (by omega) (by omega) ?_)
      intro bv w5 hbv b5
      replace hbv := Lib.hid hbv
      have d5 := Lib.hid (hd.out.at.below b5)
      go_wp2
      go_loopw [10] (fun i wr => ∃ j : Nat, j ≤ n ∧ i = .int .i64 j ∧ OwnI w4.heap.size wr bv ((digs K n m).reverse.take j ++ (List.replicate n (0 : Int)).drop j) ∧ Below w4.heap.size w4 wr) (fun i _ => n - (intOf i).toNat)
      case atStart => exact ⟨0, by omega, rfl, by simpa using hbv.out, b5⟩
      case round =>
        obtain ⟨j, hj, rfl, hO, hBj⟩ := hrel
        obtain ⟨wi, rfl⟩ : ∃ wi : World, wi = wr := ⟨_, rfl⟩
        by_cases hjl : j < n
        · have hXl : ((digs K n m).reverse.take j ++ (List.replicate n (0 : Int)).drop j).length = n := by rw [fill_len _ _ j (by simp [hdl.out]; omega) (by simp [hdl.out])]; simp [hdl.out]
          have dj := hd.out.at.below hBj
          have hdj : n - 1 - j < (digs K n m).length := by rw [hdl.out]; omega
          have i1 : ∀ w', (Instr.indexAt 22 dv (.int .i64 ((n : Int) - 1 - (j : Int)))).run Tryd.prog w' = .ok (.pointer (some (valAt dv (n - 1 - j)))) w' := by
            intro w'
            have := dj.idxI ((n : Int) - 1 - (j : Int)) (by omega) (by omega) w'
            rwa [show ((n : Int) - 1 - (j : Int)).toNat = n - 1 - j by omega] at this
          have c1 := dj.cellD (n - 1 - j) hdj
          have i2 := hO.at.idx j (by rw [hXl]; exact hjl)
          have c2 := hO.at.cellD j (by rw [hXl]; exact hjl)
          have f2 := hO.frz j (by rw [hXl]; exact hjl)
          have hS := hO.set j (by rw [hXl]; exact hjl) ((digs K n m).getD (n - 1 - j) 0)
          have hbS := hO.setBelow hBj j (by rw [hXl]; exact hjl) (.int .i64 ((digs K n m).getD (n - 1 - j) 0))
          rw [show (digs K n m).getD (n - 1 - j) 0 = (digs K n m).reverse.getD j 0 by rw [rev_getD _ _ (by rw [hdl.out]; exact hjl), hdl.out], fill_front _ _ j (by simp [hdl.out]; exact hjl) (by simp [hdl.out])] at hS
          rw [show (digs K n m).getD (n - 1 - j) 0 = (digs K n m).reverse.getD j 0 by rw [rev_getD _ _ (by rw [hdl.out]; exact hjl), hdl.out]] at hbS c1
          replace hS := Lib.hid hS
          replace hbS := Lib.hid hbS
          generalize (digs K n m).reverse.getD j 0 = y at c1 hS hbS
          generalize ((digs K n m).reverse.take j ++ (List.replicate n (0 : Int)).drop j).getD j 0 = y' at c2
          clear hXl hO hdj dj
          go_wp2
          go_roundw
          case rel => exact ⟨j + 1, by omega, by go_num, hS.out, hbS.out⟩
          case measure => simp [intOf]; omega
        · obtain rfl : n = j := by omega
          rw [List.drop_of_length_le (by simp), List.append_nil, List.take_of_length_le (by simp [hdl.out])] at hO
          go_wp2
          have bwi := Below.step b4 hBj
          have b0i := Below.step ((b03.trans (hB.mono (by omega)))) bwi
          have ix : numW K (digs K n m).reverse < T.length := by
            have h1 := numW_lt (digs K n m).reverse (fun x hx => digs_syms hk1 n m x (List.mem_reverse.1 hx))
            rw [List.length_reverse, hdl.out, ← hrl.out] at h1
            exact h1
          have hTi := h.out.below b0i
          have i3 := hTi.idx _ ix
          have c3 := hTi.cellD _ ix
          have hRs : Hid (Syms K (digs K n m).reverse) := Lib.hid (fun x hx => digs_syms hk1 n m x (List.mem_reverse.1 hx))
          have hRl : (digs K n m).reverse.length ≤ 7 := by rw [List.length_reverse, hdl.out]; omega
          have hlist : Hid ((List.range m).map (mirF K n T) ++ [T.getD (numW K (digs K n m).reverse) 0] = (List.range (m + 1)).map (mirF K n T)) := by
            show _ = _
            rw [List.range_succ, List.map_append]; rfl
          have xi := hX.below bwi
          have hTo := Lib.hid (hT.below bwi)
          have q1i := (q1b.belowB hB (by omega)).below bwi
          obtain ⟨W, hW⟩ : ∃ W : World, W = wi.drew := ⟨_, rfl⟩
          have hRv := Lib.hid (show IntsAt W bv _ by rw [hW]; exact hO.at.drew)
          have hTW := Lib.hid (show OwnI (w2.heap.size + 1) W _ _ by rw [hW]; exact hTo.out.drew)
          have xW := Lib.hid (show Box3 W _ _ _ _ by rw [hW]; exact xi.drew)
          have bW : Below wo.heap.size wo W := by rw [hW]; exact bwi.drew
          have hS : W.cell? ⟨w2.heap.size, 2, none⟩ = some (.slice ta tn tc) ∧ W.cell? ⟨w.heap.size, 2, none⟩ = some (.slice va vn vc) ∧ W.cell? ⟨w.heap.size, 0, none⟩ = some (.int .i64 K) ∧ W.cell? (valAt (.slice va vn vc) (numW K (digs K n m).reverse)) = some (.int .i64 (T.getD (numW K (digs K n m).reverse) 0)) := by
            rw [hW]; exact ⟨xi.1.2.2, q1i.1.2.2, q1i.1.1, c3⟩
          generalize T.getD (numW K (digs K n m).reverse) 0 = y at hS hlist c3
          generalize valAt (.slice va vn vc) (numW K (digs K n m).reverse) = ya at hS i3 c3
          refine wp_region_plan (fun w' => w'.cell? ⟨w2.heap.size, 2, none⟩ = some (.slice ta tn tc) ∧ w'.cell? ⟨w.heap.size, 2, none⟩ = some (.slice va vn vc) ∧ w'.cell? ⟨w.heap.size, 0, none⟩ = some (.int .i64 K) ∧ w'.cell? ya = some (.int .i64 y)) 11 [(0, true), (1, true), (2, true), (3, true), (4, true), (5, true), (6, true), (7, false), (8, true), (9, true), (10, false)] (by kernel_rfl) (by kernel_rfl) ?_
          rw [← hW]
          replace hW := Lib.hid hW
          clear z0 z1 z2 c3
          refine headY (v := ?_) (some 55) rfl rfl (Or.inl ⟨by rfl, ?_⟩) hS ?_
          rotate_left
          · rintro W' ⟨s0, s1, s2, s3⟩; go_simp; try with_reducible rfl
          simp only [Act.put, List.setIfInBounds_toArray, List.set_cons_zero, List.set_cons_succ]
          refine headY (v := ?_) (some 56) rfl rfl (Or.inl ⟨by rfl, ?_⟩) hS ?_
          rotate_left
          · rintro W' ⟨s0, s1, s2, s3⟩; go_simp; try with_reducible rfl
          simp only [Act.put, List.setIfInBounds_toArray, List.set_cons_zero, List.set_cons_succ]
          refine headY (v := ?_) (some 57) rfl rfl (Or.inl ⟨by rfl, ?_⟩) hS ?_
          rotate_left
          · rintro W' ⟨s0, s1, s2, s3⟩; go_simp; try with_reducible rfl
          simp only [Act.put, List.setIfInBounds_toArray, List.set_cons_zero, List.set_cons_succ]
          refine headY (v := ?_) (some 58) rfl rfl (Or.inl ⟨by rfl, ?_⟩) hS ?_
          rotate_left
          · rintro W' ⟨s0, s1, s2, s3⟩; go_simp; try with_reducible rfl
          simp only [Act.put, List.setIfInBounds_toArray, List.set_cons_zero, List.set_cons_succ]
          refine headY (v := ?_) (some 59) rfl rfl (Or.inl ⟨by rfl, ?_⟩) hS ?_
          rotate_left
          · rintro W' ⟨s0, s1, s2, s3⟩; go_simp; try with_reducible rfl
          simp only [Act.put, List.setIfInBounds_toArray, List.set_cons_zero, List.set_cons_succ]
          refine headY (v := ?_) (some 60) rfl rfl (Or.inl ⟨by rfl, ?_⟩) hS ?_
          rotate_left
          · rintro W' ⟨s0, s1, s2, s3⟩; go_simp; try with_reducible rfl
          simp only [Act.put, List.setIfInBounds_toArray, List.set_cons_zero, List.set_cons_succ]
          refine headY (v := ?_) (some 61) rfl rfl (Or.inl ⟨by rfl, ?_⟩) hS ?_
          rotate_left
          · rintro W' ⟨s0, s1, s2, s3⟩; go_simp; try with_reducible rfl
          simp only [Act.put, List.setIfInBounds_toArray, List.set_cons_zero, List.set_cons_succ]
          refine headC rfl (fun KK hK => ?_)
          go_simp
          refine (ref_value K bv _ _ hk1 hk4 hRv.out hRs.out hRl).mono ?_
          rintro e wv ⟨rfl, rfl⟩
          refine hK _ _ hS ?_
          clear hK KK
          refine headY (v := ?_) (some 63) rfl rfl (Or.inl ⟨by rfl, ?_⟩) hS ?_
          rotate_left
          · rintro W' ⟨s0, s1, s2, s3⟩; go_simp; try with_reducible rfl
          simp only [Act.put, List.setIfInBounds_toArray, List.set_cons_zero, List.set_cons_succ]
          refine headY (v := ?_) (some 64) rfl rfl (Or.inl ⟨by rfl, ?_⟩) hS ?_
          rotate_left
          · rintro W' ⟨s0, s1, s2, s3⟩; go_simp; try with_reducible rfl
          simp only [Act.put, List.setIfInBounds_toArray, List.set_cons_zero, List.set_cons_succ]
          refine headC rfl (fun KK hK => ?_)
          go_simp
          refine hK _ _ ⟨cell_alloc hS.1 _, cell_alloc hS.2.1 _, cell_alloc hS.2.2.1 _, cell_alloc' hS.2.2.2 _⟩ ?_
          clear hK KK
          refine head0 ?_
          simp only [List.drop_succ_cons, List.drop_zero]
          have sWo : w2.heap.size + 1 ≤ W.heap.size := by have := bW.size; omega
          refine wpl_append1b rfl _ _ rfl (w2.heap.size + 1) (.slice ta tn tc) _ y hTW.out (by rfl) W.heap.size (by rfl) rfl (by simp; omega) sWo ?_
          intro v' w' hT' hb' _ _
          obtain ⟨va', vn', vc', rfl⟩ := hT'.at.shape
          have X' := xW.out.belowB hb' (show w2.heap.size < w2.heap.size + 1 by omega)
          have hTn := hT'.setBelowBase (a := ⟨w2.heap.size, 2, none⟩) (show w2.heap.size < w2.heap.size + 1 by omega) (.slice va' vn' vc')
          rw [hlist.out] at hTn
          have Xn := X'.set2 (.slice va' vn' vc')
          have Bn := (hB.trans ((bW.mono (show w2.heap.size ≤ wo.heap.size by omega)).trans (hb'.mono (show w2.heap.size ≤ w2.heap.size + 1 by omega)))).setCell (p := ⟨w2.heap.size, 2, none⟩) (Nat.le_refl _) (.slice va' vn' vc')
          have sN : W0.heap.size ≤ (w'.setCell ⟨w2.heap.size, 2, none⟩ (.slice va' vn' vc')).heap.size := by
            have := hb'.size
            simp [World.setCell]; omega
          obtain ⟨⟨ey0, ey1, ey2⟩, eh0, eh1, eh2⟩ := X'
          replace hTn := Lib.hid hTn
          replace Xn := Lib.hid Xn
          replace Bn := Lib.hid Bn
          replace sN := Lib.hid sN
          clear hT' hb'
          go_wp2
          refine NoPanic.normal ?_
          go_wp2
          go_roundw
          case rel => exact ⟨m + 1, by omega, by go_num, ⟨va', vn', vc', hTn.out, Xn.out⟩, Bn.out, sN.out⟩
          case measure => simp [intOf]; omega
    · obtain rfl : T.length = m := by omega
      have hTf := Lib.hid hT
      have q2f := q2b.belowB hB (by omega)
      have q3f := q3b.belowB hB (by omega)
      have hBf := Lib.hid (hB0.trans (hB.mono (show w.heap.size ≤ w2.heap.size by omega)))
      obtain ⟨⟨y0, y1, y2⟩, g0, g1, g2⟩ := q2f
      obtain ⟨⟨x0, x1, x2⟩, -, -, -⟩ := hX
      obtain ⟨⟨u0, u1, u2⟩, k0, k1, k2⟩ := q3f
      go_wp2
      refine bodyPost_ret (v := .tuple #[.agg #[.int .i64 K, .int .i64 R, .slice ta tn tc], zErr]) (by simp [results, Tryd.results115, go_sem, y0, y1, y2, u0, u1, u2]) rfl ⟨_, _, rfl, ?_, ta, tn, tc, rfl, ?_, rfl⟩
      · exact below_set3 (below_set3 hBf.out (by omega) _ _ _) (by omega) _ _ _
      · rw [mirT_range]
        exact (((((((hTf.out.setBelowBase (a := ⟨w.heap.size + 1, 0, none⟩) (by simp; omega) _).setBelowBase (a := ⟨w.heap.size + 1, 1, none⟩) (by simp; omega) _).setBelowBase (a := ⟨w.heap.size + 1, 2, none⟩) (by simp; omega) _).setBelowBase (a := ⟨w.heap.size + 1 + 1, 0, none⟩) (by simp; omega) _).setBelowBase (a := ⟨w.heap.size + 1 + 1, 1, none⟩) (by simp; omega) _).setBelowBase (a := ⟨w.heap.size + 1 + 1, 2, none⟩) (by simp; omega) _).mono (by omega))
end Go.Proofs.YtmddapkhipmlgaaDoor

namespace Go.Proofs.YtmddapkhipmlgaaDoor
open Go.RowKit
set_option maxRecDepth 100000

theorem quo_wrap {t K : Nat} (h : t ≤ 4294967296) : IntKind.i64.wrap ((t : Int) / (K : Int)) = (t : Int) / (K : Int) := by
  have h0 : 0 ≤ (t : Int) / (K : Int) := Int.ediv_nonneg (by omega) (by omega)
  have h1 : (t : Int) / (K : Int) ≤ 4294967296 := by
    have h1 : t / K ≤ t := Nat.div_le_self _ _
    have h2 : ((t / K : Nat) : Int) ≤ 4294967296 := by omega
    rwa [Int.natCast_ediv] at h2
  exact wrapK (by omega) (by omega)
theorem quo_mono {K a b : Nat} (h : a ≤ b) : a / K ≤ b / K := Nat.div_le_div_right h

set_option maxHeartbeats 1000000 in
theorem right19_any (K R : Nat) (va : Option Addr) (vn vc : Nat) (T : List Int) (w : World) (h : IntsAt w (.slice va vn vc) T) (hr : RuleOk K R T) :
    Calls Tryd.prog 84 #[.agg #[.int .i64 K, .int .i64 R, .slice va vn vc]] w (Ret1 (fun x _ => x = .bool (rightR K T)) w) := by
  have b0 := belowAlloc w (.cells #[.int .i64 K, .int .i64 R, .slice va vn vc] 24)
  have hlen := h.len
  have hk1 := hr.k1
  have hk4 := hr.k4
  have hTl := hr.len_le
  have hK0 : ((K : Int) == 0) = false := by rw [beq_eq_false_iff_ne]; omega
  have hK1 : ¬ (K : Int) = 0 := by omega
  have hK2 : (0 : Int) < K := by omega
  have hK3 : ¬ K = 0 := by omega
  replace h := Lib.hid (h.below b0)
  have q1 : Box3 (w.alloc (.cells #[.int .i64 K, .int .i64 R, .slice va vn vc] 24)) w.heap.size (.int .i64 K) (.int .i64 R) (.slice va vn vc) := by simp [Box3, go_sem]
  go_enter Tryd.func84, Tryd.ntmps84
  go_wp2
  obtain ⟨W, hW⟩ : ∃ W, W = w.alloc (.cells #[.int .i64 K, .int .i64 R, .slice va vn vc] 24) := ⟨_, rfl⟩
  rw [← hW] at b0 h q1 ⊢
  clear hW
  obtain ⟨⟨z0, z1, z2⟩, -, -, -⟩ := q1
  go_loopw [3, 4] (fun i _ wr => ∃ m : Nat, m ≤ T.length ∧ i = .int .i64 m ∧ (∀ i', i' < m → ∀ j, j < T.length → i' < j → j / K = i' / K → T.getD i' 0 ≠ T.getD j 0) ∧ ∃ n, wr = W.drewN n) (fun i _ _ => T.length - (intOf i).toNat)
  case atStart => exact ⟨0, by omega, rfl, fun i' hi => by omega, 0, rfl⟩
  case round =>
    obtain ⟨m, hm, rfl, hok, n, rfl⟩ := hrel
    replace hok := Lib.hid hok
    by_cases hml : m < T.length
    · go_wp2
      go_loopw [4] (fun j wr => ∃ t : Nat, m < t ∧ t ≤ T.length ∧ j = .int .i64 t ∧ (∀ j', m < j' → j' < t → j' / K = m / K ∧ T.getD m 0 ≠ T.getD j' 0) ∧ ∃ n, wr = W.drewN n) (fun j _ => T.length - (intOf j).toNat)
      case atStart => exact ⟨m + 1, by omega, by omega, by simp, fun j' h1 h2 => by omega, n, rfl⟩
      case round =>
        obtain ⟨t, hmt, htl, rfl, hin, n', rfl⟩ := hrel
        replace hin := Lib.hid hin
        have hqe : ((t : Int) / (K : Int) == (m : Int) / (K : Int)) = decide (t / K = m / K) := by
          rw [Bool.eq_iff_iff, beq_iff_eq, decide_eq_true_iff]
          exact ⟨fun h => by exact_mod_cast h, fun h => by exact_mod_cast h⟩
        have hwt : IntKind.i64.wrap ((t : Int) / (K : Int)) = (t : Int) / (K : Int) := quo_wrap (by omega)
        have hwm : IntKind.i64.wrap ((m : Int) / (K : Int)) = (m : Int) / (K : Int) := quo_wrap (by omega)
        by_cases hA : t < T.length ∧ t / K = m / K
        · obtain ⟨htl', hq⟩ := hA
          rw [decide_eq_true hq] at hqe
          replace hq := Lib.hid hq
          have i1 := h.out.idx m hml
          have c1 := h.out.cellD m hml
          have i2 := h.out.idx t htl'
          have c2 := h.out.cellD t htl'
          by_cases he : T.getD m 0 = T.getD t 0
          · have hr1 : rightR K T = false := rightR_false m t htl' hmt hq.out he
            replace hr1 := Lib.hid hr1
            generalize hy : T.getD t 0 = y at c2 he
            rw [he] at c1
            clear he hy
            go_wp2
            go_quiet (fail)
            go_wp2
            go_quiet (fail)
            go_wp2
            go_ret
            exact ⟨_, rfl, below_drewN (below_drewN (below_drewN b0 _) _) _, by rw [hr1.out]; rfl⟩
          · have hne : (T.getD m 0 == T.getD t 0) = false := by rw [beq_eq_false_iff_ne]; exact he
            have hin' : Hid (∀ j', m < j' → j' < t + 1 → j' / K = m / K ∧ T.getD m 0 ≠ T.getD j' 0) := Lib.hid (fun j' h1 h2 => by
              by_cases e : j' = t
              · subst e; exact ⟨hq.out, he⟩
              · exact hin.out j' h1 (by omega))
            clear he
            obtain ⟨y, hy⟩ : ∃ y, y = T.getD t 0 := ⟨_, rfl⟩
            obtain ⟨x, hx⟩ : ∃ x, x = T.getD m 0 := ⟨_, rfl⟩
            rw [← hx] at c1 hne
            rw [← hy] at c2 hne
            clear hx hy
            go_wp2
            go_quiet (fail)
            go_wp2
            go_quiet (fail)
            go_wp2
            go_roundw
            case rel => exact ⟨t + 1, by omega, by omega, by go_num, hin'.out, _, rfl⟩
            case measure => simp [intOf]; omega
        · have hok' : Hid (∀ i', i' < m + 1 → ∀ j, j < T.length → i' < j → j / K = i' / K → T.getD i' 0 ≠ T.getD j 0) := Lib.hid (fun i' hi j hj hij hq => by
            by_cases e : i' = m
            · subst e
              by_cases hjt : j < t
              · exact (hin.out j hij hjt).2
              · exfalso
                apply hA
                have h1 := quo_mono (K := K) (show i' ≤ t by omega)
                have h2 := quo_mono (K := K) (show t ≤ j by omega)
                exact ⟨by omega, by omega⟩
            · exact hok.out i' (by omega) j hj hij hq)
          by_cases htl' : t < T.length
          · have hq : ¬ t / K = m / K := fun e => hA ⟨htl', e⟩
            rw [decide_eq_false hq] at hqe
            clear hA hq
            go_wp2
            go_quiet (fail)
            go_wp2
            go_roundw
            case rel => exact ⟨m + 1, by omega, by go_num, hok'.out, _, rfl⟩
            case measure => simp [intOf]; omega
          · clear hA hqe
            have hd : decide (t < T.length) = false := by simp; omega
            go_wp2
            go_quiet (fail)
            go_wp2
            go_roundw
            case rel => exact ⟨m + 1, by omega, by go_num, hok'.out, _, rfl⟩
            case measure => simp [intOf]; omega
    · have hr1 : rightR K T = true := rightR_true (fun i' hi j hj => hok.out i' (by omega) j hj)
      replace hr1 := Lib.hid hr1
      go_wp2
      go_ret
      exact ⟨_, rfl, below_drewN b0 _, by rw [hr1.out]; rfl⟩

theorem mirror19_ok (K R : Nat) (va : Option Addr) (vn vc : Nat) (T : List Int) (w : World) (h : IntsAt w (.slice va vn vc) T) (hr : RuleOk K R T) :
    Calls Tryd.prog 85 #[.agg #[.int .i64 K, .int .i64 R, .slice va vn vc]] w (Ret1 (fun x w' => ∃ a n c, x = .agg #[.int .i64 K, .int .i64 R, .slice a n c] ∧ OwnI w.heap.size w' (.slice a n c) (mirT K (2 * R + 1) T)) w) := by
  have b0 := Below.step (belowAlloc w (.cells #[.int .i64 K, .int .i64 R, .slice va vn vc] 24)) (belowAlloc _ (.cells #[.int .i64 0, .int .i64 0, .slice none 0 0] 24))
  have q2 : Box3 ((w.alloc (.cells #[.int .i64 K, .int .i64 R, .slice va vn vc] 24)).alloc (.cells #[.int .i64 0, .int .i64 0, .slice none 0 0] 24)) (w.heap.size + 1) (.int .i64 0) (.int .i64 0) (.slice none 0 0) := by simp [Box3, go_sem]
  replace h := Lib.hid (h.below b0)
  go_enter Tryd.func85, Tryd.ntmps85
  go_wp2_with fail
  refine (mirror05_ok K R va vn vc T _ h.out hr).mono ?_
  rintro e w1 ⟨x, y, rfl, b1, a, n, c, rfl, ho, rfl⟩
  have b1' := Below.step b1 (Below.step (belowAlloc w1 (.cells #[.int .i64 K, .int .i64 R, .slice a n c] 24)) (belowAlloc _ (.cells #[.int .i64 0, .slice none 0 0, .slice none 0 0] 55)))
  have q2' := q2.below b1'
  obtain ⟨⟨y0, y1, y2⟩, f0, f1, f2⟩ := q2'
  have hs := b1.size
  simp only [World.size_alloc] at ho hs
  replace ho := Lib.hid ((ho.alloc (.cells #[.int .i64 K, .int .i64 R, .slice a n c] 24)).alloc (.cells #[.int .i64 0, .slice none 0 0, .slice none 0 0] 55))
  go_wp2
  refine bodyPost_ret (v := .agg #[.int .i64 K, .int .i64 R, .slice a n c]) (by simp [results, Tryd.results85, go_sem, y0, y1, y2]) rfl ⟨_, rfl, below_set3 (Below.step b0 b1') (Nat.le_succ _) _ _ _, a, n, c, rfl, ?_⟩
  exact (((ho.out.setBelowBase (a := ⟨w.heap.size + 1, 0, none⟩) (by simp) _).setBelowBase (a := ⟨w.heap.size + 1, 1, none⟩) (by simp) _).setBelowBase (a := ⟨w.heap.size + 1, 2, none⟩) (by simp) _).mono (by omega)

theorem fill_back (A B : List Int) (j : Nat) (hj : j < A.length) (hl : B.length = A.length) : (B.take (A.length - j) ++ A.reverse.drop (A.length - j)).set (A.length - 1 - j) (A.getD j 0) = B.take (A.length - (j + 1)) ++ A.reverse.drop (A.length - (j + 1)) := by
  have hm : A.length - j = A.length - (j + 1) + 1 := by omega
  have hg : A.getD j 0 = A.reverse.getD (A.length - (j + 1)) 0 := by
    rw [rev_getD _ _ (by omega)]
    congr 1
    omega
  rw [show A.length - 1 - j = A.length - (j + 1) by omega, hm, hg]
  have hlt : A.length - (j + 1) < A.length := by omega
  generalize A.length - (j + 1) = i at hlt
  have hil : i < A.reverse.length := by simpa using hlt
  rw [take_snoc B i (by omega), List.append_assoc, List.set_append_right _ _ (by simp; omega), List.drop_eq_getElem_cons hil]
  have e : i - (B.take i).length = 0 := by simp; omega
  have g : A.reverse.getD i 0 = A.reverse[i] := by simp only [List.getD, List.getElem?_eq_getElem hil, Option.getD_some]
  rw [e, g, List.singleton_append, List.set_cons_zero]

theorem back03_any (v : Value) (xs : List Int) (w : World) (h : IntsAt w v xs) (hl : xs.length ≤ 17592186044416) :
    Calls Tryd.prog 88 #[v] w (Ret1 (fun x w' => OwnI w.heap.size w' x xs.reverse) w) := by
  have hlen := h.len
  replace h := Lib.hid h
  go_enter Tryd.func88, Tryd.ntmps88
  go_wp2_with (at_make; refine wpl_make rfl _ _ rfl _ rfl rfl (by omega) (by omega) ?_)
  intro bv w1 hb b1
  replace hb := Lib.hid hb
  go_wp2
  go_loopw [4] (fun i wr => ∃ j : Nat, j ≤ xs.length ∧ i = .int .i64 j ∧ OwnI w.heap.size wr bv ((List.replicate xs.length (0 : Int)).take (xs.length - j) ++ xs.reverse.drop (xs.length - j)) ∧ Below w.heap.size w wr) (fun i _ => xs.length - (intOf i).toNat)
  case atStart => exact ⟨0, by omega, rfl, by rw [Nat.sub_zero, List.drop_of_length_le (by simp), List.append_nil, List.take_of_length_le (by simp)]; exact hb.out, b1⟩
  case round =>
    obtain ⟨j, hj, rfl, hO, hB⟩ := hrel
    obtain ⟨wi, rfl⟩ : ∃ wi : World, wi = wr := ⟨_, rfl⟩
    by_cases hjl : j < xs.length
    · have hXl : ((List.replicate xs.length (0 : Int)).take (xs.length - j) ++ xs.reverse.drop (xs.length - j)).length = xs.length := by simp <;> omega
      have hd := h.out.below hB
      have i1 := hd.idx j hjl
      have c1 := hd.cellD j hjl
      have i2 : ∀ w', (Instr.indexAt 22 bv (.int .i64 ((xs.length : Int) - 1 - (j : Int)))).run Tryd.prog w' = .ok (.pointer (some (valAt bv (xs.length - 1 - j)))) w' := by
        intro w'
        have := hO.at.idxI ((xs.length : Int) - 1 - (j : Int)) (by omega) (by rw [hXl]; omega) w'
        rwa [show ((xs.length : Int) - 1 - (j : Int)).toNat = xs.length - 1 - j by omega] at this
      have c2 := hO.at.cellD (xs.length - 1 - j) (by rw [hXl]; omega)
      have f2 := hO.frz (xs.length - 1 - j) (by rw [hXl]; omega)
      have hS := hO.set (xs.length - 1 - j) (by rw [hXl]; omega) (xs.getD j 0)
      have hbS := hO.setBelow hB (xs.length - 1 - j) (by rw [hXl]; omega) (.int .i64 (xs.getD j 0))
      rw [fill_back xs _ j hjl (by simp)] at hS
      replace hS := Lib.hid hS
      replace hbS := Lib.hid hbS
      obtain ⟨y, hy⟩ : ∃ y, y = xs.getD j 0 := ⟨_, rfl⟩
      rw [← hy] at c1 hS hbS
      generalize ((List.replicate xs.length (0 : Int)).take (xs.length - j) ++ xs.reverse.drop (xs.length - j)).getD (xs.length - 1 - j) 0 = y' at c2
      clear hXl hO hd hy
      go_wp2
      go_roundw
      case rel => exact ⟨j + 1, by omega, by go_num, hS.out, hbS.out⟩
      case measure => simp [intOf]; omega
    · obtain rfl : xs.length = j := by omega
      rw [Nat.sub_self, List.take_zero, List.drop_zero, List.nil_append] at hO
      replace hO := Lib.hid hO
      go_wp2
      go_ret
      exact ⟨_, rfl, hB, hO.out⟩
end Go.Proofs.YtmddapkhipmlgaaDoor

namespace Go.Proofs.YtmddapkhipmlgaaDoor
open Go.RowKit
set_option maxRecDepth 100000

set_option maxHeartbeats 1000000 in
theorem sides19_bad (k R : Int) (va : Option Addr) (vn vc : Nat) (xs : List Int) (t : Int × List (ByteArray × Int)) (w : World) (h : IntsAt w (.slice va vn vc) xs) (hc : checkP k R xs = some t) :
    Calls Tryd.prog 40 #[.agg #[.int .i64 k, .int .i64 R, .slice va vn vc]] w (Ret3 (fun x y z w' => x = .bool false ∧ y = .bool false ∧ EOwn w.heap.size w' (under sPermut 0 (some t)) z) w) := by
  have b0 := Below.step (belowAlloc w (.cells #[.int .i64 k, .int .i64 R, .slice va vn vc] 24)) (belowAlloc _ (.cells #[.int .i64 0, .slice none 0 0, .slice none 0 0] 55))
  have q7 : Box3 ((w.alloc (.cells #[.int .i64 k, .int .i64 R, .slice va vn vc] 24)).alloc (.cells #[.int .i64 0, .slice none 0 0, .slice none 0 0] 55)) (w.heap.size + 1) (.int .i64 0) (.slice none 0 0) (.slice none 0 0) := by simp [Box3, go_sem]
  obtain ⟨hn1, hl1⟩ := checkP_num hc
  replace h := Lib.hid (h.below b0)
  replace hc := Lib.hid hc
  obtain ⟨n, l⟩ := t
  simp only at hn1 hl1
  have hnb : (n != 0) = true := by rw [bne_iff_ne]; omega
  replace hn1 := Lib.hid hn1
  go_enter Tryd.func40, Tryd.ntmps40
  go_wp2_with fail
  refine (ref_check k R va vn vc xs _ h.out).mono ?_
  rintro e w1 ⟨x, rfl, b1, he⟩
  rw [hc.out] at he
  go_wp2_with fail
  refine (raw_under _ _ (some (n, l)) x _ he.at (fun n' l' e => by cases e; exact ⟨by have := hn1.out; omega, by omega, by omega⟩)).mono ?_
  rintro e w2 ⟨x2, rfl, b2, he2⟩
  obtain ⟨a1, n1, c1, a2, n2, c2, rfl, hs1, hs2⟩ := he2
  have he2 : EOwn w1.heap.size w2 (under sPermut 0 (some (n, l))) (.agg #[.int .i64 n, .slice a1 n1 c1, .slice a2 n2 c2]) := ⟨_, _, _, _, _, _, rfl, hs1, hs2⟩
  clear hs1 hs2
  replace he2 := Lib.hid he2
  have q8 := (q7.below b1).below b2
  go_wp2_with fail
  refine (err_bad n a1 n1 c1 a2 n2 c2 _).mono ?_
  rintro e w3 ⟨x, rfl, b3, rfl⟩
  have b23 := Below.step (belowAlloc w2 (.cells #[.int .i64 n, .slice a1 n1 c1, .slice a2 n2 c2] 55)) b3
  obtain ⟨⟨y0, y1, y2⟩, f0, f1, f2⟩ := q8.below b23
  obtain ⟨x0, x1, x2⟩ := keep3 (n := w2.heap.size) (a := .int .i64 n) (b := .slice a1 n1 c1) (c := .slice a2 n2 c2) b3 ⟨by simp, by simp, by simp⟩
  have hlt : w.heap.size + 1 < w1.heap.size := World.block_lt_of_cell? _ _ (q7.below b1).1.1
  have hEf := Lib.hid (he2.out.below b23)
  have hBf := Lib.hid (Below.step (Below.step (Below.step b0 b1) b2) b23)
  go_wp2
  go_region
  go_wp2
  refine bodyPost_ret (v := .tuple #[.bool false, .bool false, .agg #[.int .i64 n, .slice a1 n1 c1, .slice a2 n2 c2]]) (by simp [results, Tryd.results40, go_sem, y0, y1, y2]) rfl ⟨_, _, _, rfl, ?_, rfl, rfl, ?_⟩
  · exact (below_set3 hBf.out (Nat.le_succ _) _ _ _).drew
  · exact ((hEf.out.set3 hlt _ _ _).mono (by omega)).drew

set_option maxHeartbeats 1000000 in
theorem sides19_ok (K R : Nat) (va : Option Addr) (vn vc : Nat) (T : List Int) (w : World) (h : IntsAt w (.slice va vn vc) T) (hr : RuleOk K R T) :
    Calls Tryd.prog 40 #[.agg #[.int .i64 K, .int .i64 R, .slice va vn vc]] w (Ret3 (fun x y z _ => x = .bool (unlikeP K T (T.length / K)) ∧ y = .bool (unlikeP K T 1) ∧ z = zErr) w) := by
  rw [unlike_left hr, unlike_right hr]
  have b0 := Below.step (belowAlloc w (.cells #[.int .i64 K, .int .i64 R, .slice va vn vc] 24)) (belowAlloc _ (.cells #[.int .i64 0, .slice none 0 0, .slice none 0 0] 55))
  have q7 : Box3 ((w.alloc (.cells #[.int .i64 K, .int .i64 R, .slice va vn vc] 24)).alloc (.cells #[.int .i64 0, .slice none 0 0, .slice none 0 0] 55)) (w.heap.size + 1) (.int .i64 0) (.slice none 0 0) (.slice none 0 0) := by simp [Box3, go_sem]
  have q6 : Box3 ((w.alloc (.cells #[.int .i64 K, .int .i64 R, .slice va vn vc] 24)).alloc (.cells #[.int .i64 0, .slice none 0 0, .slice none 0 0] 55)) w.heap.size (.int .i64 K) (.int .i64 R) (.slice va vn vc) := by simp [Box3, go_sem]
  have hck := Lib.hid hr.check
  have hrm := Lib.hid (mirT_ok hr)
  replace h := Lib.hid (h.below b0)
  replace hr := Lib.hid hr
  go_enter Tryd.func40, Tryd.ntmps40
  go_wp2_with fail
  refine (ref_check K R va vn vc T _ h.out).mono ?_
  rintro e w1 ⟨x, rfl, b1, he⟩
  rw [hck.out] at he
  obtain rfl : x = zErr := he
  go_wp2_with fail
  refine (raw_under_nil _ _ _).mono ?_
  rintro e w2 ⟨x, rfl, b2, he⟩
  obtain rfl : x = zErr := he
  go_wp2_with fail
  refine (err_bad 0 none 0 0 none 0 0 _).mono ?_
  rintro e w3 ⟨x, rfl, b3, rfl⟩
  have b13 := Below.step b1 (Below.step b2 (Below.step (belowAlloc w2 (.cells #[.int .i64 0, .slice none 0 0, .slice none 0 0] 55)) b3))
  have p6 := q6.below b13
  have p7 := q7.below b13
  have hBf := Below.step b0 b13
  have h3 := h.out.below b13
  clear b1 b2 b3 b13 h
  go_wp2
  refine wp_region_plan (fun w' => w'.cell? ⟨w.heap.size, 0, none⟩ = some (.int .i64 K) ∧ w'.cell? ⟨w.heap.size, 1, none⟩ = some (.int .i64 R) ∧ w'.cell? ⟨w.heap.size, 2, none⟩ = some (.slice va vn vc)) 8 [(0, true), (3, true), (5, true), (1, false), (2, false), (4, false), (6, true), (7, true)] (by kernel_rfl) (by kernel_rfl) ?_
  obtain ⟨W, hW⟩ : ∃ W : World, W = w3.drew := ⟨_, rfl⟩
  have hA := Lib.hid (show IntsAt W _ _ by rw [hW]; exact h3.drew)
  have hBW := Lib.hid (show Below w.heap.size w W by rw [hW]; exact hBf.drew)
  have p7W := show Box3 W _ _ _ _ by rw [hW]; exact p7.drew
  have hS : W.cell? ⟨w.heap.size, 0, none⟩ = some (.int .i64 K) ∧ W.cell? ⟨w.heap.size, 1, none⟩ = some (.int .i64 R) ∧ W.cell? ⟨w.heap.size, 2, none⟩ = some (.slice va vn vc) := by rw [hW]; exact p6.1
  rw [← hW]
  clear hW p6 p7 hBf h3
  refine headY (v := ?_) (some 12) rfl rfl (Or.inl ⟨by rfl, ?_⟩) hS ?_
  rotate_left
  · rintro W' ⟨s0, s1, s2⟩; go_simp; try with_reducible rfl
  simp only [Act.put, List.setIfInBounds_toArray, List.set_cons_zero, List.set_cons_succ]
  refine headY (v := ?_) (some 15) rfl rfl (Or.inl ⟨by rfl, ?_⟩) hS ?_
  rotate_left
  · rintro W' ⟨s0, s1, s2⟩; go_simp; try with_reducible rfl
  simp only [Act.put, List.setIfInBounds_toArray, List.set_cons_zero, List.set_cons_succ]
  refine headY (v := ?_) (some 17) rfl rfl (Or.inl ⟨by rfl, ?_⟩) hS ?_
  rotate_left
  · rintro W' ⟨s0, s1, s2⟩; go_simp; try with_reducible rfl
  simp only [Act.put, List.setIfInBounds_toArray, List.set_cons_zero, List.set_cons_succ]
  refine headC rfl (fun KK hK => ?_)
  go_simp
  refine (mirror19_ok K R va vn vc T _ hA.out hr.out).mono ?_
  rintro e W1 ⟨x, rfl, bW1, ma, mn, mc, rfl, hM⟩
  have hS1 := keep3 (n := w.heap.size) bW1 hS
  refine hK _ _ hS1 ?_
  clear hK KK
  refine headC rfl (fun KK hK => ?_)
  go_simp
  refine (right19_any K R ma mn mc _ _ hM.at hrm.out).mono ?_
  rintro e W2 ⟨x, rfl, bW2, rfl⟩
  have hS2 := keep3 (n := w.heap.size) bW2 hS1
  refine hK _ _ hS2 ?_
  clear hK KK
  refine headC rfl (fun KK hK => ?_)
  go_simp
  refine (right19_any K R va vn vc T _ (hA.out.below (Below.step bW1 bW2)) hr.out).mono ?_
  rintro e W3 ⟨x, rfl, bW3, rfl⟩
  have hS3 := keep3 (n := w.heap.size) bW3 hS2
  refine hK _ _ hS3 ?_
  clear hK KK
  refine headY (v := ?_) (some 2) rfl rfl (Or.inl ⟨by rfl, ?_⟩) hS3 ?_
  rotate_left
  · rintro W' ⟨s0, s1, s2⟩; go_simp; try with_reducible rfl
  simp only [Act.put, List.setIfInBounds_toArray, List.set_cons_zero, List.set_cons_succ]
  refine headY (v := ?_) (some 3) rfl rfl (Or.inl ⟨by rfl, ?_⟩) hS3 ?_
  rotate_left
  · rintro W' ⟨s0, s1, s2⟩; go_simp; try with_reducible rfl
  simp only [Act.put, List.setIfInBounds_toArray, List.set_cons_zero, List.set_cons_succ]
  refine head0 ?_
  simp only [List.drop_succ_cons, List.drop_zero]
  have b4 := Below.step bW1 (Below.step bW2 bW3)
  have p7e := p7W.below b4
  obtain ⟨⟨y0, y1, y2⟩, f0, f1, f2⟩ := p7e
  have hBe := Lib.hid (Below.step hBW.out b4)
  clear hS hS1 hS2 hS3
  go_wp2
  refine NoPanic.normal ?_
  go_wp2
  refine bodyPost_ret (v := .tuple #[.bool (rightR K (mirT K (2 * R + 1) T)), .bool (rightR K T), zErr]) (by simp [results, Tryd.results40, go_sem, y0, y1, y2]) rfl ⟨_, _, _, rfl, below_set3 hBe.out (Nat.le_succ _) _ _ _, rfl, rfl, rfl⟩
end Go.Proofs.YtmddapkhipmlgaaDoor

namespace Go.Proofs.YtmddapkhipmlgaaDoor
open Go.RowKit
set_option maxRecDepth 100000

theorem run_appI {w : World} (B : Nat) (ty : TypeId) (v u : Value) (xs ys : List Int) (hown : OwnI B w v xs) (hu : IntsAt w u ys) (hlen : xs.length + ys.length ≤ 17592186044416) (hB : B ≤ w.heap.size) :
    ∃ v' w', (Builtin.append_ #[22, 22] ty #[v, u]).run Tryd.prog w = .ok v' w' ∧ OwnI B w' v' (xs ++ ys) ∧ Below B w w' ∧ w.grownBy w' v.ownBlock ∧ (v'.ownBlock = v.ownBlock ∨ v'.ownBlock = some w.heap.size) := by
  obtain ⟨i, hi, hz0, hz1, hz2⟩ := info_parts iInt
  obtain ⟨ao, cap, rfl, h1, h2, h3, h4⟩ := hu
  cases ao with
  | none =>
    obtain rfl := h3 rfl
    have hy : ys = [] := List.length_eq_zero_iff.1 (by omega)
    subst hy
    have hrun := run_append_owned_none (P := Tryd.prog) w B 22 ty 3 i 1 uInts hi v xs.length _ hown
    exact ⟨_, _, hrun, by simpa using hown, Below.refl _ _, World.grownBy.refl _ _, .inl rfl⟩
  | some p =>
    obtain ⟨v', w', hr, ho', hgr, _, hat⟩ := run_append_own_at (P := Tryd.prog) w B 22 ty 3 i (.int .i64 0) 1 8 uInts hi hz0 hz1 hz2 rfl (by decide) v xs.length _ hown p ys.length cap (ys.map (.int .i64)) (by simp) (fun j u hj => by
      have hjl : j < ys.length := by have := (List.getElem?_eq_some_iff.1 hj).1; simpa using this
      have := h4 j hjl
      simp only [valAt] at this
      rw [this, ← hj]; simp [hjl]) (ints_oneCell _ _) (by unfold maxLen; omega) (by omega) hB
    exact ⟨v', w', hr, by simpa [OwnI] using ho', (Below.refl _ _).grown hgr hB (fun k hk => (hown.lt k hk).1), hgr, hat⟩

/-- append(s, t...) in a region that draws. -/
theorem step_appI {ops : Array Oper} {o : Oper} {a : Act} {w : World} {K : Act → World → Prop} {Q : Exit → Act → World → Prop} {Ep : Prop} (hgd : o.guard = none) (s x : Operand)
    (ho : o.op = .call { callee := .builtin .append, args := #[s, x], argTypes := #[22, 22] })
    (B : Nat) (v u : Value) (xs ys : List Int) (hs : a.eval s = v) (hx : a.eval x = u) (hown : OwnI B w v xs) (hu : IntsAt w u ys)
    (hlen : xs.length + ys.length ≤ 17592186044416) (hB : B ≤ w.heap.size)
    (h : ∀ v' w', OwnI B w' v' (xs ++ ys) → Below B w w' → K (a.put o.dst v') w') :
    if Region.wanted o (yielded ops a.tmps) = true then Oper.wp Tryd.prog o a w K Q else Ep := by
  have hw : Region.wanted o (yielded ops a.tmps) = true := by simp [Region.wanted, hgd]
  rw [if_pos hw]
  obtain ⟨v', w', hr, h2, h3, _, _⟩ := run_appI B o.type v u xs ys hown hu hlen hB
  unfold Oper.wp
  simp [execOp, ho, resolve, invoke, builtin, hs, hx, hr, Result.andThen]
  exact h v' w' h2 h3

theorem copy_any (v : Value) (xs : List Int) (w : World) (h : IntsAt w v xs) (hl : xs.length ≤ 17592186044416) :
    Calls Tryd.prog 29 #[v] w (Ret1 (fun x w' => OwnI w.heap.size w' x xs) w) := by
  have b0 := belowAlloc w (.cells #[] 3)
  have ho := OwnI.lit w.heap.size w (Nat.le_refl _) [] (by unfold maxLen; simp) #[] rfl 0 rfl
  replace ho := Lib.hid ho
  replace h := Lib.hid (h.below b0)
  go_enter Tryd.func29, Tryd.ntmps29
  go_wp2_with (at_builtin; refine wpl_append rfl _ _ rfl w.heap.size _ v [] xs ho.out h.out rfl rfl (by simpa using hl) (by simp) ?_)
  intro v' w' h2 h3 _ _
  go_wp2
  go_ret
  exact ⟨_, rfl, Below.trans (b0.mono (Nat.le_refl _)) h3, h2⟩
end Go.Proofs.YtmddapkhipmlgaaDoor

namespace Go.Proofs.YtmddapkhipmlgaaDoor
open Go.RowKit
set_option maxRecDepth 100000

theorem f19_big (k R : Int) (va : Option Addr) (vn vc : Nat) (u v : Value) (xs : List Int) (w : World) (hu : IntsAt w u xs) (hl : 4096 < xs.length) :
    Calls Tryd.prog 86 #[.agg #[.int .i64 k, .int .i64 R, .slice va vn vc], u, v] w (Ret1 (fun x w' => EOwn w.heap.size w' (fresh sPermut 1 4) x) w) := by
  have b0 := Below.step (belowAlloc w (.cells #[.int .i64 k, .int .i64 R, .slice va vn vc] 24)) (belowAlloc _ (.cells #[.int .i64 0, .slice none 0 0, .slice none 0 0] 55))
  have q4 : Box3 ((w.alloc (.cells #[.int .i64 k, .int .i64 R, .slice va vn vc] 24)).alloc (.cells #[.int .i64 0, .slice none 0 0, .slice none 0 0] 55)) (w.heap.size + 1) (.int .i64 0) (.slice none 0 0) (.slice none 0 0) := by simp [Box3, go_sem]
  have hlen := hu.len
  clear hu
  go_enter Tryd.func86, Tryd.ntmps86
  go_wp2_with fail
  refine (raw_new _ _ _ _).mono ?_
  rintro e w1 ⟨x, rfl, b1, he⟩
  obtain ⟨q, a1, n1, c1, a2, n2, c2, rfl⟩ := he.shape
  obtain ⟨⟨y0, y1, y2⟩, f0, f1, f2⟩ := q4.below b1
  replace he := Lib.hid he
  go_wp2
  exact bodyPost_ret (v := .agg #[.int .i64 q, .slice a1 n1 c1, .slice a2 n2 c2]) (by simp [results, Tryd.results86, go_sem, y0, y1, y2]) rfl ⟨_, rfl, below_set3 (Below.step b0 b1) (by simp) _ _ _, (he.out.set3 (by simp) _ _ _).mono (by simp; omega)⟩

theorem f19_len (K R : Nat) (va : Option Addr) (vn vc : Nat) (u v : Value) (xs ys : List Int) (w : World) (hu : IntsAt w u xs) (hv : IntsAt w v ys) (hl : xs.length ≤ 4096) (h3 : R ≤ 3) (hne : ys.length ≠ 2 * R) :
    Calls Tryd.prog 86 #[.agg #[.int .i64 K, .int .i64 R, .slice va vn vc], u, v] w (Ret1 (fun x w' => EOwn w.heap.size w' (fresh sPermut 2 3) x) w) := by
  have b0 := Below.step (belowAlloc w (.cells #[.int .i64 K, .int .i64 R, .slice va vn vc] 24)) (belowAlloc _ (.cells #[.int .i64 0, .slice none 0 0, .slice none 0 0] 55))
  have q4 : Box3 ((w.alloc (.cells #[.int .i64 K, .int .i64 R, .slice va vn vc] 24)).alloc (.cells #[.int .i64 0, .slice none 0 0, .slice none 0 0] 55)) (w.heap.size + 1) (.int .i64 0) (.slice none 0 0) (.slice none 0 0) := by simp [Box3, go_sem]
  have hlen := hu.len
  have hlen' := hv.len
  have hb : ((ys.length : Int) != 2 * (R : Int)) = true := by rw [bne_iff_ne]; omega
  clear hu hv hne
  go_enter Tryd.func86, Tryd.ntmps86
  go_wp2_with fail
  refine (raw_new _ _ _ _).mono ?_
  rintro e w1 ⟨x, rfl, b1, he⟩
  obtain ⟨q, a1, n1, c1, a2, n2, c2, rfl⟩ := he.shape
  obtain ⟨⟨y0, y1, y2⟩, f0, f1, f2⟩ := q4.below b1
  replace he := Lib.hid he
  go_wp2
  exact bodyPost_ret (v := .agg #[.int .i64 q, .slice a1 n1 c1, .slice a2 n2 c2]) (by simp [results, Tryd.results86, go_sem, y0, y1, y2]) rfl ⟨_, rfl, below_set3 (Below.step b0 b1) (by simp) _ _ _, (he.out.set3 (by simp) _ _ _).mono (by simp; omega)⟩

set_option maxHeartbeats 1000000 in
theorem f19_syms (K R : Nat) (va : Option Addr) (vn vc : Nat) (u v : Value) (xs ys : List Int) (w : World) (hu : IntsAt w u xs) (hv : IntsAt w v ys) (hl : xs.length ≤ 4096) (h3 : R ≤ 3) (hne : ys.length = 2 * R) :
    Calls Tryd.prog 86 #[.agg #[.int .i64 K, .int .i64 R, .slice va vn vc], u, v] w (Ret1 (fun x w' => EOwn w.heap.size w' (if idxOf (odd1 K) (xs ++ ys) = -1 then none else fresh sPermut (idxOf (odd1 K) (xs ++ ys)) 2) x) w) := by
  have b0 := Below.step (belowAlloc w (.cells #[.int .i64 K, .int .i64 R, .slice va vn vc] 24)) (belowAlloc _ (.cells #[.int .i64 0, .slice none 0 0, .slice none 0 0] 55))
  obtain ⟨w0, hw0⟩ : ∃ w0, w0 = (w.alloc (.cells #[.int .i64 K, .int .i64 R, .slice va vn vc] 24)).alloc (.cells #[.int .i64 0, .slice none 0 0, .slice none 0 0] 55) := ⟨_, rfl⟩
  have q4 : Box3 w0 (w.heap.size + 1) (.int .i64 0) (.slice none 0 0) (.slice none 0 0) := by simp [hw0, Box3, go_sem]
  have q3 : Box3 w0 w.heap.size (.int .i64 K) (.int .i64 R) (.slice va vn vc) := by simp [hw0, Box3, go_sem]
  have s0 : w0.heap.size = w.heap.size + 2 := by simp [hw0]
  rw [← hw0] at b0
  have hlen := hu.len
  have hlen' := hv.len
  have hb : ((ys.length : Int) != 2 * (R : Int)) = false := by rw [bne_eq_false_iff_eq]; omega
  have hyl : ys.length ≤ 6 := by omega
  replace hu := Lib.hid (hu.below b0)
  replace hv := Lib.hid (hv.below b0)
  clear hne
  obtain ⟨t, ht⟩ : ∃ t : PErr, t = if idxOf (odd1 K) (xs ++ ys) = -1 then none else fresh sPermut (idxOf (odd1 K) (xs ++ ys)) 2 := ⟨_, rfl⟩
  rw [← ht]
  replace ht := Lib.hid ht
  go_enter Tryd.func86, Tryd.ntmps86
  go_wp2
  rw [← hw0]
  clear hw0
  refine wp_region_plan (fun w' => w'.cell? ⟨w.heap.size, 0, none⟩ = some (.int .i64 K)) 6 [(0, true), (1, true), (2, true), (4, true), (3, false), (5, false)] (by kernel_rfl) (by kernel_rfl) ?_
  obtain ⟨W, hW⟩ : ∃ W : World, W = w0.drew := ⟨_, rfl⟩
  have hA := Lib.hid (show IntsAt W _ _ by rw [hW]; exact hu.out.drew)
  have hA' := Lib.hid (show IntsAt W _ _ by rw [hW]; exact hv.out.drew)
  have hBW := Lib.hid (show Below w.heap.size w W by rw [hW]; exact b0.drew)
  have q4W := show Box3 W _ _ _ _ by rw [hW]; exact q4.drew
  have sW : W.heap.size = w.heap.size + 2 := by rw [hW]; exact s0
  have hS : W.cell? ⟨w.heap.size, 0, none⟩ = some (.int .i64 K) := by rw [hW]; exact q3.1.1
  rw [← hW]
  clear hW
  refine headY (v := ?_) (some 19) rfl rfl (Or.inl ⟨by rfl, ?_⟩) hS ?_
  rotate_left
  · rintro W' s0; go_simp; try with_reducible rfl
  simp only [Act.put, List.setIfInBounds_toArray, List.set_cons_zero, List.set_cons_succ]
  refine headY (v := ?_) (some 20) rfl rfl (Or.inl ⟨by rfl, ?_⟩) hS ?_
  rotate_left
  · rintro W' s0; go_simp; try with_reducible rfl
  simp only [Act.put, List.setIfInBounds_toArray, List.set_cons_zero, List.set_cons_succ]
  refine headY (v := ?_) (some 21) rfl rfl (Or.inl ⟨by rfl, ?_⟩) hS ?_
  rotate_left
  · rintro W' s0; go_simp; try with_reducible rfl
  simp only [Act.put, List.setIfInBounds_toArray, List.set_cons_zero, List.set_cons_succ]
  refine headY (v := ?_) (some 23) rfl rfl (Or.inl ⟨by rfl, ?_⟩) hS ?_
  rotate_left
  · rintro W' s0; go_simp; try with_reducible rfl
  simp only [Act.put, List.setIfInBounds_toArray, List.set_cons_zero, List.set_cons_succ]
  refine headC rfl (fun KK hK => ?_)
  go_simp
  refine (copy_any u xs _ hA.out (by omega)).mono ?_
  rintro e W1 ⟨x, rfl, bW1, hC⟩
  have hS1 := cell_keep bW1 hS
  refine hK _ _ hS1 ?_
  clear hK KK
  refine headC rfl (fun KK hK => ?_)
  refine step_appI rfl _ _ rfl W.heap.size x v xs ys rfl rfl hC (hA'.out.below bW1) (by omega) bW1.size ?_
  intro cv W2 hcv bW2
  have bW12 := bW1.trans bW2
  have hS2 := cell_keep bW12 hS
  refine hK _ _ hS2 ?_
  clear hK KK
  refine head0 ?_
  simp only [List.drop_succ_cons, List.drop_zero]
  have q4e := q4W.below bW12
  have hBe := Lib.hid (Below.step hBW.out bW12)
  have sWe := bW12.size
  replace hcv := Lib.hid hcv
  rcases syms_or K (xs ++ ys) with hs | ⟨i, hi, hlt⟩
  · have hidx := hs.odd
    have ht' : Hid (t = none) := Lib.hid (by rw [ht.out, if_pos hidx])
    replace hidx := Lib.hid hidx
    replace hs := Lib.hid hs
    obtain ⟨⟨y0, y1, y2⟩, f0, f1, f2⟩ := q4e
    go_wp2_with fail
    refine (ref_bad K cv _ _ hcv.out.at).mono ?_
    rintro e w3 ⟨rfl, rfl⟩
    rw [hidx.out]
    go_wp2
    refine NoPanic.normal ?_
    go_wp2
    exact bodyPost_ret (v := zErr) (by simp [results, Tryd.results86, go_sem, y0, y1, y2]) rfl ⟨_, rfl, below_set3 hBe.out (by simp) _ _ _, by rw [ht'.out]; rfl⟩
  · have ht' : Hid (t = fresh sPermut i 2) := Lib.hid (by rw [ht.out, if_neg (by omega), hi])
    have hil : i ≤ 5000 := by simp at hlt; omega
    replace hi := Lib.hid hi
    clear hlt
    go_wp2_with fail
    refine (ref_bad K cv _ _ hcv.out.at).mono ?_
    rintro e w3 ⟨rfl, rfl⟩
    rw [hi.out]
    go_wp2
    refine NoPanic.normal ?_
    go_wp2_with fail
    refine (raw_new _ _ _ _).mono ?_
    rintro e w1 ⟨x, rfl, b1, he⟩
    obtain ⟨q, a1, n1, c1, a2, n2, c2, rfl⟩ := he.shape
    obtain ⟨⟨y0, y1, y2⟩, f0, f1, f2⟩ := q4e.below b1
    replace he := Lib.hid he
    go_wp2
    exact bodyPost_ret (v := .agg #[.int .i64 q, .slice a1 n1 c1, .slice a2 n2 c2]) (by simp [results, Tryd.results86, go_sem, y0, y1, y2]) rfl ⟨_, rfl, below_set3 (Below.step hBe.out b1) (by simp) _ _ _, by rw [ht'.out]; exact (he.out.set3 (by omega) _ _ _).mono (by omega)⟩

/-- edenref19.fault at every word. -/
theorem f19_any (K R : Nat) (va : Option Addr) (vn vc : Nat) (u v : Value) (xs ys : List Int) (w : World) (hu : IntsAt w u xs) (hv : IntsAt w v ys) (h3 : R ≤ 3) :
    Calls Tryd.prog 86 #[.agg #[.int .i64 K, .int .i64 R, .slice va vn vc], u, v] w (Ret1 (fun x w' => EOwn w.heap.size w' (checkM K R xs ys) x) w) := by
  unfold checkM
  by_cases h1 : 4096 < xs.length
  · rw [if_pos h1]; exact f19_big K R va vn vc u v xs w hu h1
  rw [if_neg h1]
  by_cases h2 : ys.length ≠ 2 * R
  · rw [if_pos h2]; exact f19_len K R va vn vc u v xs ys w hu hv (by omega) h3 h2
  rw [if_neg h2]
  exact f19_syms K R va vn vc u v xs ys w hu hv (by omega) h3 (by omega)
end Go.Proofs.YtmddapkhipmlgaaDoor

namespace Go.Proofs.YtmddapkhipmlgaaDoor
open Go.RowKit

theorem IntsAt.piece {w : World} {a : Option Addr} {cap : Nat} {xs : List Int} (h : IntsAt w (.slice a xs.length cap) xs) (k l : Nat) (hk : k ≤ l) (hl : l ≤ xs.length) :
    IntsAt w (sliced a k l cap 1) ((xs.take l).drop k) := by
  obtain ⟨a', cap', e, h1, h2, h3, h4⟩ := h
  injection e with e1 _ e3
  subst e1 e3
  have hlen : ((xs.take l).drop k).length = l - k := by simp; omega
  refine ⟨if cap = k then a else a.map (·.add (k * 1)), cap - k, by rw [hlen]; rfl, by rw [hlen]; omega, by omega, ?_, fun i hi => ?_⟩
  · intro hn
    by_cases hc : cap = k
    · omega
    · rw [if_neg hc] at hn
      have := h3 (Option.map_eq_none_iff.1 hn)
      omega
  · rw [hlen] at hi
    have hc : ¬ cap = k := by omega
    show w.cell? (valAt (.slice (if cap = k then a else a.map (·.add (k * 1))) _ _) i) = _
    rw [if_neg hc]
    cases a with
    | none => have := h3 rfl; omega
    | some p =>
      have h5 := h4 (k + i) (by omega)
      simp only [valAt] at h5
      show w.cell? ((p.add (k * 1)).add i) = _
      rw [Nat.mul_one, show (p.add k).add i = p.add (k + i) by unfold Addr.add; by_cases hk0 : k = 0 <;> by_cases hi0 : i = 0 <;> simp [hk0, hi0, Nat.add_assoc], h5]
      simp

/-- s[k:]. -/
theorem IntsAt.post {w : World} {v : Value} {xs : List Int} (h : IntsAt w v xs) (k : Nat) (hk : k ≤ xs.length) :
    ∃ u, (∀ w', (Instr.slice 22 v (some (.int .i64 k)) none none).run Tryd.prog w' = .ok u w') ∧ IntsAt w u (xs.drop k) := by
  have h' := h
  obtain ⟨a, cap, rfl, _⟩ := h'
  refine ⟨sliced a k xs.length cap 1, fun w' => ?_, ?_⟩
  · rw [run_slice_l w' 22 a xs.length cap uIntsE .i64 k (by omega) (by omega), eInts, sInt]
    rfl
  · have := h.piece k xs.length hk (Nat.le_refl _)
    rwa [List.take_length] at this

/-- s[k:l]. -/
theorem IntsAt.mid {w : World} {v : Value} {xs : List Int} (h : IntsAt w v xs) (k l : Nat) (hk : k ≤ l) (hl : l ≤ xs.length) :
    ∃ u, (∀ w', (Instr.slice 22 v (some (.int .i64 k)) (some (.int .i64 l)) none).run Tryd.prog w' = .ok u w') ∧ IntsAt w u ((xs.take l).drop k) := by
  have h' := h
  obtain ⟨a, cap, rfl, h1, _⟩ := h'
  refine ⟨sliced a k l cap 1, fun w' => ?_, h.piece k l hk hl⟩
  rw [run_slice_lh w' 22 a xs.length cap uIntsE .i64 .i64 k l (by omega) (by omega) (by omega), eInts, sInt]
  rfl

/-- s[:l]. -/
theorem IntsAt.front {w : World} {v : Value} {xs : List Int} (h : IntsAt w v xs) (l : Nat) (hl : l ≤ xs.length) :
    ∃ u, (∀ w', (Instr.slice 22 v none (some (.int .i64 l)) none).run Tryd.prog w' = .ok u w') ∧ IntsAt w u (xs.take l) := by
  have h' := h
  obtain ⟨a, cap, rfl, h1, _⟩ := h'
  refine ⟨sliced a 0 l cap 1, fun w' => ?_, ?_⟩
  · rw [run_slice_h w' 22 a xs.length cap uIntsE .i64 l (by omega) (by omega), eInts, sInt]
    rfl
  · have := h.piece 0 l (Nat.zero_le _) hl
    simpa using this
end Go.Proofs.YtmddapkhipmlgaaDoor

namespace Go.Proofs.YtmddapkhipmlgaaDoor
open Go.RowKit
set_option maxRecDepth 100000

set_option maxHeartbeats 2000000 in
theorem on19_any (K R : Nat) (va : Option Addr) (vn vc : Nat) (T : List Int) (u v : Value) (ys zs : List Int) (w : World) (h : IntsAt w (.slice va vn vc) T) (hr : RuleOk K R T) (hp : unlikeP K T 1 = true)
    (hu : IntsAt w u ys) (hv : IntsAt w v zs) (hys : Syms K ys) (hzs : Syms K zs) (hyl : ys.length ≤ 4096) (hzl : zs.length = 2 * R) :
    Calls Tryd.prog 87 #[.agg #[.int .i64 K, .int .i64 R, .slice va vn vc], u, v] w (Ret1 (fun x w' => OwnI w.heap.size w' x (zs ++ rightP K T (numW K zs) ys)) w) := by
  have b0 := belowAlloc w (.cells #[.int .i64 K, .int .i64 R, .slice va vn vc] 24)
  have q1 : Box3 (w.alloc (.cells #[.int .i64 K, .int .i64 R, .slice va vn vc] 24)) w.heap.size (.int .i64 K) (.int .i64 R) (.slice va vn vc) := by simp [Box3, go_sem]
  have hlen := hu.len
  have hk1 := hr.k1
  have hk4 := hr.k4
  have hR3 := hr.r3
  have hTl := hr.len_le
  have hTL := hr.half
  replace h := Lib.hid (h.below b0)
  replace hu := Lib.hid (hu.below b0)
  replace hv := Lib.hid (hv.below b0)
  replace hys := Lib.hid hys
  replace hzs := Lib.hid hzs
  replace hr := Lib.hid hr
  replace hp := Lib.hid hp
  replace hTL := Lib.hid hTL
  have hzl6 : zs.length ≤ 6 := by omega
  replace hzl := Lib.hid hzl
  go_enter Tryd.func87, Tryd.ntmps87
  go_wp2_with fail
  obtain ⟨W, hW⟩ : ∃ W, W = w.alloc (.cells #[.int .i64 K, .int .i64 R, .slice va vn vc] 24) := ⟨_, rfl⟩
  have sW : w.heap.size ≤ W.heap.size := by rw [hW]; simp
  rw [← hW] at b0 q1 h hu hv ⊢
  clear hW
  refine (copy_any v zs _ hv.out (by omega)).mono ?_
  rintro e w1 ⟨x0, rfl, b1, hx0⟩
  replace hx0 := Lib.hid hx0
  go_wp2
  go_loopw [7, 8] (fun x i wr => ∃ m : Nat, m ≤ ys.length ∧ i = .int .i64 m ∧ ∃ xv, xv = x ∧ OwnI W.heap.size wr xv (zs ++ rightP K T (numW K zs) (ys.take m)) ∧ Below W.heap.size W wr) (fun _ i _ => ys.length - (intOf i).toNat)
  case atStart => exact ⟨0, by omega, rfl, x0, rfl, by simpa [rightP] using hx0.out, b1⟩
  case round =>
    obtain ⟨m, hm, rfl, xv, rfl, hO, hB⟩ := hrel
    obtain ⟨wo, rfl⟩ : ∃ wo : World, wo = wr := ⟨_, rfl⟩
    by_cases hml : m < ys.length
    · have hxl : (zs ++ rightP K T (numW K zs) (ys.take m)).length = zs.length + m := by rw [List.length_append, rightP_length, List.length_take]; omega
      obtain ⟨s, hsr, hsa⟩ := hO.at.post m (by omega)
      have hfr := on_front (R := R) hk1 hTL.out.1 zs (ys.take m) hzs.out hzl.out
      rw [List.length_take, Nat.min_eq_left (by omega)] at hfr
      have hsl : ((zs ++ rightP K T (numW K zs) (ys.take m)).drop m).length = 2 * R := by rw [List.length_drop, hxl, hzl.out]; omega
      have hss : Syms K ((zs ++ rightP K T (numW K zs) (ys.take m)).drop m) := fun y hy => by
        rcases List.mem_append.1 (List.mem_of_mem_drop hy) with hy | hy
        · exact hzs.out y hy
        · exact rightP_syms hk1 _ _ _ y hy
      have hnd := numW_lt _ hss
      rw [hsl, hfr] at hnd
      have hval := fun w' hh => ref_value K s _ w' hk1 hk4 hh hss (by omega)
      rw [hfr] at hval
      have hsn := rightP_snoc K T (numW K zs) (ys.take m) ys[m]
      rw [← take_snoc ys m hml] at hsn
      have hym := hys.out ys[m] (by simp)
      have hfit := fit_ok (K := K) T (rightN K T (numW K zs) (ys.take m) * K) 1 ys[m] (by
        have hfull := unlikeP_full hp.out (rightN K T (numW K zs) (ys.take m) * K) (by rw [hTL.out.2]; exact Nat.mul_lt_mul_of_pos_right hnd (by omega)) (by rw [Nat.div_one, Nat.mul_mod_left])
        obtain ⟨t, ht, e⟩ := fullP_all hk1 hr.out.syms hfull ys[m].toNat (by omega)
        exact ⟨t, ht, by omega⟩)
      have hfl := fit_lt hk1 T (rightN K T (numW K zs) (ys.take m) * K) 1 ys[m]
      replace hval := Lib.hid hval
      replace hsa := Lib.hid hsa
      replace hfr := Lib.hid hfr
      replace hsl := Lib.hid hsl
      replace hss := Lib.hid hss
      replace hxl := Lib.hid hxl
      have hT := h.out.below hB
      have q1o := q1.below hB
      have iy := (hu.out.below hB).idx m hml
      have cy := (hu.out.below hB).cell m hml
      have hNK : rightN K T (numW K zs) (ys.take m) * K + K ≤ T.length := by
        rw [hTL.out.2]
        have := Nat.mul_le_mul_right K (show rightN K T (numW K zs) (ys.take m) + 1 ≤ pw K (2 * R) from hnd)
        rwa [Nat.succ_mul] at this
      have hfat : ∀ t, t < K → T.getD (rightN K T (numW K zs) (ys.take m) * K + t) 0 = ys[m] → (∀ j, j < t → T.getD (rightN K T (numW K zs) (ys.take m) * K + j) 0 ≠ ys[m]) → fit K T (rightN K T (numW K zs) (ys.take m) * K) 1 ys[m] = t := fun t h1 h2 h3 =>
        fit_at T _ 1 ys[m] t h1 (by rw [Nat.mul_one]; exact h2) (fun j hj => by rw [Nat.mul_one]; exact h3 j hj)
      rw [Nat.mul_one] at hfit
      generalize fit K T (rightN K T (numW K zs) (ys.take m) * K) 1 ys[m] = F at hsn hfit hfl hfat
      clear hfr
      obtain ⟨N, hN⟩ : ∃ N, N = rightN K T (numW K zs) (ys.take m) := ⟨_, rfl⟩
      rw [← hN] at hnd hval hNK hfat hfit
      clear hN
      obtain ⟨y, hy⟩ : ∃ y, y = ys[m] := ⟨_, rfl⟩
      rw [← hy] at hfat hfit cy hym
      clear hy
      replace hfat := Lib.hid hfat
      replace hfit := Lib.hid hfit
      replace hsn := Lib.hid hsn
      have hO' := Lib.hid hO
      clear hO
      obtain ⟨⟨z0, z1, z2⟩, -, -, -⟩ := q1o
      have hNK2 : N * K ≤ 16384 := by omega
      have hm1 : 0 ≤ (N : Int) * (K : Int) := Int.mul_nonneg (by omega) (by omega)
      have hm2 : (N : Int) * (K : Int) ≤ 65536 := by
        have h2 := Int.ofNat_le.2 hNK2
        rw [Int.natCast_mul] at h2
        exact Int.le_trans h2 (by decide)
      have hwm : IntKind.i64.wrap ((N : Int) * (K : Int)) = (N : Int) * (K : Int) := wrapK (by omega) (by omega)
      go_wp2
      go_quiet ((go_at_call 116; exact Calls.quiet_of_same ((hval.out _ (by exact hsa.out.drew)).mono fun _ _ ⟨a, b⟩ => ⟨a, b.symm⟩)))
      go_wp2
      go_loopw [7, 10] (fun x s wr => ∃ t : Nat, t ≤ K ∧ s = .int .i64 t ∧ xv = x ∧ (∀ j, j < t → T.getD (N * K + j) 0 ≠ y) ∧ ∃ n, wr = wo.drewN n) (fun _ s _ => K - (intOf s).toNat)
      case atStart => exact ⟨0, by omega, rfl, rfl, fun j hj => by omega, _, rfl⟩
      case round =>
        obtain ⟨t, ht, rfl, rfl, hne, n, rfl⟩ := hrel
        by_cases htl : t < K
        · have i1 : ∀ w', (Instr.indexAt 22 (.slice va vn vc) (.int .i64 ((N : Int) * (K : Int) + (t : Int)))).run Tryd.prog w' = .ok (.pointer (some (valAt (.slice va vn vc) (N * K + t)))) w' := by
            intro w'
            have := hT.idx (N * K + t) (by omega) w'
            rwa [Int.natCast_add, Int.natCast_mul] at this
          have c1 := hT.cellD (N * K + t) (by omega)
          have hws : IntKind.i64.wrap ((N : Int) * (K : Int) + (t : Int)) = (N : Int) * (K : Int) + (t : Int) := wrapK (by omega) (by omega)
          have hp0 : 0 ≤ (N : Int) * (K : Int) + (t : Int) := by omega
          by_cases he : T.getD (N * K + t) 0 = y
          · have hFt := hfat.out t htl he hne
            rw [he] at c1
            have hsn' : Hid (zs ++ rightP K T (numW K zs) (ys.take (m + 1)) = zs ++ (rightP K T (numW K zs) (ys.take m) ++ [(t : Int)])) := Lib.hid (by rw [hsn.out, hFt])
            replace hne := Lib.hid hne
            clear he hFt
            go_wp2
            go_quiet (fail)
            obtain ⟨W1, hW1⟩ : ∃ W1 : World, W1 = (wo.drewN n).drewN nq := ⟨_, rfl⟩
            have hO1 := show OwnI W.heap.size W1 xv _ by rw [hW1]; exact (hO'.out.drewN _).drewN _
            have hB1 := show Below W.heap.size W W1 by rw [hW1]; exact below_drewN (below_drewN hB _) _
            have hs1 : W.heap.size ≤ W1.heap.size := hB1.size
            rw [← hW1]
            replace hW1 := Lib.hid hW1
            have hll : (zs ++ rightP K T (numW K zs) (ys.take m)).length < 17592186044415 := by rw [hxl.out]; omega
            replace hO1 := Lib.hid hO1
            replace hB1 := Lib.hid hB1
            replace hB := Lib.hid hB
            go_wp2_with (at_builtin; refine wpl_append1b rfl _ _ rfl W.heap.size xv _ t hO1.out rfl W1.heap.size rfl rfl hll hs1 ?_)
            intro v' w' h1 h2 _ _
            rw [← hsn'.out] at h1
            have h2' := Lib.hid (hB1.out.trans h2)
            replace h1 := Lib.hid h1
            clear h2
            go_wp2
            go_roundw
            case rel => exact ⟨m + 1, by omega, by go_num, v', rfl, h1.out, h2'.out⟩
            case measure => simp [intOf]; omega
          · have hne' : (T.getD (N * K + t) 0 == y) = false := by rw [beq_eq_false_iff_ne]; exact he
            have hnx : Hid (∀ j, j < t + 1 → T.getD (N * K + j) 0 ≠ y) := Lib.hid (fun j hj => by
              by_cases e : j = t
              · subst e; exact he
              · exact hne j (by omega))
            replace hne := Lib.hid hne
            clear he
            obtain ⟨y', hy'⟩ : ∃ y', y' = T.getD (N * K + t) 0 := ⟨_, rfl⟩
            rw [← hy'] at c1 hne'
            clear hy'
            go_wp2
            go_quiet (fail)
            go_wp2
            go_roundw
            case rel => exact ⟨t + 1, by omega, by go_num, rfl, hnx.out, _, rfl⟩
            case measure => simp [intOf]; omega
        · obtain rfl : t = K := by omega
          exact absurd hfit.out (hne F hfl)
    · obtain rfl : ys.length = m := by omega
      rw [List.take_length] at hO
      replace hO := Lib.hid hO
      go_wp2
      go_ret
      exact ⟨_, rfl, b0.trans (hB.mono (by omega)), hO.out.mono (by omega)⟩
end Go.Proofs.YtmddapkhipmlgaaDoor

namespace Go.Proofs.YtmddapkhipmlgaaDoor
open Go.RowKit
set_option maxRecDepth 100000

theorem LentI.setBelow {B : Nat} {w : World} {m : Value} {xs : List Int} (h : LentI B w m xs) {a : Addr} (ha : a.block < B) (u : Value) : LentI B (w.setCell a u) m xs := by
  obtain ⟨v, e, ho⟩ := h
  exact ⟨v, e, ho.setBelowBase ha u⟩
theorem LentI.mono {B B' : Nat} {w : World} {m : Value} {xs : List Int} (h : LentI B w m xs) (hB : B' ≤ B) : LentI B' w m xs := by
  obtain ⟨v, e, ho⟩ := h
  exact ⟨v, e, ho.mono hB⟩

theorem lentRule_any (k R : Int) (va : Option Addr) (vn vc : Nat) (T : List Int) (w : World) (h : IntsAt w (.slice va vn vc) T) (hl : T.length ≤ 17592186044414) :
    Calls Tryd.prog 30 #[.agg #[.int .i64 k, .int .i64 R, .slice va vn vc]] w (Ret1 (fun x w' => ∃ a n c, x = .agg #[.int .i64 k, .int .i64 R, .slice a n c] ∧ LentI w.heap.size w' (.slice a n c) T) w) := by
  have b0 := Below.step (belowAlloc w (.cells #[.int .i64 k, .int .i64 R, .slice va vn vc] 24)) (belowAlloc _ (.cells #[.int .i64 0, .int .i64 0, .slice none 0 0] 24))
  have q6 : Box3 ((w.alloc (.cells #[.int .i64 k, .int .i64 R, .slice va vn vc] 24)).alloc (.cells #[.int .i64 0, .int .i64 0, .slice none 0 0] 24)) w.heap.size (.int .i64 k) (.int .i64 R) (.slice va vn vc) := by simp [Box3, go_sem]
  have q7 : Box3 ((w.alloc (.cells #[.int .i64 k, .int .i64 R, .slice va vn vc] 24)).alloc (.cells #[.int .i64 0, .int .i64 0, .slice none 0 0] 24)) (w.heap.size + 1) (.int .i64 0) (.int .i64 0) (.slice none 0 0) := by simp [Box3, go_sem]
  replace h := Lib.hid (h.below b0)
  go_enter Tryd.func30, Tryd.ntmps30
  go_wp2
  have hWs : w.heap.size + 2 ≤ ((w.alloc (.cells #[.int .i64 k, .int .i64 R, .slice va vn vc] 24)).alloc (.cells #[.int .i64 0, .int .i64 0, .slice none 0 0] 24)).heap.size := by simp
  obtain ⟨W, hW⟩ : ∃ W : World, W = ((w.alloc (.cells #[.int .i64 k, .int .i64 R, .slice va vn vc] 24)).alloc (.cells #[.int .i64 0, .int .i64 0, .slice none 0 0] 24)) := ⟨_, rfl⟩
  rw [← hW] at b0 q6 q7 h hWs ⊢
  clear hW
  have q6' := q6
  obtain ⟨⟨z0, z1, z2⟩, -, -, -⟩ := q6'
  go_region_held3 (fun w' => w'.cell? ⟨w.heap.size, 0, none⟩ = some (.int .i64 k) ∧ w'.cell? ⟨w.heap.size, 1, none⟩ = some (.int .i64 R) ∧ w'.cell? ⟨w.heap.size, 2, none⟩ = some (.slice va vn vc)) (first | exact ⟨z0, z1, z2⟩ | exact ⟨s0, s1, s2⟩ | (simp [s0, s1, s2, World.cell?_setCell_far]; done))
    (first | (go_at_call 13; refine (lent_any (.slice va vn vc) T _ ?_ hl).mono ?_
              · exact h.out.drew
              rintro e w1 ⟨x, rfl, b1, hx⟩
              have b1' : Below W.heap.size W w1 := (Below.refl W.heap.size W).drew.trans b1
              obtain ⟨a, n, c, rfl⟩ := hx.at.shape
              have s0 := cell_keep b1' z0
              have s1 := cell_keep b1' z1
              have s2 := cell_keep b1' z2
              have q7n := q7.below b1'
              obtain ⟨⟨y0, y1, y2⟩, g0, g1, g2⟩ := q7n))
  have hE := Lib.hid (((hx.setBelow (a := ⟨w.heap.size + 1, 0, none⟩) (show w.heap.size + 1 < W.heap.size by omega) (.int .i64 k)).setBelow (a := ⟨w.heap.size + 1, 1, none⟩) (show w.heap.size + 1 < W.heap.size by omega) (.int .i64 R)).setBelow (a := ⟨w.heap.size + 1, 2, none⟩) (show w.heap.size + 1 < W.heap.size by omega) (.slice a n c))
  have hBf := Lib.hid (below_set3 (Below.stepL b0 b1') (Nat.le_succ w.heap.size) (.int .i64 k) (.int .i64 R) (.slice a n c))
  clear hx b1 b1'
  go_wp2
  exact bodyPost_ret (v := .agg #[.int .i64 k, .int .i64 R, .slice a n c]) (by simp [results, Tryd.results30, go_sem, y0, y1, y2]) rfl ⟨_, rfl, hBf.out, a, n, c, rfl, hE.out.mono (show w.heap.size ≤ W.heap.size by omega)⟩

/-- edenraw.KeptRule at a lent rule. -/
theorem keptRule_any (B : Nat) (k R : Int) (a : Option Addr) (n c : Nat) (va : Option Addr) (vn vc : Nat) (T : List Int) (w : World) (h : LentI B w (.slice a n c) T) (h' : IntsAt w (.slice va vn vc) T) (hl : T.length ≤ 17592186044414) :
    Calls Tryd.prog 39 #[.agg #[.int .i64 k, .int .i64 R, .slice a n c], .agg #[.int .i64 k, .int .i64 R, .slice va vn vc]] w (Ret1 (fun x _ => x = .bool true) w) := by
  have b0 := Below.step (belowAlloc w (.cells #[.int .i64 k, .int .i64 R, .slice a n c] 24)) (belowAlloc _ (.cells #[.int .i64 k, .int .i64 R, .slice va vn vc] 24))
  replace h := Lib.hid (h.below b0)
  replace h' := Lib.hid (h'.below b0)
  have e1 : (k == k) = true := by simp
  have e2 : (R == R) = true := by simp
  go_enter Tryd.func39, Tryd.ntmps39
  go_wp2_with fail
  refine (kept_any B _ _ T _ h.out h'.out hl).mono ?_
  rintro e w1 h1
  obtain ⟨rfl, b1⟩ := h1.below
  have hB := Lib.hid (Below.step b0 b1)
  clear h1
  go_wp2
  go_ret
  exact ⟨_, rfl, hB.out, rfl⟩
end Go.Proofs.YtmddapkhipmlgaaDoor

namespace Go.Proofs.YtmddapkhipmlgaaDoor
open Go.RowKit
set_option maxRecDepth 100000

/-- Three cells of a box are stored. -/
abbrev st3 (w : World) (b : Nat) (x y z : Value) : World := ((w.setCell ⟨b, 0, none⟩ x).setCell ⟨b, 1, none⟩ y).setCell ⟨b, 2, none⟩ z

theorem st3_size (w : World) (b : Nat) (x y z : Value) : (st3 w b x y z).heap.size = w.heap.size := by simp [st3, World.setCell]

theorem cell_far {w : World} {b i : Nat} {a : Addr} (h : a.block ≠ b) (u : Value) : (w.setCell ⟨b, i, none⟩ u).cell? a = w.cell? a :=
  World.cell?_setCell_other _ _ _ _ (by intro e; rw [← e] at h; exact h rfl)

theorem ErrAt.set {r : Nat → Addr} {w : World} {n : Int} {b i : Nat} (hs : ∀ s, w.cell? ⟨b, 0, none⟩ ≠ some (.string s)) (u : Value) :
    ∀ {l : List (ByteArray × Int)} {v : Value}, ErrAt r w n l v → ErrAt r (w.setCell ⟨b, i, none⟩ u) n l v
  | [], _, h => h
  | (op, at_) :: rest, v, ⟨p, u', e, c0, c1, c2, h⟩ => by
    have hp : p ≠ b := by rintro rfl; exact hs _ c0
    exact ⟨p, u', e, by rw [cell_far hp]; exact c0, by rw [cell_far hp]; exact c1, by rw [cell_far hp]; exact c2, ErrAt.set hs u h⟩
theorem ErrIs.set {r : Nat → Addr} {w : World} {t : PErr} {v : Value} {b i : Nat} (h : ErrIs r w t v) (hs : ∀ s, w.cell? ⟨b, 0, none⟩ ≠ some (.string s)) (u : Value) : ErrIs r (w.setCell ⟨b, i, none⟩ u) t v := by
  match t, h with
  | none, h => exact h
  | some (n, l), h => exact ErrAt.set hs u h

theorem Box3.st3 {w : World} {b : Nat} {x0 x1 x2 : Value} (h : Box3 w b x0 x1 x2) (x y z : Value) : Box3 (st3 w b x y z) b x y z := by
  obtain ⟨⟨h0, h1, h2⟩, f0, f1, f2⟩ := h
  have e0 : (w.cell? ⟨b, 0, none⟩).isSome = true := by rw [h0]; rfl
  have e1 : (w.cell? ⟨b, 1, none⟩).isSome = true := by rw [h1]; rfl
  have e2 : (w.cell? ⟨b, 2, none⟩).isSome = true := by rw [h2]; rfl
  have n10 : (⟨b, 1, none⟩ : Addr) ≠ ⟨b, 0, none⟩ := by simp
  have n20 : (⟨b, 2, none⟩ : Addr) ≠ ⟨b, 0, none⟩ := by simp
  have n21 : (⟨b, 2, none⟩ : Addr) ≠ ⟨b, 1, none⟩ := by simp
  refine ⟨⟨?_, ?_, ?_⟩, ?_, ?_, ?_⟩
  · rw [World.cell?_setCell_other _ _ _ _ n20, World.cell?_setCell_other _ _ _ _ n10, World.cell?_setCell_same' _ _ _ e0]
  · rw [World.cell?_setCell_other _ _ _ _ n21]
    exact World.cell?_setCell_same' _ _ _ (by rw [World.cell?_setCell_other _ _ _ _ n10.symm]; exact e1)
  · exact World.cell?_setCell_same' _ _ _ (by rw [World.cell?_setCell_other _ _ _ _ n21.symm, World.cell?_setCell_other _ _ _ _ n20.symm]; exact e2)
  all_goals simpa [Go.Proofs.YtmddapkhipmlgaaDoor.st3, go_sem]

theorem Box3.st3_far {w : World} {b b' : Nat} {x0 x1 x2 : Value} (h : Box3 w b x0 x1 x2) (hne : b' ≠ b) (x y z : Value) : Box3 (Go.Proofs.YtmddapkhipmlgaaDoor.st3 w b' x y z) b x0 x1 x2 :=
  ((h.far hne 0 x).far hne 1 y).far hne 2 z

theorem ErrIs.st3 {r : Nat → Addr} {w : World} {t : PErr} {v : Value} {b : Nat} {x0 x1 x2 : Value} (h : ErrIs r w t v) (hb : Box3 w b x0 x1 x2) (h0 : ∀ s, x0 ≠ .string s) (x y z : Value) (hx : ∀ s, x ≠ .string s) : ErrIs r (Go.Proofs.YtmddapkhipmlgaaDoor.st3 w b x y z) t v := by
  obtain ⟨⟨k0, k1, k2⟩, -, -, -⟩ := hb
  have a1 : ∀ s, (w.setCell ⟨b, 0, none⟩ x).cell? ⟨b, 0, none⟩ ≠ some (.string s) := fun s e => by
    rw [World.cell?_setCell_same' _ _ _ (by rw [k0]; rfl)] at e
    exact hx s (Option.some.inj e)
  have a2 : ∀ s, ((w.setCell ⟨b, 0, none⟩ x).setCell ⟨b, 1, none⟩ y).cell? ⟨b, 0, none⟩ ≠ some (.string s) := fun s e => by
    rw [World.cell?_setCell_other _ _ _ _ (by simp)] at e
    exact a1 s e
  exact ((h.set (i := 0) (fun s e => h0 s (Option.some.inj (k0.symm.trans e))) x).set (i := 1) a1 y).set (i := 2) a2 z

theorem below_st3 {B b : Nat} {w0 w : World} (h : Below B w0 w) (hb : B ≤ b) (x y z : Value) : Below B w0 (Go.Proofs.YtmddapkhipmlgaaDoor.st3 w b x y z) := below_set3 h hb x y z
theorem Glob.st3 {r : Nat → Addr} {w0 w : World} (h : Glob r w0) (hb : Below w0.heap.size w0 w) {b : Nat} (hB : w0.heap.size ≤ b) (x y z : Value) : Glob r (Go.Proofs.YtmddapkhipmlgaaDoor.st3 w b x y z) := h.below (below_st3 hb hB x y z)
end Go.Proofs.YtmddapkhipmlgaaDoor
