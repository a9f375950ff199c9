/-
  Walk: permut.Right.
-/
import Derived.Test.YtmddapkhipmlgaaDoorFits
namespace Go.Proofs.YtmddapkhipmlgaaDoor
open Go.RowKit
set_option maxRecDepth 100000

theorem right_bad1 (r : Nat → Addr) (k R : Int) (va : Option Addr) (vn vc : Nat) (xs : List Int) (u v : Value) (t : Int × List (ByteArray × Int)) (w : World) (hg : Glob r w) (h : IntsAt w (.slice va vn vc) xs) (hc : checkP k R xs = some t) :
    Calls Tryd.prog 21 #[.agg #[.int .i64 k, .int .i64 R, .slice va vn vc], u, v] w (Ret2 (fun x y w' => x = .slice none 0 0 ∧ ErrIs r w' (under sPermut 0 (some t)) y) w) := by
  have hb0 := belowAlloc w (.cells #[.int .i64 k, .int .i64 R, .slice va vn vc] 24)
  replace hg := Lib.hid (hg.below hb0)
  replace h := Lib.hid (h.below hb0)
  replace hc := Lib.hid hc
  go_enter Tryd.func21, Tryd.ntmps21
  go_wp2_with fail
  refine (sides_bad r k R va vn vc xs t _ hg.out h.out hc.out).mono ?_
  rintro e w1 ⟨x, y, z, rfl, hb, rfl, rfl, he⟩
  have he' := Lib.hid he
  obtain ⟨T, p, rfl⟩ := he.some_shape
  clear he
  go_wp2
  go_ret2
  exact ⟨_, _, rfl, Below.step hb0 hb, rfl, he'.out⟩

theorem right_bad2 (r : Nat → Addr) (K R : Nat) (va : Option Addr) (vn vc : Nat) (xs : List Int) (u v : Value) (w : World) (hg : Glob r w) (h : IntsAt w (.slice va vn vc) xs) (hr : RuleOk K R xs) (hu : unlikeP K xs 1 = false) :
    Calls Tryd.prog 21 #[.agg #[.int .i64 K, .int .i64 R, .slice va vn vc], u, v] w (Ret2 (fun x y w' => x = .slice none 0 0 ∧ ErrIs r w' (fresh sPermut 0 3) y) w) := by
  have hb0 := belowAlloc w (.cells #[.int .i64 K, .int .i64 R, .slice va vn vc] 24)
  replace hg := Lib.hid (hg.below hb0)
  replace h := Lib.hid (h.below hb0)
  replace hr := Lib.hid hr
  replace hu := Lib.hid hu
  go_enter Tryd.func21, Tryd.ntmps21
  go_wp2_with fail
  refine (sides_ok K R va vn vc xs _ h.out hr.out).mono ?_
  rintro e w1 ⟨x, y, z, rfl, hb, rfl, rfl, rfl⟩
  rw [hu.out]
  generalize unlikeP K xs (xs.length / K) = q
  go_wp2_with fail
  refine (perm_wrong r _ _ _ (hg.out.below hb) (by decide) (by decide)).mono ?_
  rintro e w2 ⟨x, rfl, hb', he⟩
  go_wp2
  go_ret2
  exact ⟨_, _, rfl, Below.step hb0 (Below.step hb hb'), rfl, he⟩

theorem right_bad3 (r : Nat → Addr) (K R : Nat) (va : Option Addr) (vn vc : Nat) (xs : List Int) (u v : Value) (ys zs : List Int) (t : Int × List (ByteArray × Int)) (w : World) (hg : Glob r w) (h : IntsAt w (.slice va vn vc) xs) (hr : RuleOk K R xs) (hp : unlikeP K xs 1 = true)
    (hu : IntsAt w u ys) (hv : IntsAt w v zs) (hc : checkM K R ys zs = some t) :
    Calls Tryd.prog 21 #[.agg #[.int .i64 K, .int .i64 R, .slice va vn vc], u, v] w (Ret2 (fun x y w' => x = .slice none 0 0 ∧ ErrIs r w' (some t) y) w) := by
  have hb0 := belowAlloc w (.cells #[.int .i64 K, .int .i64 R, .slice va vn vc] 24)
  have hR := hr.r3
  replace hg := Lib.hid (hg.below hb0)
  replace h := Lib.hid (h.below hb0)
  replace hr := Lib.hid hr
  replace hp := Lib.hid hp
  replace hc := Lib.hid hc
  replace hu := Lib.hid (hu.below hb0)
  replace hv := Lib.hid (hv.below hb0)
  go_enter Tryd.func21, Tryd.ntmps21
  go_wp2_with fail
  refine (sides_ok K R va vn vc xs _ h.out hr.out).mono ?_
  rintro e w1 ⟨x, y, z, rfl, hb, rfl, rfl, rfl⟩
  rw [hp.out]
  obtain ⟨z0, z1, z2, f0, f1, f2⟩ := cells3 hb
  generalize unlikeP K xs (xs.length / K) = q
  go_wp2_with fail
  refine (perm_check r K R va vn vc u v ys zs _ (hg.out.below hb) (hu.out.below hb) (hv.out.below hb) hR).mono ?_
  rintro e w2 ⟨x, rfl, hb', he⟩
  rw [hc.out] at he
  have he' := Lib.hid he
  obtain ⟨T, p, rfl⟩ := he.some_shape
  clear he
  go_wp2
  go_ret2
  exact ⟨_, _, rfl, Below.step hb0 (Below.step hb hb'), rfl, he'.out⟩

theorem wpl_append1b {w : World} {ops : Array Oper} {rest : List Oper} {o : Oper} {a : Act} {Q : Exit → Act → World → Prop} (hgd : o.guard = none) (s x : Operand)
    (ho : o.op = .call { callee := .builtin .append, args := #[s, x], argTypes := #[22, 22] })
    (B : Nat) (v : Value) (xs : List Int) (y : Int) (hown : OwnI B w v xs) (hs : a.eval s = v) (b : Nat) (hx : a.eval x = .slice (some ⟨b, 0, none⟩) 1 1) (hb : b = w.heap.size)
    (hlen : xs.length < 17592186044415) (hB : B ≤ w.heap.size)
    (h : ∀ v' w', OwnI B w' v' (xs ++ [y]) → Below B w w' → w.grownBy w' v.ownBlock → (v'.ownBlock = v.ownBlock ∨ ∃ k, v'.ownBlock = some k ∧ w.heap.size ≤ k) → wpList Tryd.prog ops Q rest (a.put o.dst v') w') :
    wpList Tryd.prog ops Q (o :: rest) a (w.alloc (.cells #[.int .i64 y] 3)) := by
  subst hb
  exact wpl_append1 hgd s x ho B v xs y hown hs hx hlen hB h

set_option maxHeartbeats 2000000 in
theorem right_ok (r : Nat → Addr) (K R : Nat) (va : Option Addr) (vn vc : Nat) (xs : List Int) (u v : Value) (ys zs : List Int) (w : World) (hg : Glob r w) (h : IntsAt w (.slice va vn vc) xs) (hr : RuleOk K R xs) (hp : unlikeP K xs 1 = true)
    (hu : IntsAt w u ys) (hv : IntsAt w v zs) (hc : checkM K R ys zs = none) :
    Calls Tryd.prog 21 #[.agg #[.int .i64 K, .int .i64 R, .slice va vn vc], u, v] w (Ret2 (fun x y w' => OwnI w.heap.size w' x (zs ++ rightP K xs (numW K zs) ys) ∧ y = .nilIface) w) := by
  have hb0 := belowAlloc w (.cells #[.int .i64 K, .int .i64 R, .slice va vn vc] 24)
  have hR := hr.r3
  have hk1 := hr.k1
  have hk4 := hr.k4
  have hlen := hr.len_le
  have hhf := hr.half
  obtain ⟨hy4, hzl, hys, hzs⟩ := checkM_none hc
  have l1 := hu.len
  have l2 := hv.len
  replace hg := Lib.hid (hg.below hb0)
  replace h := Lib.hid (h.below hb0)
  replace hr := Lib.hid hr
  replace hhf := Lib.hid hhf
  replace hp := Lib.hid hp
  replace hc := Lib.hid hc
  have hz6 : zs.length ≤ 6 := by omega
  replace hzl := Lib.hid hzl
  replace hys := Lib.hid hys
  replace hzs := Lib.hid hzs
  obtain ⟨a1, n1, c1, rfl⟩ := hu.shape
  obtain ⟨a2, n2, c2, rfl⟩ := hv.shape
  replace hu := Lib.hid (hu.below hb0)
  replace hv := Lib.hid (hv.below hb0)
  go_enter Tryd.func21, Tryd.ntmps21
  go_wp2_with fail
  refine (sides_ok K R va vn vc xs _ h.out hr.out).mono ?_
  rintro e w1 ⟨x, y, z, rfl, hb, rfl, rfl, rfl⟩
  rw [hp.out]
  obtain ⟨z0, z1, z2, f0, f1, f2⟩ := cells3 hb
  generalize unlikeP K xs (xs.length / K) = q
  go_wp2_with fail
  refine (perm_check r K R va vn vc _ _ ys zs _ (hg.out.below hb) (hu.out.below hb) (hv.out.below hb) hR).mono ?_
  rintro e w2 ⟨x, rfl, hb', he⟩
  rw [hc.out] at he
  obtain rfl := he.none_eq
  clear he z0 z1 z2 f0 f1 f2
  replace hb := Below.step hb hb'
  clear hb'
  obtain ⟨z0, z1, z2, f0, f1, f2⟩ := cells3 hb
  go_wp2_with fail
  refine (clone_any _ zs _ (hv.out.below hb) (by omega)).mono ?_
  rintro e w3 ⟨x, rfl, hb', ho⟩
  have hsz : w.heap.size < w2.heap.size := World.block_lt_of_cell? _ _ z0
  have hvi := Lib.hid ((hv.out.below hb).below hb')
  have hui := Lib.hid (hu.out.below hb)
  have zz := Lib.hid (And.intro z0 (And.intro z1 z2))
  clear z0 z1 z2 f0 f1 f2
  obtain ⟨z0, z1, z2⟩ := keep3 hb' zz.out
  replace ho := Lib.hid ho
  go_wp2
  go_loop [13, 42] (fun n i => ∃ j : Nat, j ≤ zs.length ∧ i = .int .i64 j ∧ n = .int .i64 (numW K (zs.take j))) (fun _ i => zs.length - (intOf i).toNat)
  case atStart => exact ⟨0, by omega, rfl, rfl⟩
  case round =>
    obtain ⟨j, hj, rfl, rfl⟩ := hrel
    by_cases hjl : j < zs.length
    · have i1 := hvi.out.idx j hjl
      have c1 := hvi.out.cell j hjl
      have hx := hzs.out zs[j] (by simp)
      have hn : Hid (numW K (zs.take (j + 1)) = numW K (zs.take j) * K + zs[j].toNat) := by
        show _ = _
        rw [take_snoc zs j hjl, numW_snoc]
      have hn2 : numW K (zs.take j) ≤ 16384 := by
        have h1 := numW_lt (zs.take j) (fun x hx => hzs.out x (List.mem_of_mem_take hx))
        have h2 := pw_le hk1 hk4 (i := (zs.take j).length) (by simp; omega)
        omega
      generalize zs[j] = x at c1 hx hn
      generalize numW K (zs.take j) = N at hn hn2
      have hm1 : 0 ≤ (N : Int) * (K : Int) := Int.mul_nonneg (by omega) (by omega)
      have hm2 : (N : Int) * (K : Int) ≤ 65536 := by
        have : N * K ≤ 65536 := Nat.mul_le_mul hn2 hk4
        have h2 := Int.ofNat_le.2 this
        rw [Int.natCast_mul] at h2
        exact h2
      go_wp2
      go_round
      case rel => exact ⟨j + 1, by omega, by go_num, by rw [hn.out]; go_num⟩
      case measure => simp [intOf]; omega
    · obtain rfl : j = zs.length := by omega
      rw [List.take_length]
      have hN : numW K zs < xs.length / K := by
        rw [hhf.out.1, ← hzl.out]; exact numW_lt zs hzs.out
      have hlK : xs.length / K ≤ 16384 := Nat.le_trans (Nat.div_le_self _ _) hlen
      have hlKK : xs.length / K * K = xs.length := by rw [hhf.out.1]; exact hhf.out.2.symm
      have hlx := h.out.len
      have hK0 : ((K : Int) == 0) = false := by rw [beq_eq_false_iff_ne]; omega
      have hK1 : ¬ (K : Int) = 0 := by omega
      have hK2 : (0 : Int) < K := by omega
      have hK3 : ¬ K = 0 := by omega
      generalize hN0 : numW K zs = N at hN
      replace hN0 := Lib.hid hN0
      have hq0 : 0 ≤ (xs.length : Int) / (K : Int) := Int.ediv_nonneg (by omega) (by omega)
      have hqc : (xs.length : Int) / (K : Int) = ((xs.length / K : Nat) : Int) := by simp
      have hq1 : (xs.length : Int) / (K : Int) ≤ 16384 := by rw [hqc]; omega
      have hq2 : 0 < (xs.length : Int) / (K : Int) := by rw [hqc]; omega
      have hq3 : ((xs.length : Int) / (K : Int) == 0) = false := by rw [beq_eq_false_iff_ne]; omega
      replace hqc := Lib.hid hqc
      have hul := hui.out.len
      replace hN := Lib.hid hN
      have hlK0 := Lib.hid hlK
      replace hlKK := Lib.hid hlKK
      clear z0 z1 z2 hlK
      go_wp2
      go_loopw [12, 13, 55] (fun o n i wr => ∃ j : Nat, j ≤ ys.length ∧ i = .int .i64 j ∧ n = .int .i64 (rightN K xs N (ys.take j)) ∧ OwnI w2.heap.size wr o (zs ++ rightP K xs N (ys.take j)) ∧ Below w2.heap.size w2 wr) (fun _ _ i _ => ys.length - (intOf i).toNat)
      case atStart => exact ⟨0, by omega, rfl, rfl, by simpa [rightP] using ho.out, hb'⟩
      case round =>
        obtain ⟨j, hj, rfl, rfl, hO, hbO⟩ := hrel
        obtain ⟨wo, rfl⟩ : ∃ wo : World, wo = wr := ⟨_, rfl⟩
        by_cases hjl : j < ys.length
        · have hyi := hui.out.below hbO
          have i1 := hyi.idx j hjl
          have c1 := hyi.cell j hjl
          obtain ⟨z0, z1, z2⟩ := keep3 hbO zz.out
          have hN' : rightN K xs N (ys.take j) < xs.length / K := rightN_lt (by have := hN.out; omega) N hN.out _
          have hP : Hid (zs ++ rightP K xs N (ys.take (j + 1)) = (zs ++ rightP K xs N (ys.take j)) ++ [(fit K xs (rightN K xs N (ys.take j) * K) 1 ys[j] : Int)]) := by
            show _ = _
            rw [take_snoc ys j hjl, rightP_snoc, List.append_assoc]
          have hN2 : Hid (rightN K xs N (ys.take (j + 1)) = (rightN K xs N (ys.take j) * K + fit K xs (rightN K xs N (ys.take j) * K) 1 ys[j]) % (xs.length / K)) := by
            show _ = _
            rw [take_snoc ys j hjl, rightN_snoc]
          have hPl : (zs ++ rightP K xs N (ys.take j)).length ≤ 5000 := by simp [rightP_length]; omega
          generalize ys[j] = x at c1 hP hN2
          have hfl := fit_lt hk1 xs (rightN K xs N (ys.take j) * K) 1 x
          generalize rightN K xs N (ys.take j) = M at hN' hP hN2 hfl
          have hin : M * K + (K - 1) * 1 < xs.length := by
            have h1 : (M + 1) * K ≤ xs.length / K * K := Nat.mul_le_mul_right _ hN'
            rw [hlKK.out, Nat.succ_mul] at h1
            omega
          have hM1 : M ≤ 16384 := by have := hlK0.out; omega
          have hm1 : 0 ≤ (M : Int) * (K : Int) := Int.mul_nonneg (by omega) (by omega)
          have hm2 : (M : Int) * (K : Int) ≤ 65536 := by
            have : M * K ≤ 65536 := Nat.mul_le_mul hM1 hk4
            have h2 := Int.ofNat_le.2 this
            rw [Int.natCast_mul] at h2
            exact h2
          have hf := perm_fits K R va vn vc xs (M * K) 1 x wo ((h.out.below hb).below hbO) hr.out hin
          rw [Int.natCast_mul] at hf
          generalize fit K xs (M * K) 1 x = s at hP hN2 hfl hf
          have hmod : Hid (((M : Int) * (K : Int) + (s : Int)) % ((xs.length : Int) / (K : Int)) = (((M * K + s) % (xs.length / K) : Nat) : Int)) := by show _ = _; simp
          replace hN' := Lib.hid hN'
          replace hO := Lib.hid hO
          replace hf := Lib.hid hf
          replace hin := Lib.hid hin
          generalize zs ++ rightP K xs N (ys.take j) = O at hO hPl hP
          go_wp2_with fail
          refine hf.out.mono ?_
          rintro e w' ⟨rfl, rfl⟩
          go_wp2_with (at_builtin; refine wpl_append1b rfl _ _ rfl w2.heap.size _ O (s : Int) (hO.out.alloc _) rfl _ rfl (by simp) (by omega) (by have := hbO.size; simp; omega) ?_)
          intro nv w4 hO4 hb4 _ _
          have hbT : Below w2.heap.size w2 w4 := (hbO.alloc hbO.size _).trans hb4
          clear z0 z1 z2
          obtain ⟨z0, z1, z2⟩ := keep3 hbT zz.out
          replace hO4 := Lib.hid hO4
          go_wp2
          go_quiet (fail)
          go_wp2
          go_roundw
          case rel =>
            refine ⟨j + 1, by omega, by go_num, ?_, by rw [hP.out]; exact hO4.out, below_drewN hbT _⟩
            rw [hN2.out, ← hmod.out]
          case measure => simp [intOf]; omega
        · obtain rfl : j = ys.length := by omega
          go_wp2
          go_ret2
          rw [List.take_length] at hO
          exact ⟨_, _, rfl, Below.step hb0 (Below.step hb hbO), (by rw [hN0.out]; exact hO.mono (by omega)), rfl⟩

/-- permut.Right at all operands. -/
theorem right_any (r : Nat → Addr) (k R : Int) (va : Option Addr) (vn vc : Nat) (xs : List Int) (u v : Value) (ys zs : List Int) (w : World) (hg : Glob r w) (h : IntsAt w (.slice va vn vc) xs) (hu : IntsAt w u ys) (hv : IntsAt w v zs) :
    Calls Tryd.prog 21 #[.agg #[.int .i64 k, .int .i64 R, .slice va vn vc], u, v] w (Ret2 (fun x y w' => ErrIs r w' (permF k R xs 1 ys zs) y ∧ (permF k R xs 1 ys zs = none → OwnI w.heap.size w' x (zs ++ rightP k.toNat xs (numW k.toNat zs) ys)) ∧ (permF k R xs 1 ys zs ≠ none → x = .slice none 0 0)) w) := by
  cases hc : checkP k R xs with
  | some t =>
    have e : permF k R xs 1 ys zs = under sPermut 0 (some t) := by simp [permF, hc]
    refine (right_bad1 r k R va vn vc xs u v t w hg h hc).mono ?_
    rintro e1 w' ⟨x, y, he, hb, hx, hy⟩
    exact ⟨x, y, he, hb, by rw [e]; exact hy, (fun h => by rw [e] at h; cases h), fun _ => hx⟩
  | none =>
    obtain ⟨K, R, rfl, rfl, hr⟩ := checkP_none hc
    cases hp : unlikeP K xs 1 with
    | false =>
      have e : permF K R xs 1 ys zs = fresh sPermut 0 3 := by simp [permF, hc, hp]
      refine (right_bad2 r K R va vn vc xs u v w hg h hr hp).mono ?_
      rintro e1 w' ⟨x, y, he, hb, hx, hy⟩
      exact ⟨x, y, he, hb, by rw [e]; exact hy, (fun h => by rw [e] at h; cases h), fun _ => hx⟩
    | true =>
      have e : permF K R xs 1 ys zs = checkM K R ys zs := by simp [permF, hc, hp]
      cases hm : checkM K R ys zs with
      | some t =>
        rw [hm] at e
        refine (right_bad3 r K R va vn vc xs u v ys zs t w hg h hr hp hu hv hm).mono ?_
        rintro e1 w' ⟨x, y, he, hb, hx, hy⟩
        exact ⟨x, y, he, hb, by rw [e]; exact hy, (fun h => by rw [e] at h; cases h), fun _ => hx⟩
      | none =>
        rw [hm] at e
        refine (right_ok r K R va vn vc xs u v ys zs w hg h hr hp hu hv hm).mono ?_
        rintro e1 w' ⟨x, y, he, hb, hx, hy⟩
        exact ⟨x, y, he, hb, by rw [e]; exact hy, fun _ => by rw [Int.toNat_natCast]; exact hx, fun h => absurd e h⟩
end Go.Proofs.YtmddapkhipmlgaaDoor
