/-
  Walk: rule.Step at a rule and a word of its symbols.
  Walks: forms.symbol, forms.behind$1.
  Walk: permut.Left.
  Walk: forms.made, with a function that holds two things.
  Walks: forms.behind, forms.check, forms.wrong, forms.Compose.
  A law for a region that draws its order: the operations of its head in an order of our own, each load under a fact on the world that the head keeps; then the forced tail, one behind the other.
  Walks: edenref04.Value, edenref05.fault, edenref05.Mirror at a rule.
  Pieces of a slice of ints: s[k:], s[k:l].
  Plain mathematics: the sides of mirrored, renamed and composed rules.
  Plain mathematics: the preimages of a word, begin by begin; the next word; one preimage to each begin where the last place permutes.
  Walks: word.Check, word.Next.
  Walks: rule.Small, package overlap's first functions.
  Plain mathematics: graphs: what leads where; Tarjan's search and the parts that it tells.
  Plain mathematics of layer 13: pairs of nodes, their arrows; words and the nodes along them.
  append(s, t...) as a run and as a step of a drawn region; walk: edenraw.Copy.
-/
import Derived.Test.YtmhiambkfdkkbaaGreatDoorMPg2
import Derived.StillTail
import Derived.Deep.RegionHeld3
namespace Go.Proofs.YtmhiambkfdkkbaaGreatDoor
open Go.RowKit
set_option maxRecDepth 100000

set_option maxHeartbeats 800000 in
theorem step_ok (K R : Nat) (va : Option Addr) (vn vc : Nat) (T : List Int) (u : Value) (ys : List Int) (w : World) (h : IntsAt w (.slice va vn vc) T) (hr : RuleOk K R T) (hu : IntsAt w u ys) (hy : Syms K ys) (hyl : ys.length ≤ 4096) :
    Calls Tryz.prog 101 #[.agg #[.int .i64 K, .int .i64 R, .slice va vn vc], u] w (Ret2 (fun x y w' => OwnI w.heap.size w' x (imgP K R T ys) ∧ y = .nilIface) w) := by
  have hb0 := belowAlloc w (.cells #[.int .i64 K, .int .i64 R, .slice va vn vc] 24)
  have hR := hr.r3
  have hk1 := hr.k1
  have hk4 := hr.k4
  have hlen := hr.len_le
  have hlp := hr.len_pos
  have hlT := Lib.hid hr.len
  have l1 := hu.len
  have lT := h.len
  have hodd := Lib.hid hy.odd
  replace h := Lib.hid (h.below hb0)
  replace hu := Lib.hid (hu.below hb0)
  replace hr := Lib.hid hr
  replace hy := Lib.hid hy
  obtain ⟨ua, un, uc, rfl⟩ := hu.out.shape
  have hL0 : ((T.length : Int) == 0) = false := by rw [beq_eq_false_iff_ne]; omega
  have hL1 : ¬ (T.length : Int) = 0 := by omega
  have hL2 : (0 : Int) < T.length := by omega
  go_enter Tryz.func101, Tryz.ntmps101
  go_wp2_with fail
  refine (check_ok K R _ T _ h.out hr.out).mono ?_
  rintro e w1 ⟨x, rfl, hb, rfl⟩
  obtain ⟨z0, z1, z2, -, -, -⟩ := cells3 hb
  go_wp2_with fail
  refine (rule_odd K _ ys _ (hu.out.below hb)).mono ?_
  rintro e w2 ⟨x, rfl, hb', rfl⟩
  rw [hodd.out]
  have zz := Lib.hid (And.intro z0 (And.intro z1 z2))
  clear z0 z1 z2
  have hb2 := Below.step hb hb'
  obtain ⟨z0, z1, z2⟩ := keep3 hb' zz.out
  have zz2 := Lib.hid (And.intro z0 (And.intro z1 z2))
  clear z0 z1 z2
  have hsz : w.heap.size < w2.heap.size := World.block_lt_of_cell? _ _ zz2.out.1
  have hT2 := Lib.hid (h.out.below hb2)
  have hu2 := Lib.hid (hu.out.below hb2)
  go_wp2
  go_loopw [8, 9, 31] (fun o n i wr => ∃ j : Nat, j ≤ ys.length ∧ i = .int .i64 j ∧ n = .int .i64 (numW K (ys.take j) % T.length : Nat) ∧ OwnI w2.heap.size wr o (imgP K R T (ys.take j)) ∧ Below w2.heap.size w2 wr) (fun _ _ i _ => ys.length - (intOf i).toNat)
  case atStart => exact ⟨0, by omega, rfl, by simp [numW], by simpa [imgP] using OwnI.nil _ _, Below.refl _ _⟩
  case round =>
    obtain ⟨j, hj, rfl, rfl, hO, hbO⟩ := hrel
    obtain ⟨wo, rfl⟩ : ∃ wo : World, wo = wr := ⟨_, rfl⟩
    by_cases hjl : j < ys.length
    · have hyi := hu2.out.below hbO
      have i1 := hyi.idx j hjl
      have c1 := hyi.cell j hjl
      have hx := hy.out ys[j] (by simp)
      obtain ⟨z0, z1, z2⟩ := keep3 hbO zz2.out
      have hst : Hid (numW K (ys.take (j + 1)) % T.length = (numW K (ys.take j) % T.length * K + ys[j].toNat) % T.length) := by
        show _ = _
        rw [take_snoc ys j hjl]; exact numW_step ..
      have hsy : Syms K (ys.take j ++ [ys[j]]) := by
        intro y hy'; exact hy.out y (by rw [← take_snoc ys j hjl] at hy'; exact List.mem_of_mem_take hy')
      have him := imgP_snoc (T := T) (R := R) hlT.out hsy
      rw [← take_snoc ys j hjl, hst.out] at him
      have htl : (ys.take j).length = j := by simp; omega
      rw [htl] at him
      have hol : (imgP K R T (ys.take j)).length ≤ 5000 := by rw [imgP_length]; omega
      have hNl : numW K (ys.take j) % T.length < T.length := Nat.mod_lt _ (by omega)
      generalize ys[j] = x at c1 hx hst him
      replace him := Lib.hid him
      generalize numW K (ys.take j) % T.length = N at hst him hNl
      generalize imgP K R T (ys.take j) = O at hO hol him
      have hm1 : 0 ≤ (N : Int) * (K : Int) := Int.mul_nonneg (by omega) (by omega)
      have hm2 : (N : Int) * (K : Int) ≤ 65536 := by
        have : N * K ≤ 65536 := Nat.mul_le_mul (show N ≤ 16384 by omega) hk4
        have h2 := Int.ofNat_le.2 this
        rw [Int.natCast_mul] at h2
        exact h2
      obtain ⟨X, rfl⟩ := Int.eq_ofNat_of_zero_le hx.1
      rw [Int.toNat_natCast] at him hst
      have hcast : Hid ((((N * K + X) % T.length : Nat) : Int) = ((N : Int) * (K : Int) + (X : Int)) % (T.length : Int)) := by show _ = _; simp
      have hMl : (N * K + X) % T.length < T.length := Nat.mod_lt _ (by omega)
      have hTw := hT2.out.below hbO
      have i2 : ∀ w', (Instr.indexAt 22 (.slice va vn vc) (.int .i64 (((N : Int) * (K : Int) + (X : Int)) % (T.length : Int)))).run Tryz.prog w' = .ok (.pointer (some (valAt (.slice va vn vc) ((N * K + X) % T.length)))) w' := by
        intro w'
        rw [← hcast.out]
        exact hTw.idx _ hMl w'
      have c2 := hTw.cellD _ hMl
      replace hO := Lib.hid hO
      clear hyi hTw
      generalize T.getD ((N * K + X) % T.length) 0 = y at c2 him
      by_cases hge : 2 * R ≤ j
      · replace him := Lib.hid (him.out.trans (if_pos hge))
        go_wp2_with (at_builtin; refine wpl_append1 rfl _ _ rfl w2.heap.size _ O y hO.out rfl rfl (by omega) hbO.size ?_)
        intro nv w4 hO4 hb4 _ _
        have hbT := hbO.trans hb4
        replace hO4 := Lib.hid hO4
        go_wp2
        go_roundw
        case rel => exact ⟨j + 1, by omega, by go_num, by rw [hst.out, hcast.out], by rw [him.out]; exact hO4.out, hbT⟩
        case measure => simp [intOf]; omega
      · replace him := Lib.hid (him.out.trans (if_neg hge))
        go_wp2
        go_roundw
        case rel => exact ⟨j + 1, by omega, by go_num, by rw [hst.out, hcast.out], by rw [him.out]; exact hO.out, hbO⟩
        case measure => simp [intOf]; omega
    · obtain rfl : j = ys.length := by omega
      rw [List.take_length] at hO
      go_wp2
      go_ret2
      exact ⟨_, _, rfl, Below.step hb0 (Below.step hb2 hbO), hO.mono (by omega), rfl⟩
end Go.Proofs.YtmhiambkfdkkbaaGreatDoor

namespace Go.Proofs.YtmhiambkfdkkbaaGreatDoor
open Go.RowKit
set_option maxRecDepth 100000

theorem symbol_any (K R : Nat) (va : Option Addr) (vn vc : Nat) (T : List Int) (u : Value) (ys : List Int) (w : World) (h : IntsAt w (.slice va vn vc) T) (hr : RuleOk K R T) (hu : IntsAt w u ys) (hy : Syms K ys) (hyl : ys.length = 2 * R + 1) :
    Calls Tryz.prog 174 #[.agg #[.int .i64 K, .int .i64 R, .slice va vn vc], u] w (Ret1 (fun x _ => x = .int .i64 (T.getD (numW K ys) 0)) w) := by
  have hb0 := belowAlloc w (.cells #[.int .i64 K, .int .i64 R, .slice va vn vc] 24)
  have hR := hr.r3
  have hk1 := hr.k1
  have hk4 := hr.k4
  have l1 := hu.len
  have hb7 : ys.length ≤ 7 := by omega
  have hnl : numW K ys < T.length := by rw [hr.len, ← hyl]; exact numW_lt ys hy
  generalize hy0 : T.getD (numW K ys) 0 = y0
  replace hy0 := Lib.hid hy0
  replace hnl := Lib.hid hnl
  replace hyl := Lib.hid hyl
  replace h := Lib.hid (h.below hb0)
  replace hu := Lib.hid (hu.below hb0)
  replace hy := Lib.hid hy
  replace hr := Lib.hid hr
  obtain ⟨ua, un, uc, rfl⟩ := hu.out.shape
  go_enter Tryz.func174, Tryz.ntmps174
  go_wp2
  go_loop [5, 10] (fun n i => ∃ j : Nat, j ≤ ys.length ∧ i = .int .i64 j ∧ n = .int .i64 (numW K (ys.take j))) (fun _ i => ys.length - (intOf i).toNat)
  case atStart => exact ⟨0, by omega, rfl, rfl⟩
  case round =>
    obtain ⟨j, hj, rfl, rfl⟩ := hrel
    by_cases hjl : j < ys.length
    · have i1 := hu.out.idx j hjl
      have c1 := hu.out.cell j hjl
      have hx := hy.out ys[j] (by simp)
      have hn : Hid (numW K (ys.take (j + 1)) = numW K (ys.take j) * K + ys[j].toNat) := by
        show _ = _
        rw [take_snoc ys j hjl, numW_snoc]
      have hn2 : numW K (ys.take j) ≤ 16384 := by
        have h1 := numW_lt (ys.take j) (fun x hx => hy.out x (List.mem_of_mem_take hx))
        have h2 := pw_le hk1 hk4 (i := (ys.take j).length) (by simp; omega)
        omega
      generalize ys[j] = x at c1 hx hn
      generalize numW K (ys.take j) = N at hn hn2
      have hm1 : 0 ≤ (N : Int) * (K : Int) := Int.mul_nonneg (by omega) (by omega)
      have hm2 : (N : Int) * (K : Int) ≤ 65536 := by
        have : N * K ≤ 65536 := Nat.mul_le_mul hn2 hk4
        have h2 := Int.ofNat_le.2 this
        rw [Int.natCast_mul] at h2
        exact h2
      go_wp2
      go_round
      case rel => exact ⟨j + 1, by omega, by go_num, by rw [hn.out]; go_num⟩
      case measure => simp [intOf]; omega
    · obtain rfl : j = ys.length := by omega
      rw [List.take_length]
      have i2 := h.out.idx (numW K ys) hnl.out
      have c2 := h.out.cellD (numW K ys) hnl.out
      rw [hy0.out] at c2
      clear hy0 hnl
      generalize numW K ys = N at i2 c2
      go_wp2
      go_ret
      exact ⟨_, rfl, hb0, rfl⟩

end Go.Proofs.YtmhiambkfdkkbaaGreatDoor

namespace Go.Proofs.YtmhiambkfdkkbaaGreatDoor
open Go.RowKit
set_option maxRecDepth 100000

theorem leftS_lt {K : Nat} {T : List Int} (hK : 1 ≤ K) (node : Nat) (hn : node < T.length / K) (w : List Int) : (leftS K T node w).1 < T.length / K := by
  induction w with
  | nil => exact hn
  | cons y w ih =>
    have hf := fit_lt hK T (leftS K T node w).1 (T.length / K) y
    show (fit K T (leftS K T node w).1 (T.length / K) y * (T.length / K) + (leftS K T node w).1) / K < T.length / K
    rw [Nat.div_lt_iff_lt_mul hK]
    have h1 : (fit K T (leftS K T node w).1 (T.length / K) y + 1) * (T.length / K) ≤ K * (T.length / K) := Nat.mul_le_mul_right _ hf
    rw [Nat.succ_mul] at h1
    rw [Nat.mul_comm (T.length / K) K]
    omega

theorem run_makeI (C : Int) (n : Nat) (w : World) (hC : C = n) (hn : n ≤ 17592186044416) :
    ∃ v w', (Instr.makeSlice 22 (.int .i64 C) (.int .i64 C)).run Tryz.prog w = .ok v w' ∧ OwnI w.heap.size w' v (List.replicate n 0) ∧ Below w.heap.size w w' := by
  subst hC
  obtain ⟨i, hi, hz0, hz1, hz2⟩ := info_parts iInt
  obtain ⟨w', hrun, r1, r2⟩ := run_make_full (P := Tryz.prog) w w.heap.size 22 3 i (.int .i64 0) 1 uInts hi hz0 hz1 .i64 .i64 n (by rw [hz2]; omega) (by unfold maxLen; omega) (Nat.le_refl _)
  refine ⟨_, w', hrun, ?_, (Below.refl _ _).grown r2 (Nat.le_refl _) (by intro k hk; cases hk)⟩
  have e : (madeCells (Value.cells (.int .i64 0)) (n * 1)).toList = (List.replicate n (0 : Int)).map (Value.int .i64) := by
    rw [show Value.cells (.int .i64 0) = #[.int .i64 0] from rfl, toList_madeCells_one]; simp
  rw [e] at r1
  simpa [OwnI] using r1

/-- What is left of an owned slice from a place on. -/
theorem OwnI.post {B : Nat} {w : World} {v : Value} {xs : List Int} (h : OwnI B w v xs) (off : Nat) (ho : off ≤ xs.length) :
    ∃ dp dLen dCap, (∀ w', (Instr.slice 22 v (some (.int .i64 off)) none none).run Tryz.prog w' = .ok (.slice dp dLen dCap) w') ∧ dLen = xs.length - off ∧ (0 < xs.length - off → dp = some (valAt v off)) := by
  rcases h.2 with ⟨rfl, hn⟩ | ⟨g, cap, cur, rfl, hB, hg, hn, hm, hs, ht⟩
  · have hr : ∀ w', (Instr.slice 22 (.slice none 0 0) (some (.int .i64 off)) none none).run Tryz.prog w' = .ok (sliced none off 0 0 1) w' := by
      intro w'
      rw [run_slice_l w' 22 none 0 0 uIntsE .i64 off (by omega) (by omega), eInts, sInt]
      rfl
    exact ⟨_, _, _, hr, by omega, by intro hh; omega⟩
  · have hr : ∀ w', (Instr.slice 22 (.slice (some ⟨g, 0, none⟩) xs.length cap) (some (.int .i64 off)) none none).run Tryz.prog w' = .ok (sliced (some ⟨g, 0, none⟩) off xs.length cap 1) w' := by
      intro w'
      rw [run_slice_l w' 22 (some ⟨g, 0, none⟩) xs.length cap uIntsE .i64 off (by omega) (by omega), eInts, sInt]
      rfl
    refine ⟨_, _, _, hr, rfl, fun hh => ?_⟩
    rw [if_neg (by omega), valAt_row]
    simp [Addr.add]
    intro e; exact e.symm

end Go.Proofs.YtmhiambkfdkkbaaGreatDoor

namespace Go.Proofs.YtmhiambkfdkkbaaGreatDoor
open Go.RowKit
set_option maxRecDepth 100000

/-- The table of a function of windows. -/
def madeP (K n : Nat) (s : List Int → Int) (m : Nat) : List Int := (List.range m).map fun x => s (digs K n x)
theorem madeP_length (K n : Nat) (s : List Int → Int) (m : Nat) : (madeP K n s m).length = m := by simp [madeP]

theorem madeP_set (K n : Nat) (s : List Int → Int) (m P : Nat) (h : m < P) : (madeP K n s m ++ List.replicate (P - m) (0 : Int)).set m (s (digs K n m)) = madeP K n s (m + 1) ++ List.replicate (P - (m + 1)) 0 := by
  rw [List.set_append_right _ _ (by rw [madeP_length]; exact Nat.le_refl _), madeP_length, Nat.sub_self, show P - m = (P - (m + 1)) + 1 by omega, List.replicate_succ, List.set_cons_zero, madeP, madeP, List.range_succ, List.map_append, List.append_assoc]
  rfl

set_option maxHeartbeats 800000 in
theorem made_two0 (K R F : Nat) (c1 c2 : Value) (s : List Int → Int) (w : World) (hk1 : 1 ≤ K) (hk4 : K ≤ 4) (hR : R ≤ 3)
    (eg : ∀ args w, (callFunc F args).run Tryz.prog w = .ok (.enter F args) w)
    (hF : ∀ (v : Value) (ys : List Int) (w' : World), Below w.heap.size w w' → IntsAt w' v ys → Syms K ys → ys.length = 2 * R + 1 → Calls Tryz.prog F #[v, c1, c2] w' (Ret1 (fun x _ => x = .int .i64 (s ys)) w')) :
    Calls Tryz.prog 172 #[.int .i64 K, .int .i64 R, .func (.func F) #[] #[c1, c2]] w (Ret1 (fun x w' => ∃ a n c, x = .agg #[.int .i64 K, .int .i64 R, .slice a n c] ∧ OwnI w.heap.size w' (.slice a n c) (madeP K (2 * R + 1) s (pw K (2 * R + 1)))) w) := by
  have hpl := pw_le hk1 hk4 (i := 2 * R + 1) (by omega)
  replace hF := Lib.hid hF
  go_enter Tryz.func172, Tryz.ntmps172
  go_wp2_with fail
  refine (size_ok K R _ hk1 hk4 hR).mono ?_
  rintro e w' ⟨rfl, rfl⟩
  go_wp2_with fail
  have hb0 := belowAlloc w (.cells #[.int .i64 0, .int .i64 0, .slice none 0 0] 24)
  obtain ⟨tv, w1, hmk, ho1, hb1⟩ := run_makeI ((pw K (2 * R + 1) : Nat) : Int) (pw K (2 * R + 1)) (w.alloc (.cells #[.int .i64 0, .int .i64 0, .slice none 0 0] 24)) rfl (by omega)
  obtain ⟨ta, tn, tc, rfl⟩ := ho1.at.shape
  rw [hmk]
  simp only [Result.andThen]
  clear hmk
  generalize hN : 2 * R + 1 = N at *
  go_wp2_with fail
  obtain ⟨wv, w2, hmk2, ho2, hb2⟩ := run_makeI (2 * (R : Int) + 1) N (w1.alloc (.cells #[.int .i64 K, .int .i64 R, .slice ta tn tc] 24)) (by omega) (by omega)
  obtain ⟨wa, wn, wc, rfl⟩ := ho2.at.shape
  rw [hmk2]
  simp only [Result.andThen]
  clear hmk2
  obtain ⟨z0, z1, z2, -, -, -⟩ := cells3 hb2
  have lt := (ho1.at.len)
  rw [List.length_replicate] at lt
  have hN7 : N ≤ 7 := by omega
  replace hN := Lib.hid hN
  have ltb : ∀ k, (Value.slice ta tn tc).ownBlock = some k → k < w1.heap.size := fun k hk => (ho1.lt k hk).2
  have lwn := ho2.at.len
  rw [List.length_replicate] at lwn
  have ho1' := Lib.hid ((ho1.alloc (.cells #[.int .i64 K, .int .i64 R, .slice ta tn tc] 24)).below hb2)
  have zz := Lib.hid (And.intro z0 (And.intro z1 z2))
  have hbw := Lib.hid (hb1.trans ((Below.step (belowAlloc w1 (.cells #[.int .i64 K, .int .i64 R, .slice ta tn tc] 24)) hb2).mono hb1.size))
  replace ho2 := Lib.hid ho2
  replace ltb := Lib.hid ltb
  have hsz1 := hb1.size
  simp at hsz1
  have hM : pw K N = pw K N := rfl
  clear hM
  go_wp2
  go_loopw [32] (fun i wr => ∃ m : Nat, m ≤ pw K N ∧ i = .int .i64 m ∧ OwnI (w.heap.size + 1) wr (.slice ta tn tc) (madeP K N s m ++ List.replicate (pw K N - m) 0) ∧ (∃ p : List Int, p.length = N ∧ OwnI (w1.heap.size + 1) wr (.slice wa wn wc) p) ∧
      (wr.cell? ⟨w1.heap.size, 0, none⟩ = some (.int .i64 K) ∧ wr.cell? ⟨w1.heap.size, 1, none⟩ = some (.int .i64 R) ∧ wr.cell? ⟨w1.heap.size, 2, none⟩ = some (.slice ta tn tc)) ∧
      Below (w.heap.size + 1) (w.alloc (.cells #[.int .i64 0, .int .i64 0, .slice none 0 0] 24)) wr) (fun i _ => pw K N - (intOf i).toNat)
  case atStart => exact ⟨0, by omega, rfl, by simpa [madeP] using ho1'.out, ⟨List.replicate N 0, by simp, by simpa using ho2.out⟩, zz.out, by simpa using hbw.out⟩
  case round =>
    obtain ⟨m, hm, rfl, hT, ⟨p, hp, hP⟩, hz, hbO⟩ := hrel
    obtain ⟨wo, rfl⟩ : ∃ wo : World, wo = wr := ⟨_, rfl⟩
    replace hz := Lib.hid hz
    replace hT := Lib.hid hT
    by_cases hml : m < pw K N
    · have hsz2 : w1.heap.size < wo.heap.size := World.block_lt_of_cell? _ _ hz.out.1
      have hK0 : ((K : Int) == 0) = false := by rw [beq_eq_false_iff_ne]; omega
      have hK1 : ¬ (K : Int) = 0 := by omega
      have hK2 : (0 : Int) < K := by omega
      go_wp2
      go_loopw [12, 38] (fun x i wr => ∃ j : Nat, j ≤ N ∧ i = .int .i64 j ∧ x = .int .i64 (m / pw K j : Nat) ∧ OwnI (w1.heap.size + 1) wr (.slice wa wn wc) (p.take (N - j) ++ (digs K N m).drop (N - j)) ∧ Below (w1.heap.size + 1) wo wr) (fun _ i _ => N - (intOf i).toNat)
      case atStart => exact ⟨0, by omega, rfl, by simp [pw], by rw [Nat.sub_zero, List.drop_of_length_le (by rw [digs_length]; exact Nat.le_refl _), List.append_nil, List.take_of_length_le (by omega)]; exact hP, Below.refl _ _⟩
      case round =>
        obtain ⟨j, hj, rfl, rfl, hO, hbI⟩ := hrel
        obtain ⟨wi, rfl⟩ : ∃ wi : World, wi = wr := ⟨_, rfl⟩
        by_cases hjl : j < N
        · have hXl : (p.take (N - j) ++ (digs K N m).drop (N - j)).length = N := by simp [digs_length]; omega
          have i1 : ∀ w', (Instr.indexAt 22 (.slice wa wn wc) (.int .i64 ((N : Int) - 1 - (j : Int)))).run Tryz.prog w' = .ok (.pointer (some (valAt (.slice wa wn wc) (N - 1 - j)))) w' := by
            intro w'
            have := hO.at.idxI ((N : Int) - 1 - (j : Int)) (by omega) (by rw [hXl]; omega) w'
            rwa [show ((N : Int) - 1 - (j : Int)).toNat = N - 1 - j by omega] at this
          have c1 := hO.at.cellD (N - 1 - j) (by rw [hXl]; omega)
          have f1 := hO.frz (N - 1 - j) (by rw [hXl]; omega)
          have hS := hO.set (N - 1 - j) (by rw [hXl]; omega) ((m / pw K j % K : Nat) : Int)
          have hbS := hO.setBelow hbI (N - 1 - j) (by rw [hXl]; omega) (.int .i64 ((m / pw K j % K : Nat) : Int))
          rw [digs_fill K N m j hjl p hp] at hS
          replace hS := Lib.hid hS
          replace hbS := Lib.hid hbS
          have hqd : m / pw K j / K = m / pw K (j + 1) := by rw [Nat.div_div_eq_div_mul, ← pw_succ]
          replace hqd := Lib.hid hqd
          have hql : m / pw K j ≤ 16384 := Nat.le_trans (Nat.div_le_self _ _) (by omega)
          generalize (p.take (N - j) ++ (digs K N m).drop (N - j)).getD (N - 1 - j) 0 = y at c1
          clear hXl hO
          generalize m / pw K j = q at *
          rw [Int.natCast_emod] at hS hbS
          have hd0 : 0 ≤ (q : Int) / (K : Int) := Int.ediv_nonneg (by omega) (by omega)
          have hd1 : (q : Int) / (K : Int) ≤ 16384 := by
            have h1 : q / K ≤ q := Nat.div_le_self _ _
            have h2 : q / K ≤ 16384 := by omega
            exact_mod_cast h2
          have hdw : IntKind.i64.wrap ((q : Int) / (K : Int)) = (q : Int) / (K : Int) := wrapK (by omega) (by omega)
          go_wp2
          go_roundw
          case rel => exact ⟨j + 1, by omega, by go_num, by rw [← hqd.out]; simp, hS.out, hbS.out⟩
          case measure => simp [intOf]; omega
        · have hjN : j = N := by omega
          subst hjN
          rw [Nat.sub_self, List.take_zero, List.drop_zero, List.nil_append] at hO
          have hbW : Below w.heap.size w wi := ((belowAlloc w _).trans (hbO.mono (by omega))).trans (hbI.mono (by omega))
          have hz2 := hbI.cell (p := ⟨w1.heap.size, 2, none⟩) (by simp)
          have hTl : m < (madeP K j s m ++ List.replicate (pw K j - m) (0 : Int)).length := by simp [madeP_length]; omega
          have hTi := hT.out.belowB hbI (fun k hk => by have := ltb.out k hk; omega)
          have i2 := hTi.at.idx m hTl
          have c2 := hTi.at.cellD m hTl
          have f2 := hTi.frz m hTl
          have b2 := hTi.at.blk m hTl
          have z2i := hz2.trans hz.out.2.2
          have zbi : (⟨w1.heap.size, 2, none⟩ : Addr).block < wi.heap.size := World.block_lt_of_cell? _ _ z2i
          generalize (madeP K j s m ++ List.replicate (pw K j - m) (0 : Int)).getD m 0 = o at c2
          replace hTi := Lib.hid hTi
          replace hO := Lib.hid hO
          replace hbW := Lib.hid hbW
          replace hTl := Lib.hid hTl
          clear hz2
          have hvb : (valAt (.slice ta tn tc) m).block ≠ w1.heap.size := by
            have := ltb.out _ (hT.out.toV.blkB m (by simpa using hTl.out)).1
            omega
          have hdl : m + 1 ≤ pw K j := hml
          go_wp2
          go_region_held3 (fun w' => w'.cell? ⟨w1.heap.size, 2, none⟩ = some (.slice ta tn tc)) (go_keep)
            (first | (refine (hF.out _ (digs K j m) _ (by first | exact hbW.out.drew | exact hbW.out) (by first | exact hO.out.at.drew | exact hO.out.at) (digs_syms hk1 _ _) (by rw [digs_length])).mono ?_; rintro e w5 ⟨x5, rfl, hb5, rfl⟩; have y1 := (hb5.cell zbi).trans z2i; have y2 := (hb5.cell b2).trans c2; have y3 := (hb5.frozen b2).trans f2; have bb : Below wi.heap.size wi w5 := ((Below.refl _ _).drew).trans hb5))
          have hT5 := (hTi.out.drew.below hb5).set m hTl.out (s (digs K j m))
          rw [madeP_set K j s m _ hml] at hT5
          have hO5 := (hO.out.drew.below hb5).setOther (hTi.out.drew.below hb5) (by
            intro e
            have e1 := (hT.out.toV.blkB m (by simpa using hTl.out)).1
            have e2 := (hO.out.lt _ (e.trans e1)).1
            have e3 := ltb.out _ e1
            omega) m hTl.out (.int .i64 (s (digs K j m)))
          have hB5 := ((hbO.trans (hbI.mono (by omega))).trans (bb.mono (by omega))).setCell ((hTi.out.blkB m hTl.out)) (.int .i64 (s (digs K j m)))
          have x0 := (World.cell?_setCell_far w5 (valAt (.slice ta tn tc) m) ⟨w1.heap.size, 0, none⟩ (.int .i64 (s (digs K j m))) hvb).trans (((bb.cell (p := ⟨w1.heap.size, 0, none⟩) zbi)).trans ((hbI.cell (p := ⟨w1.heap.size, 0, none⟩) (by simp)).trans hz.out.1))
          have x1 := (World.cell?_setCell_far w5 (valAt (.slice ta tn tc) m) ⟨w1.heap.size, 1, none⟩ (.int .i64 (s (digs K j m))) hvb).trans (((bb.cell (p := ⟨w1.heap.size, 1, none⟩) zbi)).trans ((hbI.cell (p := ⟨w1.heap.size, 1, none⟩) (by simp)).trans hz.out.2.1))
          have x2 := (World.cell?_setCell_far w5 (valAt (.slice ta tn tc) m) ⟨w1.heap.size, 2, none⟩ (.int .i64 (s (digs K j m))) hvb).trans y1
          have xx := Lib.hid (And.intro x0 (And.intro x1 x2))
          clear x0 x1 x2
          replace hT5 := Lib.hid hT5
          replace hO5 := Lib.hid hO5
          replace hB5 := Lib.hid hB5
          go_wp2
          go_roundw
          case rel => exact ⟨m + 1, by omega, by go_num, hT5.out, ⟨digs K j m, digs_length .., hO5.out⟩, xx.out, hB5.out⟩
          case measure => simp [intOf]; omega
    · obtain rfl : m = pw K N := by omega
      rw [Nat.sub_self, List.replicate_zero, List.append_nil] at hT
      obtain ⟨z0, z1, z2⟩ := hz.out
      obtain ⟨y0, y1, y2, f0, f1, f2⟩ := cells3 (w := w) (show Below (w.alloc (.cells #[.int .i64 0, .int .i64 0, .slice none 0 0] 24)).heap.size _ wo by simpa using hbO)
      replace hbO := Lib.hid hbO
      go_wp2
      refine bodyPost_ret (v := .agg #[.int .i64 K, .int .i64 R, .slice ta tn tc]) (by simp [results, Tryz.results172, go_sem, y0, y1, y2]) rfl ⟨_, rfl, ?_, ta, tn, tc, rfl, ?_⟩
      · exact (((belowAlloc w _).trans (hbO.out.mono (by omega))).setCell (by simp) _).setCell (by simp) _ |>.setCell (by simp) _
      · rw [hN.out]; exact (((hT.out.setBelowBase (a := ⟨w.heap.size, 0, none⟩) (by simp) _).setBelowBase (a := ⟨w.heap.size, 1, none⟩) (by simp) _).setBelowBase (a := ⟨w.heap.size, 2, none⟩) (by simp) _).mono (Nat.le_succ _)

theorem made_two (K R F : Nat) (c1 c2 : Value) (s : List Int → Int) (w : World) (hk1 : 1 ≤ K) (hk4 : K ≤ 4) (hR : R ≤ 3) (Ri : Int) (hRi : Ri = R)
    (eg : ∀ args w, (callFunc F args).run Tryz.prog w = .ok (.enter F args) w)
    (hF : ∀ (v : Value) (ys : List Int) (w' : World), Below w.heap.size w w' → IntsAt w' v ys → Syms K ys → ys.length = 2 * R + 1 → Calls Tryz.prog F #[v, c1, c2] w' (Ret1 (fun x _ => x = .int .i64 (s ys)) w')) :
    Calls Tryz.prog 172 #[.int .i64 K, .int .i64 Ri, .func (.func F) #[] #[c1, c2]] w (Ret1 (fun x w' => ∃ a n c, x = .agg #[.int .i64 K, .int .i64 R, .slice a n c] ∧ OwnI w.heap.size w' (.slice a n c) (madeP K (2 * R + 1) s (pw K (2 * R + 1)))) w) := by
  subst hRi
  exact made_two0 K R F c1 c2 s w hk1 hk4 hR eg hF
end Go.Proofs.YtmhiambkfdkkbaaGreatDoor

namespace Go.Proofs.YtmhiambkfdkkbaaGreatDoor
open Go.RowKit
set_option maxRecDepth 100000

abbrev zR : Value := .agg #[.int .i64 0, .int .i64 0, .slice none 0 0]
def sForms : ByteArray := ⟨#[102, 111, 114, 109, 115]⟩
theorem madeP_behind (K R1 : Nat) (T1 : List Int) (R2 : Nat) (T2 : List Int) :
    madeP K (2 * (R1 + R2) + 1) (fun ys => T1.getD (numW K (imgP K R2 T2 ys)) 0) (pw K (2 * (R1 + R2) + 1)) = behindT K R1 T1 R2 T2 := rfl

theorem forms_wrong (r : Nat → Addr) (at_ n : Int) (w : World) (hg : Glob r w) (h1 : 1 ≤ n) (h2 : n ≤ 11) :
    Calls Tryz.prog 142 #[.int .i64 at_, .int .i64 n] w (Ret1 (fun v w' => ErrIs r w' (fresh sForms at_ n) v) w) := by
  go_enter Tryz.func142, Tryz.ntmps142
  go_wp2_with fail
  refine (new_any r _ at_ n w hg h1 h2).mono ?_
  rintro e w' ⟨v, rfl, hb, he⟩
  go_wp2
  go_ret
  exact ⟨_, rfl, hb, he⟩

theorem forms_check (r : Nat → Addr) (at_ : Int) (k R : Int) (va : Option Addr) (vn vc : Nat) (xs : List Int) (w : World) (hg : Glob r w) (h : IntsAt w (.slice va vn vc) xs) :
    Calls Tryz.prog 141 #[.int .i64 at_, .agg #[.int .i64 k, .int .i64 R, .slice va vn vc]] w (Ret1 (fun x w' => ErrIs r w' (under sForms at_ (checkP k R xs)) x) w) := by
  have hb0 := belowAlloc w (.cells #[.int .i64 k, .int .i64 R, .slice va vn vc] 24)
  replace hg := Lib.hid (hg.below hb0)
  replace h := Lib.hid (h.below hb0)
  go_enter Tryz.func141, Tryz.ntmps141
  go_wp2_with fail
  refine (check_any r k R _ xs _ hg.out h.out).mono ?_
  rintro e w1 ⟨x, rfl, hb, he⟩
  go_wp2_with fail
  refine (under_any r _ _ _ _ _ he).mono ?_
  rintro e w2 ⟨x, rfl, hb', he⟩
  go_wp2
  go_ret
  exact ⟨_, rfl, Below.step hb0 (Below.step hb hb'), he⟩

/-- forms.Compose's fault. -/
def composeP (k R : Int) (T : List Int) (k' R' : Int) (T' : List Int) : PErr :=
  match checkP k R T with
  | some t => under sForms 0 (some t)
  | none => match checkP k' R' T' with
    | some t => under sForms 1 (some t)
    | none => if k ≠ k' then fresh sForms 1 3 else if 3 < R + R' then fresh sForms 0 4 else none


/-- Two rules boxed, and a result's variable: their cells stay. -/
theorem cells9 {w w1 : World} {x0 x1 x2 x3 x4 x5 x6 x7 x8 : Value} {T1 T2 T3 : TypeId} (hb : Below (((w.alloc (.cells #[x0, x1, x2] T1)).alloc (.cells #[x3, x4, x5] T2)).alloc (.cells #[x6, x7, x8] T3)).heap.size (((w.alloc (.cells #[x0, x1, x2] T1)).alloc (.cells #[x3, x4, x5] T2)).alloc (.cells #[x6, x7, x8] T3)) w1) :
    (w1.cell? ⟨w.heap.size, 0, none⟩ = some x0 ∧ w1.cell? ⟨w.heap.size, 1, none⟩ = some x1 ∧ w1.cell? ⟨w.heap.size, 2, none⟩ = some x2) ∧
    (w1.cell? ⟨w.heap.size + 1, 0, none⟩ = some x3 ∧ w1.cell? ⟨w.heap.size + 1, 1, none⟩ = some x4 ∧ w1.cell? ⟨w.heap.size + 1, 2, none⟩ = some x5) ∧
    (w1.cell? ⟨w.heap.size + 1 + 1, 0, none⟩ = some x6 ∧ w1.cell? ⟨w.heap.size + 1 + 1, 1, none⟩ = some x7 ∧ w1.cell? ⟨w.heap.size + 1 + 1, 2, none⟩ = some x8) ∧
    (w1.frozen? ⟨w.heap.size + 1 + 1, 0, none⟩ = false ∧ w1.frozen? ⟨w.heap.size + 1 + 1, 1, none⟩ = false ∧ w1.frozen? ⟨w.heap.size + 1 + 1, 2, none⟩ = false) := by
  refine ⟨keep3 (n := w.heap.size) hb ⟨by simp [go_sem], by simp [go_sem], by simp [go_sem]⟩, keep3 (n := w.heap.size + 1) hb ⟨by simp [go_sem], by simp [go_sem], by simp [go_sem]⟩, ?_⟩
  have := cells3 hb
  rw [show ((w.alloc (.cells #[x0, x1, x2] T1)).alloc (.cells #[x3, x4, x5] T2)).heap.size = w.heap.size + 1 + 1 by simp] at this
  exact ⟨⟨this.1, this.2.1, this.2.2.1⟩, this.2.2.2⟩

end Go.Proofs.YtmhiambkfdkkbaaGreatDoor

namespace Go.Proofs.YtmhiambkfdkkbaaGreatDoor

section
variable {P : Program} {ops : Array Oper} {Q : Exit → Act → World → Prop} {md : Region.Mode} {S : World → Prop}

/-- Whatever order is picked from here on; behind an operation of the head the fact S holds. -/
def wpAnyT (P : Program) (md : Region.Mode) (ops : Array Oper) (Q : Exit → Act → World → Prop) (S : World → Prop) (n : Nat) : Nat → Array Bool → Act → World → Prop
  | 0, listed, a, w => Region.ready md ops listed = [] ∧ Q .normal a w
  | fuel + 1, listed, a, w =>
    (Region.ready md ops listed = [] → Q .normal a w) ∧
    ∀ i ∈ Region.ready md ops listed, wpOp P ops Q i (fun a' w' => (i < n → S w') ∧ wpAnyT P md ops Q S n fuel (listed.setIfInBounds i true) a' w') a w

theorem wpAny_of_T {n : Nat} : ∀ (fuel : Nat) (listed : Array Bool) (a : Act) (w : World), wpAnyT P md ops Q S n fuel listed a w → wpAny P md ops Q fuel listed a w
  | 0, _, _, _, h => h
  | fuel + 1, _, _, _, h => ⟨h.1, fun i hi => wpOp_mono (fun a' w' h' => wpAny_of_T fuel _ a' w' h'.2) (h.2 i hi)⟩

/-- Where the whole head has come up, it is a wpAny. -/
theorem wpAnyT_of {n : Nat} : ∀ (fuel : Nat) (listed : Array Bool) (a : Act) (w : World), (∀ j, j < n → listed.getD j true = true) → wpAny P md ops Q fuel listed a w → wpAnyT P md ops Q S n fuel listed a w
  | 0, _, _, _, _, h => h
  | fuel + 1, listed, a, w, hl, h => ⟨h.1, fun i hi => wpOp_mono (fun a' w' h' => ⟨fun hin => Bool.noConfusion ((hl i hin).symm.trans (mem_ready.1 hi).1), wpAnyT_of fuel _ a' w' (fun j hj => by
        by_cases hij : i = j
        · subst hij
          rcases Nat.lt_or_ge i listed.size with h2 | h2
          · simp [h2]
          · rw [Array.getD_eq_getD_getElem?, Array.getElem?_eq_none (by simpa using h2)]; rfl
        · rw [getD_set_ne true hij]; exact hl j hj) h'⟩) (h.2 i hi)⟩

theorem wpAnyT_first {n i : Nat} {oi : Oper} {v : Value} (hi : ops[i]? = some oi) (hsel : ∀ (j : Nat) (o : Oper) cs b, ops[j]? = some o → o.op ≠ .select cs b)
    (hs : Region.sinkB md ops n = true) (hc : Region.chainB md ops n = true) (hn : n < ops.size) (hin : i < n)
    (hQ : ∀ c a w, Q (.panic c) (a.put oi.dst v) w → Q (.panic c) a w) :
    ∀ (fuel : Nat) (listed : Array Bool) (a : Act) (w : World), HeadInv md ops n listed →
      (∀ j oj, ops[j]? = some oj → j ≠ i → listed.getD j true = false → (∀ e ∈ oj.after, Region.binds md e = true → e.on ≠ i) → oi.apart ops oj = true) →
      i ∈ Region.ready md ops listed → YieldsIf P ops S oi v a → S w →
      wpAnyT P md ops Q S n fuel (listed.setIfInBounds i true) (a.put oi.dst v) w → wpAnyT P md ops Q S n (fuel + 1) listed a w := by
  intro fuel
  induction fuel with
  | zero =>
    intro listed a w inv _ hr hy hS H
    refine ⟨fun h => (by rw [h] at hr; cases hr), fun j hj => ?_⟩
    by_cases hji : j = i
    · subst hji; exact hy.wpOp hi hS ⟨fun _ => hS, H⟩
    · have := ready_mono hj hji
      rw [H.1] at this
      cases this
  | succ fuel ih =>
    intro listed a w inv hfree hr hy hS H
    have hun := (mem_ready.1 hr).1
    refine ⟨fun h => (by rw [h] at hr; cases hr), fun j hj => ?_⟩
    have hjn : j < n := by
      rcases Nat.lt_or_ge j n with h | h
      · exact h
      · exact absurd hj (tail_waits hs hc hn inv _ i rfl hin hun j h)
    by_cases hji : j = i
    · subst hji; exact hy.wpOp hi hS ⟨fun _ => hS, H⟩
    · have h1 := H.2 j (ready_mono hj hji)
      obtain ⟨hjun, oj, hoj, hall⟩ := mem_ready.1 hj
      have hnot : ∀ e ∈ oj.after, Region.binds md e = true → e.on ≠ i := fun e he hb heq => by
        have h1 := hall e he hb
        rw [heq, getD_both hun] at h1
        cases h1
      have h2 := wpOp_putIf hoj (hfree j oj hoj hji hjun hnot) (fun cs b => hsel i oi cs b hi) (fun cs b => hsel j oj cs b hoj) hQ hy h1
      have hfree' : ∀ k ok, ops[k]? = some ok → k ≠ i → (listed.setIfInBounds j true).getD k true = false →
          (∀ e ∈ ok.after, Region.binds md e = true → e.on ≠ i) → oi.apart ops ok = true := fun k ok hk hki hun hno => by
        refine hfree k ok hk hki ?_ hno
        by_cases hjk : j = k
        · subst hjk; exact hjun
        · rw [getD_set_ne true hjk] at hun; exact hun
      refine wpOp_mono (fun a' w' h3 => ⟨fun _ => h3.2.1 hjn, ih (listed.setIfInBounds j true) a' w' (inv.set hj hjn) hfree' (ready_mono hr (Ne.symm hji)) h3.1 (h3.2.1 hjn) ?_⟩) h2
      rw [Array.setIfInBounds_comm _ _ hji]
      exact h3.2.2

/-- The head's operations in the plan's order: (k, true): number k yields a value under S; (k, false): number k alone can come up, whatever it does. -/
def wpHead (P : Program) (ops : Array Oper) (Q : Exit → Act → World → Prop) (S : World → Prop) (K : Act → World → Prop) : List (Nat × Bool) → Act → World → Prop
  | [], a, w => K a w
  | (k, true) :: l, a, w => ∃ o v, ops[k]? = some o ∧ YieldsIf P ops S o v a ∧ S w ∧ wpHead P ops Q S K l (a.put o.dst v) w
  | (k, false) :: l, a, w => wpOp P ops Q k (fun a' w' => S w' ∧ wpHead P ops Q S K l a' w') a w

def planB (md : Region.Mode) (ops : Array Oper) (n : Nat) : List (Nat × Bool) → Array Bool → Bool
  | [], listed => (List.range n).all (fun j => listed.getD j true) && Region.seqB md ops (ops.size - n) n listed
  | (k, true) :: l, listed => decide (k < n) && (Region.ready md ops listed).contains k && Region.free md ops listed k && planB md ops n l (listed.setIfInBounds k true)
  | (k, false) :: l, listed => decide (k < n) && decide (Region.ready md ops listed = [k]) && planB md ops n l (listed.setIfInBounds k true)

theorem wpAnyT_plan {n : Nat} {ol : List Oper} (hol : ops = ol.toArray) (hsel : Region.noSelect ops = true) (hs : Region.sinkB md ops n = true) (hc : Region.chainB md ops n = true) (hn : n < ops.size)
    (hQ : ∀ c a w, Q (.panic c) a w → False) :
    ∀ (l : List (Nat × Bool)) (listed : Array Bool) (a : Act) (w : World), HeadInv md ops n listed → planB md ops n l listed = true →
      wpHead P ops Q S (fun a' w' => wpList P ops Q (ol.drop n) a' w') l a w → wpAnyT P md ops Q S n (l.length + (ops.size - n)) listed a w
  | [], listed, a, w, inv, hB, h => by
    simp only [planB, Bool.and_eq_true] at hB
    have hl : ∀ j, j < n → listed.getD j true = true := fun j hj => List.all_eq_true.1 hB.1 j (List.mem_range.2 hj)
    rw [List.length_nil, Nat.zero_add]
    refine wpAnyT_of _ _ _ _ hl ?_
    have hdl : (ol.drop n).length = ops.size - n := by subst hol; simp
    rw [← hdl]
    refine wpAny_of_seq (ol.drop n) n listed a w (fun j => by subst hol; simp) ?_ h
    rw [hdl]; exact hB.2
  | (k, true) :: l, listed, a, w, inv, hB, h => by
    simp only [planB, Bool.and_eq_true, decide_eq_true_eq] at hB
    obtain ⟨⟨⟨hkn, hr⟩, hf⟩, hB'⟩ := hB
    obtain ⟨o, v, ho, hy, hS, h'⟩ := h
    have hr' : k ∈ Region.ready md ops listed := by simpa using hr
    rw [show ((k, true) :: l).length + (ops.size - n) = (l.length + (ops.size - n)) + 1 by simp; omega]
    exact wpAnyT_first ho (Region.noSelect_spec hsel) hs hc hn hkn (fun c a w h => (hQ c _ w h).elim) _ listed a w inv (Region.free_spec ho hf) hr' hy hS
      (wpAnyT_plan hol hsel hs hc hn hQ l _ _ _ (inv.set hr' hkn) hB' h')
  | (k, false) :: l, listed, a, w, inv, hB, h => by
    simp only [planB, Bool.and_eq_true, decide_eq_true_eq] at hB
    obtain ⟨⟨hkn, hr⟩, hB'⟩ := hB
    rw [show ((k, false) :: l).length + (ops.size - n) = (l.length + (ops.size - n)) + 1 by simp; omega]
    refine ⟨fun h0 => (by rw [h0] at hr; cases hr), fun i hi => ?_⟩
    have hi' := hi
    rw [hr] at hi'
    obtain rfl : i = k := by simpa using hi'
    exact wpOp_mono (fun a' w' h3 => ⟨fun _ => h3.1, wpAnyT_plan hol hsel hs hc hn hQ l _ a' w' (inv.set hi hkn) hB' h3.2⟩) h

/-- What is asked of the region and the plan. -/
def tailB (md : Region.Mode) (ops : Array Oper) (n : Nat) (plan : List (Nat × Bool)) : Bool :=
  Region.noSelect ops && decide (n < ops.size) && Region.sinkB md ops n && Region.chainB md ops n && decide (plan.length = n) && planB md ops n plan (Array.replicate ops.size false)

/-- **The law**: a region that draws its order, by a plan for its head; then its tail, one behind the other. -/
theorem wp_region_plan {id : Nat} {a : Act} {w : World} {l : List Oper} (S : World → Prop) (n : Nat) (plan : List (Nat × Bool)) (hm : P.follows .mixedOrders = true) (hB : tailB .any l.toArray n plan = true)
    (h : wpHead P l.toArray (NoPanic Q) S (fun a' w' => wpList P l.toArray (NoPanic Q) (l.drop n) a' w') plan a w.drew) : (Code.region id l.toArray true).wp P Q a w := by
  simp only [tailB, Bool.and_eq_true, decide_eq_true_eq] at hB
  obtain ⟨⟨⟨⟨⟨hsel, hn⟩, hs⟩, hc⟩, hlen⟩, hp⟩ := hB
  refine wp_region_noPanic ?_
  refine wp_region_any hm ?_
  have inv0 : HeadInv .any l.toArray n (Array.replicate l.toArray.size false) :=
    ⟨by simp, fun j oj _ hl => (by rw [getD_replicate_false] at hl; cases hl), fun t _ ht => getD_in (by simpa using ht) (getD_replicate_false _ _)⟩
  have := wpAnyT_plan (md := .any) (Q := NoPanic Q) (S := S) rfl hsel hs hc hn (fun _ _ _ h => h) plan _ a _ inv0 hp h
  rw [hlen, show n + (l.toArray.size - n) = l.toArray.size by omega] at this
  exact wpAny_of_T _ _ _ _ this

/-- A step that yields. -/
theorem headY {K : Act → World → Prop} {k : Nat} {o : Oper} {v : Value} {l : List (Nat × Bool)} {a : Act} {w : World} (d : Option Tmp) (ho : ops[k]? = some o) (hd : o.dst = d)
    (hy : YieldsIf P ops S o v a) (hS : S w) (h : wpHead P ops Q S K l (a.put d v) w) : wpHead P ops Q S K ((k, true) :: l) a w := by
  subst hd; exact ⟨o, v, ho, hy, hS, h⟩
/-- A step that does whatever it does. -/
theorem headC {K : Act → World → Prop} {k : Nat} {o : Oper} {l : List (Nat × Bool)} {a : Act} {w : World} (ho : ops[k]? = some o)
    (h : ∀ K' : Act → World → Prop, (∀ a w, S w → wpHead P ops Q S K l a w → K' a w) → if Region.wanted o (yielded ops a.tmps) = true then Oper.wp P o a w K' Q else K' (a.put o.dst undef) w) :
    wpHead P ops Q S K ((k, false) :: l) a w := by
  show wpOp _ _ _ _ _ _ _
  unfold wpOp
  simp only [ho]
  have := h (fun a' w' => S w' ∧ wpHead P ops Q S K l a' w') (fun a w h1 h2 => ⟨h1, h2⟩)
  split
  · rename_i hw; rw [if_pos hw] at this; exact .inl this
  · rename_i hw; rw [if_neg hw] at this; exact this
theorem head0 {K : Act → World → Prop} {a : Act} {w : World} (h : K a w) : wpHead P ops Q S K [] a w := h
end
end Go.Proofs.YtmhiambkfdkkbaaGreatDoor

namespace Go.Proofs.YtmhiambkfdkkbaaGreatDoor
open Go.RowKit
set_option maxRecDepth 100000

theorem ref_value (K : Nat) (u : Value) (ys : List Int) (w : World) (hk1 : 1 ≤ K) (hk4 : K ≤ 4) (hu : IntsAt w u ys) (hy : Syms K ys) (hyl : ys.length ≤ 7) :
    Calls Tryz.prog 80 #[.int .i64 K, u] w fun e w' => e = .returned (.int .i64 (numW K ys)) ∧ w = w' := by
  have l1 := hu.len
  replace hu := Lib.hid hu
  replace hy := Lib.hid hy
  go_enter Tryz.func80, Tryz.ntmps80
  go_wp2
  go_loop [5, 6] (fun n i => ∃ j : Nat, j ≤ ys.length ∧ i = .int .i64 j ∧ n = .int .i64 (numW K (ys.take j))) (fun _ i => ys.length - (intOf i).toNat)
  case atStart => exact ⟨0, by omega, rfl, rfl⟩
  case round =>
    obtain ⟨j, hj, rfl, rfl⟩ := hrel
    by_cases hjl : j < ys.length
    · have i1 := hu.out.idx j hjl
      have c1 := hu.out.cell j hjl
      have hx := hy.out ys[j] (by simp)
      have hn : Hid (numW K (ys.take (j + 1)) = numW K (ys.take j) * K + ys[j].toNat) := by
        show _ = _
        rw [take_snoc ys j hjl, numW_snoc]
      have hn2 : numW K (ys.take j) ≤ 16384 := by
        have h1 := numW_lt (ys.take j) (fun x hx => hy.out x (List.mem_of_mem_take hx))
        have h2 := pw_le hk1 hk4 (i := (ys.take j).length) (by simp; omega)
        omega
      generalize ys[j] = x at c1 hx hn
      generalize numW K (ys.take j) = N at hn hn2
      have hm1 : 0 ≤ (N : Int) * (K : Int) := Int.mul_nonneg (by omega) (by omega)
      have hm2 : (N : Int) * (K : Int) ≤ 65536 := by
        have : N * K ≤ 65536 := Nat.mul_le_mul hn2 hk4
        have h2 := Int.ofNat_le.2 this
        rw [Int.natCast_mul] at h2
        exact h2
      go_wp2
      go_round
      case rel => exact ⟨j + 1, by omega, by go_num, by rw [hn.out]; go_num⟩
      case measure => simp [intOf]; omega
    · obtain rfl : j = ys.length := by omega
      rw [List.take_length]
      go_wp2
      go_ret
      exact ⟨rfl, rfl⟩

theorem f05_fault (at_ k R : Int) (va : Option Addr) (vn vc : Nat) (xs : List Int) (w : World) (h : IntsAt w (.slice va vn vc) xs) :
    Calls Tryz.prog 155 #[.int .i64 at_, .agg #[.int .i64 k, .int .i64 R, .slice va vn vc]] w (Ret1 (fun x w' => EOwn w.heap.size w' (under sForms at_ (checkP k R xs)) x) w) := by
  have b0 := Below.step (belowAlloc w (.cells #[.int .i64 k, .int .i64 R, .slice va vn vc] 24)) (belowAlloc _ (.cells #[.int .i64 0, .slice none 0 0, .slice none 0 0] 34))
  have q4 : Box3 ((w.alloc (.cells #[.int .i64 k, .int .i64 R, .slice va vn vc] 24)).alloc (.cells #[.int .i64 0, .slice none 0 0, .slice none 0 0] 34)) (w.heap.size + 1) (.int .i64 0) (.slice none 0 0) (.slice none 0 0) := by simp [Box3, go_sem]
  replace h := Lib.hid (h.below b0)
  go_enter Tryz.func155, Tryz.ntmps155
  go_wp2_with fail
  refine (ref_check k R va vn vc xs _ h.out).mono ?_
  rintro e w1 ⟨x, rfl, b1, he⟩
  go_wp2_with fail
  refine (raw_under _ at_ (checkP k R xs) x _ he.at (fun n l e => by
    have := checkP_num e
    simp only at this
    exact ⟨by omega, by omega, by omega⟩)).mono ?_
  rintro e w2 ⟨x2, rfl, b2, he2⟩
  obtain ⟨q, a1, n1, c1, a2, n2, c2, rfl⟩ := he2.shape
  have q4' := q4.below (Below.step b1 b2)
  obtain ⟨⟨y0, y1, y2⟩, f0, f1, f2⟩ := q4'
  have hs := b1.size
  simp only [World.size_alloc] at hs
  replace he2 := Lib.hid he2
  go_wp2
  exact bodyPost_ret (v := .agg #[.int .i64 q, .slice a1 n1 c1, .slice a2 n2 c2]) (by simp [results, Tryz.results155, go_sem, y0, y1, y2]) rfl ⟨_, rfl, below_set3 (Below.step b0 (Below.step b1 b2)) (Nat.le_succ _) _ _ _, (he2.out.set3 (by omega) _ _ _).mono (by omega)⟩
end Go.Proofs.YtmhiambkfdkkbaaGreatDoor

namespace Go.Proofs.YtmhiambkfdkkbaaGreatDoor
open Go.RowKit

theorem IntsAt.piece {w : World} {a : Option Addr} {cap : Nat} {xs : List Int} (h : IntsAt w (.slice a xs.length cap) xs) (k l : Nat) (hk : k ≤ l) (hl : l ≤ xs.length) :
    IntsAt w (sliced a k l cap 1) ((xs.take l).drop k) := by
  obtain ⟨a', cap', e, h1, h2, h3, h4⟩ := h
  injection e with e1 _ e3
  subst e1 e3
  have hlen : ((xs.take l).drop k).length = l - k := by simp; omega
  refine ⟨if cap = k then a else a.map (·.add (k * 1)), cap - k, by rw [hlen]; rfl, by rw [hlen]; omega, by omega, ?_, fun i hi => ?_⟩
  · intro hn
    by_cases hc : cap = k
    · omega
    · rw [if_neg hc] at hn
      have := h3 (Option.map_eq_none_iff.1 hn)
      omega
  · rw [hlen] at hi
    have hc : ¬ cap = k := by omega
    show w.cell? (valAt (.slice (if cap = k then a else a.map (·.add (k * 1))) _ _) i) = _
    rw [if_neg hc]
    cases a with
    | none => have := h3 rfl; omega
    | some p =>
      have h5 := h4 (k + i) (by omega)
      simp only [valAt] at h5
      show w.cell? ((p.add (k * 1)).add i) = _
      rw [Nat.mul_one, show (p.add k).add i = p.add (k + i) by unfold Addr.add; by_cases hk0 : k = 0 <;> by_cases hi0 : i = 0 <;> simp [hk0, hi0, Nat.add_assoc], h5]
      simp

/-- s[k:]. -/
theorem IntsAt.post {w : World} {v : Value} {xs : List Int} (h : IntsAt w v xs) (k : Nat) (hk : k ≤ xs.length) :
    ∃ u, (∀ w', (Instr.slice 22 v (some (.int .i64 k)) none none).run Tryz.prog w' = .ok u w') ∧ IntsAt w u (xs.drop k) := by
  have h' := h
  obtain ⟨a, cap, rfl, _⟩ := h'
  refine ⟨sliced a k xs.length cap 1, fun w' => ?_, ?_⟩
  · rw [run_slice_l w' 22 a xs.length cap uIntsE .i64 k (by omega) (by omega), eInts, sInt]
    rfl
  · have := h.piece k xs.length hk (Nat.le_refl _)
    rwa [List.take_length] at this

/-- s[k:l]. -/
theorem IntsAt.mid {w : World} {v : Value} {xs : List Int} (h : IntsAt w v xs) (k l : Nat) (hk : k ≤ l) (hl : l ≤ xs.length) :
    ∃ u, (∀ w', (Instr.slice 22 v (some (.int .i64 k)) (some (.int .i64 l)) none).run Tryz.prog w' = .ok u w') ∧ IntsAt w u ((xs.take l).drop k) := by
  have h' := h
  obtain ⟨a, cap, rfl, h1, _⟩ := h'
  refine ⟨sliced a k l cap 1, fun w' => ?_, h.piece k l hk hl⟩
  rw [run_slice_lh w' 22 a xs.length cap uIntsE .i64 .i64 k l (by omega) (by omega) (by omega), eInts, sInt]
  rfl

/-- s[:l]. -/
theorem IntsAt.front {w : World} {v : Value} {xs : List Int} (h : IntsAt w v xs) (l : Nat) (hl : l ≤ xs.length) :
    ∃ u, (∀ w', (Instr.slice 22 v none (some (.int .i64 l)) none).run Tryz.prog w' = .ok u w') ∧ IntsAt w u (xs.take l) := by
  have h' := h
  obtain ⟨a, cap, rfl, h1, _⟩ := h'
  refine ⟨sliced a 0 l cap 1, fun w' => ?_, ?_⟩
  · rw [run_slice_h w' 22 a xs.length cap uIntsE .i64 l (by omega) (by omega), eInts, sInt]
    rfl
  · have := h.piece 0 l (Nat.zero_le _) hl
    simpa using this
end Go.Proofs.YtmhiambkfdkkbaaGreatDoor

namespace Go.Proofs.YtmhiambkfdkkbaaGreatDoor

theorem syms_cons {K : Nat} {s : Int} {u : List Int} (h0 : 0 ≤ s) (h1 : s < K) (hu : Syms K u) : Syms K (s :: u) := by
  intro y hy
  rcases List.mem_cons.1 hy with rfl | hy
  · exact ⟨h0, h1⟩
  · exact hu y hy
theorem syms_snoc {K : Nat} {s : Int} {u : List Int} (h0 : 0 ≤ s) (h1 : s < K) (hu : Syms K u) : Syms K (u ++ [s]) := by
  intro y hy
  rcases List.mem_append.1 hy with hy | hy
  · exact hu y hy
  · rw [List.mem_singleton] at hy; subst hy; exact ⟨h0, h1⟩
theorem syms_rev {K : Nat} {u : List Int} (hu : Syms K u) : Syms K u.reverse := fun y hy => hu y (List.mem_reverse.1 hy)

/-- The first symbol of the window permutes. -/
def LeftW (K m : Nat) (T : List Int) : Prop := ∀ u, Syms K u → u.length = m → ∀ s t : Int, 0 ≤ s → s < K → 0 ≤ t → t < K → s ≠ t → T.getD (numW K (s :: u)) 0 ≠ T.getD (numW K (t :: u)) 0
/-- The last one does. -/
def RightW (K m : Nat) (T : List Int) : Prop := ∀ u, Syms K u → u.length = m → ∀ s t : Int, 0 ≤ s → s < K → 0 ≤ t → t < K → s ≠ t → T.getD (numW K (u ++ [s])) 0 ≠ T.getD (numW K (u ++ [t])) 0

theorem unlike_leftW {K R : Nat} {T : List Int} (h : RuleOk K R T) : unlikeP K T (T.length / K) = true ↔ LeftW K (2 * R) T := by
  have h1 := h.k1
  obtain ⟨hW, hl⟩ := h.half
  have hp := pw_pos (K := K) (2 * R) h1
  rw [hW, unlikeP_iff]
  constructor
  · intro hu u hsy hul s t hs0 hs1 ht0 ht1 hne
    have hlt := numW_lt u hsy
    rw [hul] at hlt
    have hf := hu (numW K u) (by rw [hl]; have := Nat.mul_le_mul_left (pw K (2 * R)) h1; omega) (by rw [Nat.div_eq_of_lt hlt, Nat.zero_mod])
    have hf := (fullP_iff h1 h.k4 h.syms (pw K (2 * R)) _).1 hf
    rw [numW_cons, numW_cons, hul, Nat.add_comm (s.toNat * _), Nat.add_comm (t.toNat * _)]
    rcases Nat.lt_or_ge s.toNat t.toNat with hst | hst
    · exact hf _ _ hst (by omega)
    · exact (hf t.toNat s.toNat (by omega) (by omega)).symm
  · intro hw i hi hm
    have hiW : i < pw K (2 * R) := by
      have hdl : i / pw K (2 * R) < K := by rw [Nat.div_lt_iff_lt_mul (by omega), Nat.mul_comm, ← hl]; exact hi
      rw [Nat.mod_eq_of_lt hdl] at hm
      have := Nat.div_add_mod i (pw K (2 * R))
      have := Nat.mod_lt i (show pw K (2 * R) > 0 by omega)
      rw [hm] at *
      omega
    refine (fullP_iff h1 h.k4 h.syms (pw K (2 * R)) i).2 fun s t hst ht => ?_
    have := hw (digs K (2 * R) i) (digs_syms h1 _ _) (digs_length ..) s t (by omega) (by omega) (by omega) (by omega) (by omega)
    rwa [numW_cons, numW_cons, digs_length, numW_digs h1 _ _ hiW, Int.toNat_natCast, Int.toNat_natCast, Nat.add_comm (s * _), Nat.add_comm (t * _)] at this

theorem unlike_rightW {K R : Nat} {T : List Int} (h : RuleOk K R T) : unlikeP K T 1 = true ↔ RightW K (2 * R) T := by
  have h1 := h.k1
  obtain ⟨hW, hl⟩ := h.half
  rw [unlikeP_iff]
  constructor
  · intro hu u hsy hul s t hs0 hs1 ht0 ht1 hne
    have hlt := numW_lt u hsy
    rw [hul] at hlt
    have hf := hu (numW K u * K) (by rw [hl]; exact Nat.mul_lt_mul_of_pos_right hlt (by omega)) (by rw [Nat.div_one, Nat.mul_mod_left])
    have hf := (fullP_iff h1 h.k4 h.syms 1 _).1 hf
    rw [numW_snoc, numW_snoc]
    rcases Nat.lt_or_ge s.toNat t.toNat with hst | hst
    · have := hf _ _ hst (by omega); rwa [Nat.mul_one, Nat.mul_one] at this
    · have := (hf t.toNat s.toNat (by omega) (by omega)).symm; rwa [Nat.mul_one, Nat.mul_one] at this
  · intro hw i hi hm
    rw [Nat.div_one] at hm
    obtain ⟨q, rfl⟩ : ∃ q, i = q * K := ⟨i / K, by have := Nat.div_add_mod' i K; omega⟩
    have hq : q < pw K (2 * R) := Nat.lt_of_mul_lt_mul_right (a := K) (by rw [← hl]; exact hi)
    refine (fullP_iff h1 h.k4 h.syms 1 _).2 fun s t hst ht => ?_
    have := hw (digs K (2 * R) q) (digs_syms h1 _ _) (digs_length ..) s t (by omega) (by omega) (by omega) (by omega) (by omega)
    rwa [numW_snoc, numW_snoc, numW_digs h1 _ _ hq, Int.toNat_natCast, Int.toNat_natCast, ← Nat.mul_one s, ← Nat.mul_one t] at this

/-- Mirrored: the other sides. -/
theorem mir_leftW {K R : Nat} {T : List Int} (h : RuleOk K R T) : LeftW K (2 * R) (mirT K (2 * R + 1) T) ↔ RightW K (2 * R) T := by
  have e : ∀ (u : List Int) (s : Int), Syms K u → u.length = 2 * R → 0 ≤ s → s < K → (mirT K (2 * R + 1) T).getD (numW K (s :: u)) 0 = T.getD (numW K (u.reverse ++ [s])) 0 := fun u s hu hl h0 h1 => by
    have := mirT_at h.k1 h.len (s :: u) (syms_cons h0 h1 hu) (by simp [hl])
    rwa [List.reverse_cons] at this
  constructor
  · intro hw u hu hl s t a b c d hne
    have := hw u.reverse (syms_rev hu) (by simpa using hl) s t a b c d hne
    rwa [e _ _ (syms_rev hu) (by simpa using hl) a b, e _ _ (syms_rev hu) (by simpa using hl) c d, List.reverse_reverse] at this
  · intro hw u hu hl s t a b c d hne
    rw [e _ _ hu hl a b, e _ _ hu hl c d]
    exact hw u.reverse (syms_rev hu) (by simpa using hl) s t a b c d hne
theorem mir_rightW {K R : Nat} {T : List Int} (h : RuleOk K R T) : RightW K (2 * R) (mirT K (2 * R + 1) T) ↔ LeftW K (2 * R) T := by
  have e : ∀ (u : List Int) (s : Int), Syms K u → u.length = 2 * R → 0 ≤ s → s < K → (mirT K (2 * R + 1) T).getD (numW K (u ++ [s])) 0 = T.getD (numW K (s :: u.reverse)) 0 := fun u s hu hl h0 h1 => by
    have := mirT_at h.k1 h.len (u ++ [s]) (syms_snoc h0 h1 hu) (by simp [hl])
    rwa [List.reverse_append, List.reverse_singleton, List.singleton_append] at this
  constructor
  · intro hw u hu hl s t a b c d hne
    have := hw u.reverse (syms_rev hu) (by simpa using hl) s t a b c d hne
    rwa [e _ _ (syms_rev hu) (by simpa using hl) a b, e _ _ (syms_rev hu) (by simpa using hl) c d, List.reverse_reverse] at this
  · intro hw u hu hl s t a b c d hne
    rw [e _ _ hu hl a b, e _ _ hu hl c d]
    exact hw u.reverse (syms_rev hu) (by simpa using hl) s t a b c d hne
theorem mir_sides {K R : Nat} {T : List Int} (h : RuleOk K R T) :
    unlikeP K (mirT K (2 * R + 1) T) ((mirT K (2 * R + 1) T).length / K) = unlikeP K T 1 ∧ unlikeP K (mirT K (2 * R + 1) T) 1 = unlikeP K T (T.length / K) := by
  constructor
  · rw [Bool.eq_iff_iff, unlike_leftW (mirT_ok h), unlike_rightW h, mir_leftW h]
  · rw [Bool.eq_iff_iff, unlike_rightW (mirT_ok h), unlike_leftW h, mir_rightW h]

/-- One rule behind another. -/
theorem imgP_cons {K R : Nat} {T : List Int} {x : Int} {w : List Int} (h : 2 * R ≤ w.length) : imgP K R T (x :: w) = T.getD (numW K (x :: w.take (2 * R))) 0 :: imgP K R T w := by
  unfold imgP
  rw [show (x :: w).length - 2 * R = (w.length - 2 * R) + 1 by simp; omega, List.range_succ_eq_map, List.map_cons, List.map_map]
  congr 1
theorem behindT_length (K R1 : Nat) (T1 : List Int) (R2 : Nat) (T2 : List Int) : (behindT K R1 T1 R2 T2).length = pw K (2 * (R1 + R2) + 1) := by simp [behindT]
theorem behindT_at {K R1 R2 : Nat} {T1 T2 : List Int} (hK : 1 ≤ K) (w : List Int) (hw : Syms K w) (hl : w.length = 2 * (R1 + R2) + 1) : (behindT K R1 T1 R2 T2).getD (numW K w) 0 = T1.getD (numW K (imgP K R2 T2 w)) 0 := by
  have hlt := numW_lt w hw
  rw [hl] at hlt
  have : (behindT K R1 T1 R2 T2).getD (numW K w) 0 = T1.getD (numW K (imgP K R2 T2 (digs K (2 * (R1 + R2) + 1) (numW K w)))) 0 := by simp [behindT, List.getD, hlt]
  rw [this, ← hl, digs_numW hK w hw]
theorem behindT_ok {K R1 R2 : Nat} {T1 T2 : List Int} (h1 : RuleOk K R1 T1) (hR : R1 + R2 ≤ 3) : RuleOk K (R1 + R2) (behindT K R1 T1 R2 T2) :=
  ⟨h1.k1, h1.k4, hR, behindT_length .., fun y hy => by
    obtain ⟨i, _, rfl⟩ := List.mem_map.1 hy
    exact h1.syms.getD (by have := h1.k1; omega) _⟩
theorem behind_left {K R1 R2 : Nat} {T1 T2 : List Int} (h1 : RuleOk K R1 T1) (h2 : RuleOk K R2 T2) (w1 : LeftW K (2 * R1) T1) (w2 : LeftW K (2 * R2) T2) : LeftW K (2 * (R1 + R2)) (behindT K R1 T1 R2 T2) := by
  intro u hu hl s t a b c d hne
  have hk := h1.k1
  rw [behindT_at hk _ (syms_cons a b hu) (by simp [hl]), behindT_at hk _ (syms_cons c d hu) (by simp [hl]), imgP_cons (by omega), imgP_cons (by omega)]
  have htk : Syms K (u.take (2 * R2)) := fun y hy => hu y (List.mem_of_mem_take hy)
  have hne2 := w2 (u.take (2 * R2)) htk (by simp; omega) s t a b c d hne
  have s1 := h2.syms.getD (by omega) (numW K (s :: u.take (2 * R2)))
  have s2 := h2.syms.getD (by omega) (numW K (t :: u.take (2 * R2)))
  exact w1 (imgP K R2 T2 u) (imgP_syms hk h2.syms) (by rw [imgP_length]; omega) _ _ s1.1 s1.2 s2.1 s2.2 hne2
theorem behind_right {K R1 R2 : Nat} {T1 T2 : List Int} (h1 : RuleOk K R1 T1) (h2 : RuleOk K R2 T2) (w1 : RightW K (2 * R1) T1) (w2 : RightW K (2 * R2) T2) : RightW K (2 * (R1 + R2)) (behindT K R1 T1 R2 T2) := by
  intro u hu hl s t a b c d hne
  have hk := h1.k1
  have win : ∀ x : Int, 0 ≤ x → x < K → imgP K R2 T2 (u ++ [x]) = imgP K R2 T2 u ++ [T2.getD (numW K (u.drop (u.length - 2 * R2) ++ [x])) 0] := fun x x0 x1 => by
    rw [imgP_snoc h2.len (syms_snoc x0 x1 hu), if_pos (by omega)]
    have hdl : (u.drop (u.length - 2 * R2) ++ [x]).length = 2 * R2 + 1 := by simp; omega
    have := numW_mod (K := K) (u := u.take (u.length - 2 * R2)) (v := u.drop (u.length - 2 * R2) ++ [x]) (syms_snoc x0 x1 fun y hy => hu y (List.mem_of_mem_drop hy))
    rw [← List.append_assoc, List.take_append_drop, hdl, ← h2.len] at this
    rw [this]
  rw [behindT_at hk _ (syms_snoc a b hu) (by simp [hl]), behindT_at hk _ (syms_snoc c d hu) (by simp [hl]), win s a b, win t c d]
  have hdk : Syms K (u.drop (u.length - 2 * R2)) := fun y hy => hu y (List.mem_of_mem_drop hy)
  have hne2 := w2 (u.drop (u.length - 2 * R2)) hdk (by simp; omega) s t a b c d hne
  have s1 := h2.syms.getD (by omega) (numW K (u.drop (u.length - 2 * R2) ++ [s]))
  have s2 := h2.syms.getD (by omega) (numW K (u.drop (u.length - 2 * R2) ++ [t]))
  exact w1 (imgP K R2 T2 u) (imgP_syms hk h2.syms) (by rw [imgP_length]; omega) _ _ s1.1 s1.2 s2.1 s2.2 hne2
theorem behind_sides {K R1 R2 : Nat} {T1 T2 : List Int} (h1 : RuleOk K R1 T1) (h2 : RuleOk K R2 T2) (hR : R1 + R2 ≤ 3) :
    (unlikeP K T1 (T1.length / K) = true → unlikeP K T2 (T2.length / K) = true → unlikeP K (behindT K R1 T1 R2 T2) ((behindT K R1 T1 R2 T2).length / K) = true) ∧
    (unlikeP K T1 1 = true → unlikeP K T2 1 = true → unlikeP K (behindT K R1 T1 R2 T2) 1 = true) := by
  have hb := behindT_ok (T2 := T2) h1 hR
  rw [unlike_leftW h1, unlike_leftW h2, unlike_leftW hb, unlike_rightW h1, unlike_rightW h2, unlike_rightW hb]
  exact ⟨behind_left h1 h2, behind_right h1 h2⟩
end Go.Proofs.YtmhiambkfdkkbaaGreatDoor

namespace Go.Proofs.YtmhiambkfdkkbaaGreatDoor

/-- What goes on from a node. -/
def compl (K N : Nat) (T : List Int) : Nat → List Int → List (List Int)
  | _, [] => [[]]
  | node, y :: ws => (List.range K).flatMap fun s => if T.getD (node * K + s) 0 = y then (compl K N T ((node * K + s) % N) ws).map (fun c => (s : Int) :: c) else []
/-- By the first t symbols. -/
def complU (K N : Nat) (T : List Int) (node : Nat) (y : Int) (ws : List Int) (t : Nat) : List (List Int) :=
  (List.range t).flatMap fun s => if T.getD (node * K + s) 0 = y then (compl K N T ((node * K + s) % N) ws).map (fun c => (s : Int) :: c) else []
theorem compl_cons (K N : Nat) (T : List Int) (node : Nat) (y : Int) (ws : List Int) : compl K N T node (y :: ws) = complU K N T node y ws K := rfl
theorem complU_succ (K N : Nat) (T : List Int) (node : Nat) (y : Int) (ws : List Int) (t : Nat) :
    complU K N T node y ws (t + 1) = complU K N T node y ws t ++ if T.getD (node * K + t) 0 = y then (compl K N T ((node * K + t) % N) ws).map (fun c => (t : Int) :: c) else [] := by
  simp [complU, List.range_succ]

theorem flatMap_one {α : Type} (K : Nat) (g : Nat → List α) (s : Nat) (hs : s < K) (h : ∀ t, t < K → t ≠ s → g t = []) : (List.range K).flatMap g = g s := by
  induction K with
  | zero => omega
  | succ K ih =>
    rw [List.range_succ, List.flatMap_append, List.flatMap_singleton]
    by_cases e : s = K
    · subst e
      have : (List.range s).flatMap g = [] := List.flatMap_eq_nil_iff.2 fun t ht => h t (by have := List.mem_range.1 ht; omega) (by have := List.mem_range.1 ht; omega)
      rw [this, List.nil_append]
    · rw [ih (by omega) (fun t ht hne => h t (by omega) hne), h K (by omega) (fun e2 => e e2.symm), List.append_nil]

/-- Where the last place permutes just one word goes on. -/
theorem compl_one {K R : Nat} {T : List Int} (h : RuleOk K R T) (hp : unlikeP K T 1 = true) (ws : List Int) (hw : Syms K ws) (node : Nat) (hn : node < pw K (2 * R)) : (compl K (pw K (2 * R)) T node ws).length = 1 := by
  have h1 := h.k1
  induction ws generalizing node with
  | nil => rfl
  | cons y ws ih =>
    have hy := hw y (by simp)
    have hl := h.half.2
    have hf := unlikeP_full hp (node * K) (by rw [hl]; exact Nat.mul_lt_mul_of_pos_right hn (by omega)) (by rw [Nat.div_one, Nat.mul_mod_left])
    obtain ⟨s, hs, he⟩ := fullP_all h1 h.syms hf y.toNat (by omega)
    rw [Nat.mul_one] at he
    have hinj := (fullP_iff h1 h.k4 h.syms 1 _).1 hf
    rw [compl, flatMap_one K _ s hs]
    · rw [if_pos (by omega), List.length_map]
      exact ih (fun x hx => hw x (by simp [hx])) _ (Nat.mod_lt _ (pw_pos _ h1))
    · intro t ht hne
      rw [if_neg]
      intro e
      rcases Nat.lt_or_ge s t with hst | hst
      · have := hinj s t hst ht; rw [Nat.mul_one, Nat.mul_one] at this; exact this (by omega)
      · have := hinj t s (by omega) hs; rw [Nat.mul_one, Nat.mul_one] at this; exact this (by omega)

/-- All preimages, begin by begin. -/
def allBefore (K R : Nat) (T ws : List Int) (n : Nat) : List (List Int) := (List.range n).flatMap fun node => (compl K (pw K (2 * R)) T node ws).map fun c => digs K (2 * R) node ++ c
theorem allBefore_succ (K R : Nat) (T ws : List Int) (n : Nat) : allBefore K R T ws (n + 1) = allBefore K R T ws n ++ (compl K (pw K (2 * R)) T n ws).map fun c => digs K (2 * R) n ++ c := by
  simp [allBefore, List.range_succ]

/-- How many begin so. -/
def begins (n : Nat) (ends l : List Int) : Bool := decide (n ≤ l.length) && decide (l.take n = ends)
theorem begins_count {K R : Nat} {T : List Int} (h : RuleOk K R T) (hp : unlikeP K T 1 = true) (ws ends : List Int) (hw : Syms K ws) (he : Syms K ends) (hl : ends.length = 2 * R) :
    ((allBefore K R T ws (pw K (2 * R))).filter (begins (2 * R) ends)).length = 1 := by
  have h1 := h.k1
  have hlt := numW_lt ends he
  rw [hl] at hlt
  have hb : ∀ node, node < pw K (2 * R) → ∀ c, begins (2 * R) ends (digs K (2 * R) node ++ c) = decide (node = numW K ends) := fun node hn c => by
    have e1 : (digs K (2 * R) node ++ c).take (2 * R) = digs K (2 * R) node := List.take_left' (digs_length ..)
    rw [begins, e1, Bool.eq_iff_iff]
    simp only [List.length_append, digs_length, Bool.and_eq_true, decide_eq_true_eq]
    constructor
    · rintro ⟨_, e⟩; rw [← e, numW_digs h1 _ _ hn]
    · rintro rfl
      refine ⟨by omega, ?_⟩
      have := digs_numW h1 ends he
      rwa [hl] at this
  have hf : (allBefore K R T ws (pw K (2 * R))).filter (begins (2 * R) ends) = (compl K (pw K (2 * R)) T (numW K ends) ws).map fun c => digs K (2 * R) (numW K ends) ++ c := by
    rw [allBefore, List.filter_flatMap, flatMap_one _ _ (numW K ends) hlt]
    · refine List.filter_eq_self.2 fun l hl => ?_
      obtain ⟨c, _, rfl⟩ := List.mem_map.1 hl
      rw [hb _ hlt]; simp
    · intro t ht hne
      refine List.filter_eq_nil_iff.2 fun l hl => ?_
      obtain ⟨c, _, rfl⟩ := List.mem_map.1 hl
      rw [hb _ ht]; simpa using hne
  rw [hf, List.length_map]
  exact compl_one h hp ws hw _ hlt

/-- The next word: the last symbols, all K - 1, become 0; the one ahead of them is one more. -/
theorem numW_rep_max {K : Nat} (hK : 1 ≤ K) (j : Nat) : numW K (List.replicate j ((K : Int) - 1)) + 1 = pw K j := by
  induction j with
  | zero => rfl
  | succ j ih =>
    rw [List.replicate_succ', numW_snoc, pw_succ, ← ih]
    have : ((K : Int) - 1).toNat = K - 1 := by omega
    rw [this, Nat.add_mul]
    omega
theorem numW_rep_zero (K j : Nat) : numW K (List.replicate j 0) = 0 := by
  induction j with
  | zero => rfl
  | succ j ih => rw [List.replicate_succ', numW_snoc, ih]; simp
theorem next_word {K n x : Nat} (hK : 1 ≤ K) (hx : x < pw K n) (u : List Int) (a : Int) (j : Nat) (h : digs K n x = u ++ [a] ++ List.replicate j ((K : Int) - 1)) (ha : a < (K : Int) - 1) :
    digs K n (x + 1) = u ++ [a + 1] ++ List.replicate j 0 := by
  have hs := digs_syms hK n x
  have hl := congrArg List.length h
  have hn := congrArg (numW K) h
  rw [digs_length] at hl
  rw [numW_digs hK _ _ hx, numW_append, List.length_replicate, numW_snoc] at hn
  rw [h] at hs
  have hu : Syms K u := fun y hy => hs y (by simp [hy])
  have ha0 := hs a (by simp)
  have hw : Syms K (u ++ [a + 1] ++ List.replicate j 0) := by
    intro y hy
    rcases List.mem_append.1 hy with hy | hy
    · exact syms_snoc (by omega) (by omega) hu y hy
    · have := List.eq_of_mem_replicate hy; omega
  have e := digs_numW hK _ hw
  have hlen : (u ++ [a + 1] ++ List.replicate j 0).length = n := by simp at hl ⊢; omega
  rw [hlen] at e
  rw [← e]
  congr 1
  rw [numW_append, List.length_replicate, numW_snoc, numW_rep_zero, show (a + 1).toNat = a.toNat + 1 by omega, ← Nat.add_assoc, Nat.add_mul (numW K u * K + a.toNat)]
  have := numW_rep_max hK j
  omega
theorem digs_last {K n x : Nat} (hK : 1 ≤ K) (hx : x < pw K n) (h : digs K n x = List.replicate n ((K : Int) - 1)) : x + 1 = pw K n := by
  have hn := congrArg (numW K) h
  rw [numW_digs hK _ _ hx] at hn
  rw [hn, numW_rep_max hK]
theorem digs_zero (K n : Nat) : digs K n 0 = List.replicate n 0 := by
  induction n with
  | zero => rfl
  | succ n ih => rw [digs, Nat.zero_div, ih, List.replicate_succ']; simp
end Go.Proofs.YtmhiambkfdkkbaaGreatDoor

namespace Go.Proofs.YtmhiambkfdkkbaaGreatDoor
open Go.RowKit
set_option maxRecDepth 100000

theorem word_check1 (x k : Int) (b : Addr) (w : World) (hb : w.cell? b = some (.int .i64 k)) :
    Calls Tryz.prog 166 #[.int .i64 x, .pointer (some b)] w fun e w' => e = .returned (.bool (odd1 k x)) ∧ w = w' := by
  by_cases h : x < 0
  · have e : odd1 k x = true := by simp [odd1, h]
    rw [e]
    go_enter Tryz.func166, Tryz.ntmps166
    go_wp2
    go_ret
    exact ⟨rfl, rfl⟩
  · have e : odd1 k x = decide (k ≤ x) := by simp [odd1, h]
    rw [e]
    go_enter Tryz.func166, Tryz.ntmps166
    go_wp2
    go_ret
    exact ⟨ret_bool (by simp), rfl⟩
theorem eg_word_check1 (args : Array Value) (w : World) : (callFunc 166 args).run Tryz.prog w = .ok (.enter 166 args) w := by kernel_rfl

theorem word_alphabet (K : Nat) (w : World) (h1 : 1 ≤ K) (h4 : K ≤ 4) :
    Calls Tryz.prog 165 #[.int .i64 K] w fun e w' => e = .returned (.bool true) ∧ w = w' := by
  go_enter Tryz.func165, Tryz.ntmps165
  go_wp2
  go_ret
  exact ⟨ret_bool (by simp; omega), rfl⟩

theorem word_check (K : Nat) (v : Value) (xs : List Int) (w : World) (h : IntsAt w v xs) (h1 : 1 ≤ K) (h4 : K ≤ 4) (hs : Syms K xs) (hl : xs.length ≤ 4096) :
    Calls Tryz.prog 124 #[.int .i64 K, v] w (Ret1 (fun x _ => x = .nilIface) w) := by
  have hb0 := belowAlloc w (.cells #[.int .i64 K] 3)
  have l1 := h.len
  obtain ⟨a1, n1, c1, rfl⟩ := h.shape
  replace h := Lib.hid (h.below hb0)
  have hodd := Lib.hid hs.odd
  replace hs := Lib.hid hs
  go_enter Tryz.func124, Tryz.ntmps124
  go_wp2_with fail
  refine (word_alphabet K _ h1 h4).mono ?_
  rintro e w' ⟨rfl, rfl⟩
  go_wp2_with fail
  refine (indexFunc_any _ _ 166 xs (odd1 K) _ h.out eg_word_check1 (fun x _ => word_check1 x K _ _ (by simp))).mono ?_
  rintro e w' ⟨rfl, rfl⟩
  rw [hodd.out]
  go_wp2
  go_ret
  exact ⟨_, rfl, hb0, rfl⟩

theorem set_here (u : List Int) (a y : Int) (r : List Int) : (u ++ [a] ++ r).set u.length y = u ++ [y] ++ r := by
  rw [List.append_assoc, List.set_append_right _ _ (by omega)]; simp

set_option maxHeartbeats 1000000 in
theorem word_next (K : Nat) (v : Value) (D : List Int) (w : World) (h : IntsAt w v D) (h1 : 1 ≤ K) (h4 : K ≤ 4) (hs : Syms K D) (hl : D.length ≤ 4000) :
    Calls Tryz.prog 73 #[.int .i64 K, v] w (Ret2 (fun o y w' => y = .nilIface ∧ ∃ zs, OwnI w.heap.size w' o zs ∧
      ((∃ u a j, D = u ++ [a] ++ List.replicate j ((K : Int) - 1) ∧ a < (K : Int) - 1 ∧ zs = u ++ [a + 1] ++ List.replicate j 0) ∨ D = List.replicate D.length ((K : Int) - 1))) w) := by
  have l1 := h.len
  have lm := h.len_le
  replace h := Lib.hid h
  replace hs := Lib.hid hs
  go_enter Tryz.func73, Tryz.ntmps73
  go_wp2_with fail
  refine (word_check K v D w h.out h1 h4 hs.out (by omega)).mono ?_
  rintro e w1 ⟨_, rfl, b1, rfl⟩
  go_wp2_with fail
  refine (clone_any v D _ (h.out.below b1) (by omega)).mono ?_
  rintro e w2 ⟨ov, rfl, b2, ho⟩
  have lo := ho.at.len
  replace ho := Lib.hid ho
  have hb2 := Below.step b1 b2
  go_wp2
  go_loopw [8] (fun i wr => ∃ m : Nat, m ≤ D.length ∧ i = .int .i64 ((m : Int) - 1) ∧ D.drop m = List.replicate (D.length - m) ((K : Int) - 1) ∧ OwnI w1.heap.size wr ov (D.take m ++ List.replicate (D.length - m) 0) ∧ Below w1.heap.size w1 wr) (fun i _ => (intOf i + 1).toNat)
  case atStart => exact ⟨D.length, by omega, rfl, by simp, by simpa using ho.out, b2⟩
  case round =>
    obtain ⟨m, hm, rfl, hd, hO, hbO⟩ := hrel
    obtain ⟨wo, rfl⟩ : ∃ wo : World, wo = wr := ⟨_, rfl⟩
    cases m with
    | zero =>
      rw [show ((0 : Nat) : Int) - 1 = -1 from rfl]
      rw [List.drop_zero, Nat.sub_zero] at hd
      replace hd := Lib.hid hd
      replace hO := Lib.hid hO
      obtain ⟨v3, w3, hmk, ho3, b3⟩ := run_makeI ((D.length : Int) + 1) (D.length + 1) wo (by omega) (by omega)
      have hne : ((D.length : Int) == 4096) = false := by rw [beq_eq_false_iff_ne]; omega
      go_wp2
      go_ret2
      exact ⟨_, _, rfl, Below.step b1 (hbO.trans (b3.mono hbO.size)), rfl, _, ho3.mono (Nat.le_trans b1.size hbO.size), .inr hd.out⟩
    | succ m =>
      rw [show ((m + 1 : Nat) : Int) - 1 = (m : Int) by omega]
      have hml : m < D.length := by omega
      have htk := take_snoc D m hml
      have hol : m < (D.take (m + 1) ++ List.replicate (D.length - (m + 1)) (0 : Int)).length := by simp; omega
      have i1 := hO.at.idx m hol
      have c1 := hO.at.cell m hol
      have f1 := hO.frz m hol
      have hx := hs.out D[m] (by simp)
      have hge : (D.take (m + 1) ++ List.replicate (D.length - (m + 1)) (0 : Int))[m] = D[m] := by
        rw [List.getElem_append_left (by simp; omega), List.getElem_take]
      rw [hge] at c1
      have hul : (D.take m).length = m := by simp; omega
      have hset : ∀ y, (D.take (m + 1) ++ List.replicate (D.length - (m + 1)) (0 : Int)).set m y = D.take m ++ [y] ++ List.replicate (D.length - (m + 1)) 0 := by
        intro y
        have := set_here (D.take m) D[m] y (List.replicate (D.length - (m + 1)) 0)
        rw [htk, ← this, hul]
      have hDu : D = D.take m ++ [D[m]] ++ List.replicate (D.length - (m + 1)) ((K : Int) - 1) := by
        rw [← hd, ← htk, List.take_append_drop]
      have hd' : D.drop m = D[m] :: List.replicate (D.length - (m + 1)) ((K : Int) - 1) := by
        rw [← hd]; exact List.drop_eq_getElem_cons hml
      generalize D[m] = x at c1 hx hDu hd'
      have hO1 := hO.set m hol (x + 1)
      have hb1 := hO.setBelow hbO m hol (.int .i64 (x + 1))
      have hO0 := hO.set m hol 0
      have hb0 := hO.setBelow hbO m hol (.int .i64 0)
      rw [hset] at hO1 hO0
      replace hset := Lib.hid hset
      replace hO := Lib.hid hO
      replace hO1 := Lib.hid hO1
      replace hO0 := Lib.hid hO0
      replace hDu := Lib.hid hDu
      replace hd' := Lib.hid hd'
      replace hd := Lib.hid hd
      clear htk hge hul
      by_cases hlt : x < (K : Int) - 1
      · go_wp2
        go_ret2
        exact ⟨_, _, rfl, Below.step b1 hb1, rfl, _, hO1.out.mono b1.size, .inl ⟨_, _, _, hDu.out, hlt, rfl⟩⟩
      · obtain rfl : x = (K : Int) - 1 := by omega
        go_wp2
        go_roundw
        case rel =>
          have e : D.length - m = D.length - (m + 1) + 1 := by omega
          refine ⟨m, by omega, by go_num, ?_, ?_, hb0⟩
          · rw [hd'.out, e, List.replicate_succ]
          · rw [e, List.replicate_succ]; simpa using hO0.out
        case measure => simp [intOf]

/-- At a number's word. -/
theorem word_next_digs (K n x : Nat) (v : Value) (w : World) (h : IntsAt w v (digs K n x)) (h1 : 1 ≤ K) (h4 : K ≤ 4) (hn : n ≤ 4000) (hx : x < pw K n) :
    Calls Tryz.prog 73 #[.int .i64 K, v] w (Ret2 (fun o y w' => y = .nilIface ∧ ∃ zs, OwnI w.heap.size w' o zs ∧ (x + 1 < pw K n → zs = digs K n (x + 1))) w) := by
  refine (word_next K v _ w h h1 h4 (digs_syms h1 n x) (by rw [digs_length]; exact hn)).mono ?_
  rintro e w' ⟨o, y, rfl, hb, rfl, zs, ho, hz⟩
  refine ⟨_, _, rfl, hb, rfl, zs, ho, fun hlt => ?_⟩
  rcases hz with ⟨u, a, j, e1, ha, rfl⟩ | e1
  · exact (next_word h1 hx u a j e1 ha).symm
  · rw [digs_length] at e1
    have := digs_last h1 hx e1
    omega
end Go.Proofs.YtmhiambkfdkkbaaGreatDoor

namespace Go.Proofs.YtmhiambkfdkkbaaGreatDoor
open Go.RowKit
set_option maxRecDepth 100000

def sOverlap : ByteArray := ⟨#[111, 118, 101, 114, 108, 97, 112]⟩
/-- rule.Small's answer. -/
def smallP (k R : Int) (T : List Int) : PErr :=
  match checkP k R T with
  | some t => some t
  | none => if 256 < T.length then fresh sRule 0 4 else none
theorem smallP_ok {K R : Nat} {T : List Int} (h : RuleOk K R T) : smallP K R T = if 256 < T.length then fresh sRule 0 4 else none := by
  unfold smallP; rw [h.check]
theorem smallP_none {k R : Int} {T : List Int} (h : smallP k R T = none) : checkP k R T = none ∧ T.length ≤ 256 := by
  unfold smallP at h
  cases hc : checkP k R T with
  | some t => rw [hc] at h; cases h
  | none =>
    rw [hc] at h
    refine ⟨rfl, ?_⟩
    by_cases hl : 256 < T.length
    · rw [if_pos hl] at h; simp [fresh] at h
    · omega

theorem small_any (r : Nat → Addr) (k R : Int) (va : Option Addr) (vn vc : Nat) (T : List Int) (w : World) (hg : Glob r w) (h : IntsAt w (.slice va vn vc) T) :
    Calls Tryz.prog 47 #[.agg #[.int .i64 k, .int .i64 R, .slice va vn vc]] w (Ret1 (fun x w' => ErrIs r w' (smallP k R T) x) w) := by
  have b0 := belowAlloc w (.cells #[.int .i64 k, .int .i64 R, .slice va vn vc] 24)
  have q : Box3 (w.alloc (.cells #[.int .i64 k, .int .i64 R, .slice va vn vc] 24)) w.heap.size (.int .i64 k) (.int .i64 R) (.slice va vn vc) := by simp [Box3, go_sem]
  have lT := h.len
  replace hg := Lib.hid (hg.below b0)
  replace h := Lib.hid (h.below b0)
  obtain ⟨e0, hsm, he0⟩ : ∃ e0, (smallP k R T = match e0 with | some t => some t | none => if 256 < T.length then fresh sRule 0 4 else none) ∧ checkP k R T = e0 := ⟨_, rfl, rfl⟩
  replace he0 := Lib.hid he0
  go_enter Tryz.func47, Tryz.ntmps47
  go_wp2_with fail
  refine (check_any r k R _ T _ hg.out h.out).mono ?_
  rintro e w1 ⟨x, rfl, b1, he⟩
  rw [he0.out] at he
  cases e0 with
  | some t =>
    simp only [] at hsm
    replace hsm := Lib.hid hsm
    obtain ⟨T1, a1, rfl⟩ := ErrIs.some_shape he
    replace he := Lib.hid he
    go_wp2
    go_ret
    exact ⟨_, rfl, Below.step b0 b1, by rw [hsm.out]; exact he.out⟩
  | none =>
    obtain rfl := he.none_eq
    simp only [] at hsm
    clear he
    obtain ⟨⟨z0, z1, z2⟩, -, -, -⟩ := q.below b1
    by_cases hl : 256 < T.length
    · rw [if_pos hl] at hsm
      replace hsm := Lib.hid hsm
      go_wp2_with fail
      refine (rule_wrong r _ _ _ (hg.out.below b1) (by decide) (by decide)).mono ?_
      rintro e w2 ⟨x, rfl, b2, he⟩
      go_wp2
      go_ret
      exact ⟨_, rfl, Below.step b0 (Below.step b1 b2), by rw [hsm.out]; exact he⟩
    · rw [if_neg hl] at hsm
      replace hsm := Lib.hid hsm
      go_wp2
      go_ret
      exact ⟨_, rfl, Below.step b0 b1, by rw [hsm.out]; rfl⟩

theorem over_small (r : Nat → Addr) (k R : Int) (va : Option Addr) (vn vc : Nat) (T : List Int) (w : World) (hg : Glob r w) (h : IntsAt w (.slice va vn vc) T) :
    Calls Tryz.prog 115 #[.agg #[.int .i64 k, .int .i64 R, .slice va vn vc]] w (Ret1 (fun x w' => ErrIs r w' (under sOverlap 0 (smallP k R T)) x) w) := by
  have b0 := belowAlloc w (.cells #[.int .i64 k, .int .i64 R, .slice va vn vc] 24)
  replace hg := Lib.hid (hg.below b0)
  replace h := Lib.hid (h.below b0)
  go_enter Tryz.func115, Tryz.ntmps115
  go_wp2_with fail
  refine (small_any r k R va vn vc T _ hg.out h.out).mono ?_
  rintro e w1 ⟨x, rfl, b1, he⟩
  go_wp2_with fail
  refine (under_any r _ 0 _ x _ he).mono ?_
  rintro e w2 ⟨y, rfl, b2, hy⟩
  go_wp2
  go_ret
  exact ⟨_, rfl, Below.step b0 (Below.step b1 b2), hy⟩

theorem over_wrong (r : Nat → Addr) (at_ n : Int) (w : World) (hg : Glob r w) (h1 : 1 ≤ n) (h2 : n ≤ 11) :
    Calls Tryz.prog 127 #[.int .i64 at_, .int .i64 n] w (Ret1 (fun v w' => ErrIs r w' (fresh sOverlap at_ n) v) w) := by
  go_enter Tryz.func127, Tryz.ntmps127
  go_wp2_with fail
  refine (new_any r _ at_ n w hg h1 h2).mono ?_
  rintro e w' ⟨v, rfl, hb, he⟩
  go_wp2
  go_ret
  exact ⟨_, rfl, hb, he⟩

theorem over_nodes (K R : Nat) (va : Option Addr) (vn vc : Nat) (T : List Int) (w : World) (h : IntsAt w (.slice va vn vc) T) (h1 : 1 ≤ K) (hT : T.length ≤ 16384) :
    Calls Tryz.prog 116 #[.agg #[.int .i64 K, .int .i64 R, .slice va vn vc]] w fun e w' => e = .returned (.int .i64 ((T.length / K : Nat) : Int)) ∧ w' = w.alloc (.cells #[.int .i64 K, .int .i64 R, .slice va vn vc] 24) := by
  have hK0 : ((K : Int) == 0) = false := by rw [beq_eq_false_iff_ne]; omega
  have hK1 : ¬ (K : Int) = 0 := by omega
  have hK2 : (0 : Int) < K := by omega
  have hK3 : ¬ K = 0 := by omega
  have lT := h.len
  have hq0 : 0 ≤ (T.length : Int) / (K : Int) := Int.ediv_nonneg (by omega) (by omega)
  have hqc : (T.length : Int) / (K : Int) = ((T.length / K : Nat) : Int) := by simp
  have hqw : IntKind.i64.wrap ((T.length : Int) / (K : Int)) = (T.length : Int) / (K : Int) := by
    have : T.length / K ≤ 16384 := Nat.le_trans (Nat.div_le_self _ _) hT
    exact wrapK (by omega) (by rw [hqc]; omega)
  rw [← hqc]
  replace hqc := Lib.hid hqc
  go_enter Tryz.func116, Tryz.ntmps116
  go_wp2
  go_ret
  exact ⟨rfl, rfl⟩

theorem over_check1 (x k : Int) (b : Nat) (w : World) (hb : w.cell? ⟨b, 0, none⟩ = some (.int .i64 k)) :
    Calls Tryz.prog 167 #[.int .i64 x, .pointer (some ⟨b, 0, none⟩)] w fun e w' => e = .returned (.bool (odd1 k x)) ∧ w = w' := by
  by_cases h : x < 0
  · have e : odd1 k x = true := by simp [odd1, h]
    rw [e]
    go_enter Tryz.func167, Tryz.ntmps167
    go_wp2
    go_ret
    exact ⟨rfl, rfl⟩
  · have e : odd1 k x = decide (k ≤ x) := by simp [odd1, h]
    rw [e]
    go_enter Tryz.func167, Tryz.ntmps167
    go_wp2
    go_ret
    exact ⟨ret_bool (by simp), rfl⟩
theorem eg_over_check1 (args : Array Value) (w : World) : (callFunc 167 args).run Tryz.prog w = .ok (.enter 167 args) w := by kernel_rfl

/-- overlap.check's answer. -/
def overP (k R : Int) (T ws : List Int) (most : Int) : PErr :=
  match smallP k R T with
  | some t => under sOverlap 0 (some t)
  | none => if most < ws.length then fresh sOverlap 1 4 else if idxOf (odd1 k) ws = -1 then none else fresh sOverlap (idxOf (odd1 k) ws) 2

set_option maxHeartbeats 1000000 in
theorem over_check (r : Nat → Addr) (k R : Int) (va : Option Addr) (vn vc : Nat) (T : List Int) (u : Value) (ws : List Int) (most : Int) (w : World) (hg : Glob r w) (h : IntsAt w (.slice va vn vc) T) (hu : IntsAt w u ws) :
    Calls Tryz.prog 129 #[.agg #[.int .i64 k, .int .i64 R, .slice va vn vc], u, .int .i64 most] w (Ret1 (fun x w' => ErrIs r w' (overP k R T ws most) x) w) := by
  have b0 := belowAlloc w (.cells #[.int .i64 k, .int .i64 R, .slice va vn vc] 24)
  have q : Box3 (w.alloc (.cells #[.int .i64 k, .int .i64 R, .slice va vn vc] 24)) w.heap.size (.int .i64 k) (.int .i64 R) (.slice va vn vc) := by simp [Box3, go_sem]
  have l1 := hu.len
  have lm := hu.len_le
  obtain ⟨a1, n1, c1, rfl⟩ := hu.shape
  replace hg := Lib.hid (hg.below b0)
  replace h := Lib.hid (h.below b0)
  replace hu := Lib.hid (hu.below b0)
  obtain ⟨e0, hsm, he0⟩ : ∃ e0, (overP k R T ws most = match e0 with | some t => under sOverlap 0 (some t) | none => if most < ws.length then fresh sOverlap 1 4 else if idxOf (odd1 k) ws = -1 then none else fresh sOverlap (idxOf (odd1 k) ws) 2) ∧ smallP k R T = e0 := ⟨_, rfl, rfl⟩
  replace he0 := Lib.hid he0
  go_enter Tryz.func129, Tryz.ntmps129
  go_wp2_with fail
  refine (over_small r k R va vn vc T _ hg.out h.out).mono ?_
  rintro e w1 ⟨x, rfl, b1, he⟩
  rw [he0.out] at he
  cases e0 with
  | some t =>
    simp only [] at hsm
    replace hsm := Lib.hid hsm
    obtain ⟨T1, a1, rfl⟩ := ErrIs.some_shape he
    replace he := Lib.hid he
    go_wp2
    go_ret
    exact ⟨_, rfl, Below.step b0 b1, by rw [hsm.out]; exact he.out⟩
  | none =>
    obtain rfl := he.none_eq
    simp only [] at hsm
    clear he
    obtain ⟨⟨z0, z1, z2⟩, -, -, -⟩ := q.below b1
    by_cases hl : most < ws.length
    · rw [if_pos hl] at hsm
      replace hsm := Lib.hid hsm
      go_wp2_with fail
      refine (over_wrong r _ _ _ (hg.out.below b1) (by decide) (by decide)).mono ?_
      rintro e w2 ⟨x, rfl, b2, he⟩
      go_wp2
      go_ret
      exact ⟨_, rfl, Below.step b0 (Below.step b1 b2), by rw [hsm.out]; exact he⟩
    · rw [if_neg hl] at hsm
      rcases idxOf_cases (odd1 k) ws with ⟨hi, _⟩ | ⟨i, hi, hi', _⟩
      · rw [if_pos hi] at hsm
        replace hi := Lib.hid hi
        replace hsm := Lib.hid hsm
        go_wp2_with fail
        refine (indexFunc_any _ _ 167 ws (odd1 k) _ (hu.out.below b1) eg_over_check1 (fun x _ => over_check1 x k _ _ z0)).mono ?_
        rintro e w2 ⟨rfl, rfl⟩
        rw [hi.out]
        go_wp2
        go_ret
        exact ⟨_, rfl, Below.step b0 b1, by rw [hsm.out]; rfl⟩
      · rw [if_neg (by omega), hi] at hsm
        replace hi := Lib.hid hi
        replace hsm := Lib.hid hsm
        go_wp2_with fail
        refine (indexFunc_any _ _ 167 ws (odd1 k) _ (hu.out.below b1) eg_over_check1 (fun x _ => over_check1 x k _ _ z0)).mono ?_
        rintro e w2 ⟨rfl, rfl⟩
        rw [hi.out]
        go_wp2_with fail
        refine (over_wrong r _ _ _ (hg.out.below b1) (by decide) (by decide)).mono ?_
        rintro e w2 ⟨x, rfl, b2, he⟩
        go_wp2
        go_ret
        exact ⟨_, rfl, Below.step b0 (Below.step b1 b2), by rw [hsm.out]; exact he⟩
end Go.Proofs.YtmhiambkfdkkbaaGreatDoor

namespace Go.Proofs.YtmhiambkfdkkbaaGreatDoor

/-- There is a way. -/
inductive Goes (adj : Nat → List Nat) : Nat → Nat → Prop
  | refl (x : Nat) : Goes adj x x
  | step {x y z : Nat} (h : Goes adj x y) (hz : z ∈ adj y) : Goes adj x z
theorem Goes.one {adj : Nat → List Nat} {x y : Nat} (h : y ∈ adj x) : Goes adj x y := .step (.refl x) h
theorem Goes.trans {adj : Nat → List Nat} {x y z : Nat} (h : Goes adj x y) (h2 : Goes adj y z) : Goes adj x z := by
  induction h2 with
  | refl => exact h
  | step _ hz ih => exact .step ih hz
theorem Goes.closed {adj : Nat → List Nat} {P : Nat → Prop} (hP : ∀ x, P x → ∀ t ∈ adj x, P t) {x y : Nat} (h : Goes adj x y) (hx : P x) : P y := by
  induction h with
  | refl => exact hx
  | step _ hz ih => exact hP _ ih _ hz

/-- A function with one value changed. -/
def updN {α : Type} (f : Nat → α) (v : Nat) (a : α) : Nat → α := fun x => if x = v then a else f x
theorem updN_same {α : Type} (f : Nat → α) (v : Nat) (a : α) : updN f v a v = a := by simp [updN]
theorem updN_other {α : Type} (f : Nat → α) (v : Nat) (a : α) {x : Nat} (h : x ≠ v) : updN f v a x = f x := by simp [updN, h]
theorem updN_self {α : Type} (f : Nat → α) (v : Nat) : updN f v (f v) = f := by funext x; by_cases h : x = v <;> simp [updN, h]

/-- The search's state: tops at the head. -/
structure TS where
  time : Nat
  low : Nat → Nat
  found : Nat → Nat
  idx : Nat → Nat
  opn : List Nat
  part : Nat → Int
  calls : List Nat

def enterS (S : TS) (v : Nat) : TS := { S with time := S.time + 1, low := updN S.low v (S.time + 1), found := updN S.found v (S.time + 1), idx := updN S.idx v 0, opn := v :: S.opn, calls := v :: S.calls }
/-- A part is closed: the stack's vertices down to v. -/
def closeS (v : Nat) : List Nat → (Nat → Int) → List Nat × (Nat → Int)
  | [], p => ([], p)
  | t :: r, p => if t = v then (r, updN p t v) else closeS v r (updN p t v)
def lowS (low : Nat → Nat) (v : Nat) : List Nat → Nat → Nat
  | [] => low
  | u :: _ => updN low u (min (low u) (low v))
def leaveS (S : TS) (v : Nat) (r : List Nat) : TS :=
  if lowS S.low v r v = S.found v then { S with low := lowS S.low v r, calls := r, opn := (closeS v S.opn S.part).1, part := (closeS v S.opn S.part).2 }
  else { S with low := lowS S.low v r, calls := r }
/-- One round of the search. -/
def stepS (adj : Nat → List Nat) (S : TS) : TS :=
  match S.calls with
  | [] => S
  | v :: r =>
    if S.idx v = (adj v).length then leaveS S v r
    else
      let t := (adj v).getD (S.idx v) 0
      let S1 := { S with idx := updN S.idx v (S.idx v + 1) }
      if S.found t = 0 then enterS S1 t
      else if S.part t < 0 then { S1 with low := updN S.low v (min (S.low v) (S.found t)) }
      else S1

theorem stepS_nil {adj : Nat → List Nat} {S : TS} (hc : S.calls = []) : stepS adj S = S := by
  cases S; simp only at hc; subst hc; rfl
theorem stepS_cons {adj : Nat → List Nat} {S : TS} {v : Nat} {r : List Nat} (hc : S.calls = v :: r) : stepS adj S =
    if S.idx v = (adj v).length then leaveS S v r
    else if S.found ((adj v).getD (S.idx v) 0) = 0 then enterS { S with idx := updN S.idx v (S.idx v + 1) } ((adj v).getD (S.idx v) 0)
    else if S.part ((adj v).getD (S.idx v) 0) < 0 then { S with idx := updN S.idx v (S.idx v + 1), low := updN S.low v (min (S.low v) (S.found ((adj v).getD (S.idx v) 0))) }
    else { S with idx := updN S.idx v (S.idx v + 1) } := by
  cases S; simp only at hc; subst hc; rfl

/-- The weights of the vertices not yet found. -/
def wsum (c found : Nat → Nat) : Nat → Nat
  | 0 => 0
  | n + 1 => wsum c found n + if found n = 0 then c n else 0
theorem wsum_upd (c found : Nat → Nat) (t a : Nat) (ha : a ≠ 0) (ht : found t = 0) (n : Nat) :
    wsum c (updN found t a) n + (if t < n then c t else 0) = wsum c found n := by
  induction n with
  | zero => simp [wsum]
  | succ n ih =>
    simp only [wsum]
    by_cases e : n = t
    · subst e
      rw [if_neg (Nat.lt_irrefl n)] at ih
      rw [updN_same, if_neg ha, if_pos ht, if_pos (by omega)]; omega
    · rw [updN_other _ _ _ e]
      by_cases h : t < n
      · rw [if_pos h] at ih; rw [if_pos (show t < n + 1 by omega)]; omega
      · rw [if_neg h] at ih; rw [if_neg (show ¬ t < n + 1 by omega)]; omega

structure TInv (n : Nat) (adj : Nat → List Nat) (S : TS) : Prop where
  adjLt : ∀ v, v < n → ∀ t ∈ adj v, t < n
  seenLt : ∀ v, S.found v ≠ 0 → v < n
  leTime : ∀ v, S.found v ≤ S.time
  count : S.time + wsum (fun _ => 1) S.found n = n
  inj : ∀ x y, S.found x = S.found y → S.found x ≠ 0 → x = y
  opnIff : ∀ v, v ∈ S.opn ↔ S.found v ≠ 0 ∧ S.part v < 0
  opnSorted : S.opn.Pairwise (fun a b => S.found b < S.found a)
  callsSorted : S.calls.Pairwise (fun a b => S.found b < S.found a)
  callsOpen : ∀ c ∈ S.calls, c ∈ S.opn
  idxLe : ∀ v, v ∈ S.opn → S.idx v ≤ (adj v).length
  idxDone : ∀ v, v ∈ S.opn → v ∉ S.calls → S.idx v = (adj v).length
  partSeen : ∀ v, 0 ≤ S.part v → S.found v ≠ 0
  partLow : ∀ v, -1 ≤ S.part v
  A : ∀ c ∈ S.calls, ∀ x ∈ S.opn, S.found c ≤ S.found x → Goes adj c x
  B : ∀ x ∈ S.opn, ∃ c ∈ S.calls, S.found c ≤ S.found x ∧ Goes adj x c
  C : ∀ x, 0 ≤ S.part x → ∀ t ∈ adj x, 0 ≤ S.part t
  D : ∀ x ∈ S.opn, ∀ j < S.idx x, ∀ t, (adj x)[j]? = some t → S.found t ≠ 0
  E : ∀ x ∈ S.opn, ∀ j < S.idx x, ∀ t ∈ S.opn, (adj x)[j]? = some t → ∀ c ∈ S.calls, S.found c ≤ S.found x →
        (∀ d ∈ S.calls, S.found d ≤ S.found x → S.found d ≤ S.found c) → S.low c ≤ S.found t
  F : ∀ c ∈ S.calls, S.low c ≤ S.found c
  G : ∀ c ∈ S.calls, ∃ z ∈ S.opn, S.found z = S.low c ∧ Goes adj c z
  P1 : ∀ x, 0 ≤ S.part x → ∃ p : Nat, S.part x = p ∧ 0 ≤ S.part p ∧ Goes adj x p ∧ Goes adj p x
  P2 : ∀ x y, 0 ≤ S.part x → 0 ≤ S.part y → Goes adj x y → Goes adj y x → S.part x = S.part y

variable {n : Nat} {adj : Nat → List Nat} {S : TS}

theorem TInv.callsSeen (h : TInv n adj S) {c : Nat} (hc : c ∈ S.calls) : S.found c ≠ 0 ∧ S.part c < 0 := (h.opnIff c).1 (h.callsOpen c hc)
/-- Nothing is open when nothing is called. -/
theorem TInv.opn_nil (h : TInv n adj S) (hc : S.calls = []) : S.opn = [] := by
  cases e : S.opn with
  | nil => rfl
  | cons x l =>
    obtain ⟨c, hm, _⟩ := h.B x (by rw [e]; exact List.mem_cons_self)
    rw [hc] at hm; cases hm

/-- A root is begun. -/
theorem TInv.enterRoot (h : TInv n adj S) (hc : S.calls = []) {v : Nat} (hv : v < n) (hw : S.found v = 0) : TInv n adj (enterS S v) := by
  have ho := h.opn_nil hc
  have hp : S.part v < 0 := by
    by_cases hp : S.part v < 0
    · exact hp
    · exact absurd hw (h.partSeen v (by omega))
  have hcnt := wsum_upd (fun _ => 1) S.found v (S.time + 1) (by omega) hw n
  rw [if_pos hv] at hcnt
  have hcl : ∀ x, 0 ≤ S.part x → x ≠ v := fun x hx e => by subst e; omega
  constructor
  case adjLt => exact h.adjLt
  case seenLt =>
    intro x hx
    by_cases e : x = v
    · omega
    · simp only [enterS, updN_other _ _ _ e] at hx; exact h.seenLt x hx
  case leTime =>
    intro x
    simp only [enterS]
    by_cases e : x = v
    · subst e; rw [updN_same]; omega
    · rw [updN_other _ _ _ e]; have := h.leTime x; omega
  case count => simp only [enterS]; have := h.count; omega
  case inj =>
    intro x y hxy hx
    simp only [enterS] at hxy hx
    by_cases ex : x = v <;> by_cases ey : y = v
    · omega
    · subst ex; rw [updN_same, updN_other _ _ _ ey] at hxy; have := h.leTime y; omega
    · subst ey; rw [updN_same, updN_other _ _ _ ex] at hxy; have := h.leTime x; omega
    · rw [updN_other _ _ _ ex, updN_other _ _ _ ey] at hxy; rw [updN_other _ _ _ ex] at hx; exact h.inj x y hxy hx
  case opnIff =>
    intro x
    simp only [enterS, ho, List.mem_singleton]
    by_cases e : x = v
    · subst e; rw [updN_same]; exact ⟨fun _ => ⟨by omega, hp⟩, fun _ => rfl⟩
    · rw [updN_other _ _ _ e]
      refine ⟨fun h1 => absurd h1 e, fun h1 => ?_⟩
      have := (h.opnIff x).2 h1; rw [ho] at this; cases this
  case opnSorted => simp only [enterS, ho]; exact List.pairwise_singleton _ _
  case callsSorted => simp only [enterS, hc]; exact List.pairwise_singleton _ _
  case callsOpen => intro c hc2; simp only [enterS, hc, ho] at hc2 ⊢; exact hc2
  case idxLe =>
    intro x hx; simp only [enterS, ho, List.mem_singleton] at hx ⊢; subst hx; rw [updN_same]; omega
  case idxDone => intro x hx hx2; simp only [enterS, hc, ho] at hx hx2; exact absurd hx hx2
  case partSeen =>
    intro x hx; simp only [enterS] at hx ⊢; rw [updN_other _ _ _ (hcl x hx)]; exact h.partSeen x hx
  case partLow => exact h.partLow
  case A =>
    intro c hc2 x hx _
    simp only [enterS, hc, ho, List.mem_singleton] at hc2 hx
    subst hc2; subst hx; exact .refl _
  case B =>
    intro x hx
    simp only [enterS, ho, List.mem_singleton] at hx
    subst hx; exact ⟨x, by simp [enterS], Nat.le_refl _, .refl _⟩
  case C => exact h.C
  case D =>
    intro x hx j hj; simp only [enterS, ho, List.mem_singleton] at hx hj; subst hx; rw [updN_same] at hj; omega
  case E =>
    intro x hx j hj; simp only [enterS, ho, List.mem_singleton] at hx hj; subst hx; rw [updN_same] at hj; omega
  case F =>
    intro c hc2; simp only [enterS, hc, List.mem_singleton] at hc2 ⊢; subst hc2; rw [updN_same, updN_same]; exact Nat.le_refl _
  case G =>
    intro c hc2; simp only [enterS, hc, List.mem_singleton] at hc2 ⊢; subst hc2; exact ⟨c, List.mem_cons_self, by rw [updN_same, updN_same], .refl _⟩
  case P1 => exact h.P1
  case P2 => exact h.P2

/-- An arrow to a vertex not yet found. -/
theorem TInv.enterEdge (h : TInv n adj S) {v : Nat} {r : List Nat} (hc : S.calls = v :: r) {t : Nat} (ht : (adj v)[S.idx v]? = some t) (hw : S.found t = 0) :
    TInv n adj (enterS { S with idx := updN S.idx v (S.idx v + 1) } t) := by
  have hvc : v ∈ S.calls := by rw [hc]; exact List.mem_cons_self
  have hvo := h.callsOpen v hvc
  have hvs := h.callsSeen hvc
  have hvn := h.seenLt v hvs.1
  have htm : t ∈ adj v := List.mem_of_getElem? ht
  have htn := h.adjLt v hvn t htm
  have hil : S.idx v < (adj v).length := by
    by_cases q : S.idx v < (adj v).length
    · exact q
    · rw [List.getElem?_eq_none (by omega)] at ht; cases ht
  have hp : S.part t < 0 := by
    by_cases hp : S.part t < 0
    · exact hp
    · exact absurd hw (h.partSeen t (by omega))
  have hcnt := wsum_upd (fun _ => 1) S.found t (S.time + 1) (by omega) hw n
  rw [if_pos htn] at hcnt
  have hcl : ∀ x, 0 ≤ S.part x → x ≠ t := fun x hx e => by subst e; omega
  have hop : ∀ x, x ∈ S.opn → x ≠ t := fun x hx e => by subst e; exact ((h.opnIff x).1 hx).1 hw
  have hca : ∀ x, x ∈ S.calls → x ≠ t := fun x hx => hop x (h.callsOpen x hx)
  have fo : ∀ x, x ∈ S.opn → updN S.found t (S.time + 1) x = S.found x := fun x hx => updN_other _ _ _ (hop x hx)
  have fc : ∀ x, x ∈ S.calls → updN S.found t (S.time + 1) x = S.found x := fun x hx => updN_other _ _ _ (hca x hx)
  have lc : ∀ x, x ∈ S.calls → updN S.low t (S.time + 1) x = S.low x := fun x hx => updN_other _ _ _ (hca x hx)
  have ft : updN S.found t (S.time + 1) t = S.time + 1 := updN_same _ _ _
  have lt : updN S.low t (S.time + 1) t = S.time + 1 := updN_same _ _ _
  have hgt : ∀ c ∈ S.calls, Goes adj c t := fun c hcm => by
    refine .step (h.A c hcm v hvo ?_) htm
    have := h.callsSorted
    rw [hc] at this hcm
    rcases List.mem_cons.1 hcm with e | e
    · rw [e]; exact Nat.le_refl _
    · exact Nat.le_of_lt ((List.pairwise_cons.1 this).1 c e)
  have ix : ∀ x, x ∈ S.opn → ∀ j, j < updN (updN S.idx v (S.idx v + 1)) t 0 x → j < S.idx x ∨ (x = v ∧ j = S.idx v) := fun x hx j hj => by
    rw [updN_other _ _ _ (hop x hx)] at hj
    by_cases e : x = v
    · subst e; rw [updN_same] at hj; omega
    · rw [updN_other _ _ _ e] at hj; exact .inl hj
  have mono : ∀ x, S.found x ≠ 0 → updN S.found t (S.time + 1) x ≠ 0 := fun x hx => by
    by_cases e : x = t
    · subst e; exact absurd hw hx
    · rw [updN_other _ _ _ e]; exact hx
  constructor
  case adjLt => exact h.adjLt
  case seenLt =>
    intro x hx
    by_cases e : x = t
    · omega
    · simp only [enterS, updN_other _ _ _ e] at hx; exact h.seenLt x hx
  case leTime =>
    intro x
    simp only [enterS]
    by_cases e : x = t
    · subst e; rw [updN_same]; omega
    · rw [updN_other _ _ _ e]; have := h.leTime x; omega
  case count => simp only [enterS]; have := h.count; omega
  case inj =>
    intro x y hxy hx
    simp only [enterS] at hxy hx
    by_cases ex : x = t <;> by_cases ey : y = t
    · omega
    · subst ex; rw [updN_same, updN_other _ _ _ ey] at hxy; have := h.leTime y; omega
    · subst ey; rw [updN_same, updN_other _ _ _ ex] at hxy; have := h.leTime x; omega
    · rw [updN_other _ _ _ ex, updN_other _ _ _ ey] at hxy; rw [updN_other _ _ _ ex] at hx; exact h.inj x y hxy hx
  case opnIff =>
    intro x
    simp only [enterS, List.mem_cons]
    by_cases e : x = t
    · subst e; rw [updN_same]; exact ⟨fun _ => ⟨by omega, hp⟩, fun _ => .inl rfl⟩
    · rw [updN_other _ _ _ e, ← h.opnIff x]
      exact ⟨fun h1 => h1.resolve_left e, .inr⟩
  case opnSorted =>
    simp only [enterS]
    refine List.pairwise_cons.2 ⟨fun x hx => ?_, h.opnSorted.imp_of_mem fun ha hb hab => ?_⟩
    · rw [fo x hx, ft]; have := h.leTime x; omega
    · rw [fo _ ha, fo _ hb]; exact hab
  case callsSorted =>
    simp only [enterS]
    refine List.pairwise_cons.2 ⟨fun x hx => ?_, h.callsSorted.imp_of_mem fun ha hb hab => ?_⟩
    · rw [fc x hx, ft]; have := h.leTime x; omega
    · rw [fc _ ha, fc _ hb]; exact hab
  case callsOpen =>
    intro c hc2; simp only [enterS, List.mem_cons] at hc2 ⊢; exact hc2.imp id (h.callsOpen c)
  case idxLe =>
    intro x hx; simp only [enterS, List.mem_cons] at hx ⊢
    rcases hx with rfl | hx
    · rw [updN_same]; omega
    · rw [updN_other _ _ _ (hop x hx)]
      by_cases e : x = v
      · subst e; rw [updN_same]; omega
      · rw [updN_other _ _ _ e]; exact h.idxLe x hx
  case idxDone =>
    intro x hx hx2; simp only [enterS, List.mem_cons, not_or] at hx hx2 ⊢
    have hx3 := hx.resolve_left hx2.1
    rw [updN_other _ _ _ hx2.1, updN_other _ _ _ (fun e => hx2.2 (by rw [e]; exact hvc))]
    exact h.idxDone x hx3 hx2.2
  case partSeen =>
    intro x hx; simp only [enterS] at hx ⊢; rw [updN_other _ _ _ (hcl x hx)]; exact h.partSeen x hx
  case partLow => exact h.partLow
  case A =>
    intro c hc2 x hx hle
    simp only [enterS, List.mem_cons] at hc2 hx hle
    rcases hc2 with rfl | hc2
    · rcases hx with rfl | hx
      · exact .refl _
      · rw [ft, fo x hx] at hle; have := h.leTime x; omega
    · rcases hx with rfl | hx
      · exact hgt c hc2
      · rw [fo x hx, fc c hc2] at hle; exact h.A c hc2 x hx hle
  case B =>
    intro x hx
    simp only [enterS, List.mem_cons] at hx
    rcases hx with rfl | hx
    · exact ⟨x, by simp [enterS], Nat.le_refl _, .refl _⟩
    · obtain ⟨c, h1, h2, h3⟩ := h.B x hx
      refine ⟨c, by simp only [enterS, List.mem_cons]; exact .inr h1, ?_, h3⟩
      simp only [enterS]; rw [fo x hx, fc c h1]; exact h2
  case C => exact h.C
  case D =>
    intro x hx j hj t' ht'
    simp only [enterS, List.mem_cons] at hx hj ⊢
    rcases hx with rfl | hx
    · rw [updN_same] at hj; omega
    · rcases ix x hx j hj with hj | ⟨rfl, rfl⟩
      · exact mono _ (h.D x hx j hj t' ht')
      · rw [ht] at ht'; cases ht'; rw [ft]; omega
  case E =>
    intro x hx j hj t' hto ht' c hc2 hle htop
    simp only [enterS, List.mem_cons] at hx hj hto hc2 hle htop ⊢
    rcases hx with rfl | hx
    · rw [updN_same] at hj; omega
    · rcases hc2 with rfl | hc2
      · rw [ft, fo x hx] at hle; have := h.leTime x; omega
      · rw [fc c hc2, fo x hx] at hle
        rw [lc c hc2]
        rcases hto with rfl | hto
        · rw [ft]; have := h.F c hc2; have := h.leTime c; omega
        · rw [fo _ hto]
          rcases ix x hx j hj with hj | ⟨rfl, rfl⟩
          · refine h.E x hx j hj t' hto ht' c hc2 hle fun d hd hd2 => ?_
            have := htop d (.inr hd) (by rw [fc d hd, fo x hx]; exact hd2)
            rwa [fc d hd, fc c hc2] at this
          · rw [ht] at ht'; cases ht'; exact absurd rfl (hop _ hto)
  case F =>
    intro c hc2; simp only [enterS, List.mem_cons] at hc2 ⊢
    rcases hc2 with rfl | hc2
    · rw [updN_same, updN_same]; exact Nat.le_refl _
    · rw [lc c hc2, fc c hc2]; exact h.F c hc2
  case G =>
    intro c hc2; simp only [enterS, List.mem_cons] at hc2 ⊢
    rcases hc2 with rfl | hc2
    · exact ⟨c, .inl rfl, by rw [updN_same, updN_same], .refl _⟩
    · obtain ⟨z, h1, h2, h3⟩ := h.G c hc2
      exact ⟨z, .inr h1, by rw [lc c hc2, fo z h1]; exact h2, h3⟩
  case P1 => exact h.P1
  case P2 => exact h.P2

/-- An arrow to a vertex that is found already. -/
theorem TInv.edge (h : TInv n adj S) {v : Nat} {r : List Nat} (hc : S.calls = v :: r) {t : Nat} (ht : (adj v)[S.idx v]? = some t) (hw : S.found t ≠ 0) (lo : Nat → Nat)
    (hlo : ∀ c, c ≠ v → lo c = S.low c) (hle : lo v ≤ S.low v) (hlt : S.part t < 0 → lo v ≤ S.found t) (hlg : lo v = S.low v ∨ (S.part t < 0 ∧ lo v = S.found t)) :
    TInv n adj { S with idx := updN S.idx v (S.idx v + 1), low := lo } := by
  have hvc : v ∈ S.calls := by rw [hc]; exact List.mem_cons_self
  have hvo := h.callsOpen v hvc
  have htm : t ∈ adj v := List.mem_of_getElem? ht
  have hil : S.idx v < (adj v).length := by
    by_cases q : S.idx v < (adj v).length
    · exact q
    · rw [List.getElem?_eq_none (by omega)] at ht; cases ht
  have lol : ∀ c, lo c ≤ S.low c := fun c => by
    by_cases e : c = v
    · rw [e]; exact hle
    · rw [hlo c e]; exact Nat.le_refl _
  have ix : ∀ x, ∀ j, j < updN S.idx v (S.idx v + 1) x → j < S.idx x ∨ (x = v ∧ j = S.idx v) := fun x j hj => by
    by_cases e : x = v
    · subst e; rw [updN_same] at hj; omega
    · rw [updN_other _ _ _ e] at hj; exact .inl hj
  constructor
  case adjLt => exact h.adjLt
  case seenLt => exact h.seenLt
  case leTime => exact h.leTime
  case count => exact h.count
  case inj => exact h.inj
  case opnIff => exact h.opnIff
  case opnSorted => exact h.opnSorted
  case callsSorted => exact h.callsSorted
  case callsOpen => exact h.callsOpen
  case idxLe =>
    intro x hx
    show updN S.idx v (S.idx v + 1) x ≤ _
    by_cases e : x = v
    · subst e; rw [updN_same]; omega
    · rw [updN_other _ _ _ e]; exact h.idxLe x hx
  case idxDone =>
    intro x hx hx2
    show updN S.idx v (S.idx v + 1) x = _
    rw [updN_other _ _ _ (fun e => hx2 (by rw [e]; exact hvc))]
    exact h.idxDone x hx hx2
  case partSeen => exact h.partSeen
  case partLow => exact h.partLow
  case A => exact h.A
  case B => exact h.B
  case C => exact h.C
  case D =>
    intro x hx j hj t' ht'
    rcases ix x j hj with hj | ⟨rfl, rfl⟩
    · exact h.D x hx j hj t' ht'
    · rw [ht] at ht'; cases ht'; exact hw
  case E =>
    intro x hx j hj t' hto ht' c hc2 hcx htop
    show lo c ≤ _
    rcases ix x j hj with hj | ⟨rfl, rfl⟩
    · exact Nat.le_trans (lol c) (h.E x hx j hj t' hto ht' c hc2 hcx htop)
    · rw [ht] at ht'; cases ht'
      have e : c = x := by
        have h1 := htop x hvc (Nat.le_refl _)
        exact h.inj c x (by have h2 : S.found c ≤ S.found x := hcx; have h3 : S.found x ≤ S.found c := h1; omega) (h.callsSeen hc2).1
      subst e
      exact hlt ((h.opnIff t).1 hto).2
  case F => intro c hc2; exact Nat.le_trans (lol c) (h.F c hc2)
  case G =>
    intro c hc2
    show ∃ z ∈ S.opn, S.found z = lo c ∧ _
    by_cases e : c = v
    · subst e
      rcases hlg with e | ⟨e1, e2⟩
      · rw [e]; exact h.G c hc2
      · exact ⟨t, (h.opnIff t).2 ⟨hw, e1⟩, e2.symm, .one htm⟩
    · rw [hlo c e]; exact h.G c hc2
  case P1 => exact h.P1
  case P2 => exact h.P2

theorem TInv.low_eq (h : TInv n adj S) {v : Nat} {r : List Nat} (hc : S.calls = v :: r) : lowS S.low v r v = S.low v := by
  cases r with
  | nil => rfl
  | cons u r =>
    have := h.callsSorted
    rw [hc] at this
    have h1 := (List.pairwise_cons.1 this).1 u List.mem_cons_self
    exact updN_other _ _ _ (fun e => by subst e; omega)

/-- A vertex is left whose part begins lower. -/
theorem TInv.leaveN (h : TInv n adj S) {v : Nat} {r : List Nat} (hc : S.calls = v :: r) (hi : S.idx v = (adj v).length) (hl : S.low v ≠ S.found v) :
    TInv n adj { S with low := lowS S.low v r, calls := r } := by
  have hvc : v ∈ S.calls := by rw [hc]; exact List.mem_cons_self
  have hvo := h.callsOpen v hvc
  have hsrt := h.callsSorted
  rw [hc] at hsrt
  have hrl : ∀ c ∈ r, S.found c < S.found v := (List.pairwise_cons.1 hsrt).1
  have hsub : ∀ c ∈ r, c ∈ S.calls := fun c hm => by rw [hc]; exact List.mem_cons_of_mem _ hm
  have hcs : ∀ c ∈ S.calls, c = v ∨ c ∈ r := fun c hm => by rw [hc] at hm; exact List.mem_cons.1 hm
  have hF := h.F v hvc
  obtain ⟨z, hz1, hz2, hz3⟩ := h.G v hvc
  obtain ⟨g, hg1, hg2, hg3⟩ := h.B z hz1
  have hgr : g ∈ r := (hcs g hg1).resolve_left (fun e => by subst e; omega)
  obtain ⟨u, r', rfl⟩ : ∃ u r', r = u :: r' := by cases r with
    | nil => cases hgr
    | cons u r' => exact ⟨u, r', rfl⟩
  have hur : u ∈ u :: r' := List.mem_cons_self
  have huc := hsub u hur
  have hru : ∀ c ∈ u :: r', S.found c ≤ S.found u := fun c hm => by
    rcases List.mem_cons.1 hm with e | e
    · rw [e]; exact Nat.le_refl _
    · exact Nat.le_of_lt ((List.pairwise_cons.1 (List.pairwise_cons.1 hsrt).2).1 c e)
  have lol : ∀ c, lowS S.low v (u :: r') c ≤ S.low c := fun c => by
    show updN S.low u _ c ≤ _
    by_cases e : c = u
    · subst e; rw [updN_same]; omega
    · rw [updN_other _ _ _ e]; exact Nat.le_refl _
  have lou : lowS S.low v (u :: r') u = min (S.low u) (S.low v) := updN_same _ _ _
  have loc : ∀ c, c ≠ u → lowS S.low v (u :: r') c = S.low c := fun c e => updN_other _ _ _ e
  constructor
  case adjLt => exact h.adjLt
  case seenLt => exact h.seenLt
  case leTime => exact h.leTime
  case count => exact h.count
  case inj => exact h.inj
  case opnIff => exact h.opnIff
  case opnSorted => exact h.opnSorted
  case callsSorted => exact (List.pairwise_cons.1 hsrt).2
  case callsOpen => exact fun c hm => h.callsOpen c (hsub c hm)
  case idxLe => exact h.idxLe
  case idxDone =>
    intro x hx hx2
    show S.idx x = _
    by_cases e : x = v
    · rw [e]; exact hi
    · exact h.idxDone x hx (fun hm => (hcs x hm).elim e hx2)
  case partSeen => exact h.partSeen
  case partLow => exact h.partLow
  case A => exact fun c hm => h.A c (hsub c hm)
  case B =>
    intro x hx
    obtain ⟨c, h1, h2, h3⟩ := h.B x hx
    rcases hcs c h1 with rfl | hcr
    · refine ⟨g, hgr, ?_, h3.trans (hz3.trans hg3)⟩
      show S.found g ≤ S.found x
      omega
    · exact ⟨c, hcr, h2, h3⟩
  case C => exact h.C
  case D => exact h.D
  case E =>
    intro x hx j hj t hto ht c hc2 hcx htop
    have hcx : S.found c ≤ S.found x := hcx
    have htop : ∀ d ∈ u :: r', S.found d ≤ S.found x → S.found d ≤ S.found c := htop
    show lowS S.low v (u :: r') c ≤ S.found t
    by_cases hvx : S.found v ≤ S.found x
    · have hux := htop u hur (by have := hrl u hur; omega)
      have hcu := hru c hc2
      have e : c = u := h.inj c u (by omega) (h.callsSeen (hsub c hc2)).1
      rw [e, lou]
      have := h.E x hx j hj t hto ht v hvc hvx (fun d hd _ => by
        rcases hcs d hd with e | e
        · rw [e]; exact Nat.le_refl _
        · exact Nat.le_of_lt (hrl d e))
      omega
    · refine Nat.le_trans (lol c) (h.E x hx j hj t hto ht c (hsub c hc2) hcx fun d hd hdx => ?_)
      rcases hcs d hd with e | e
      · rw [e] at hdx; exact absurd hdx hvx
      · exact htop d e hdx
  case F => exact fun c hm => Nat.le_trans (lol c) (h.F c (hsub c hm))
  case G =>
    intro c hc2
    show ∃ z ∈ S.opn, S.found z = lowS S.low v (u :: r') c ∧ _
    by_cases e : c = u
    · subst e
      rw [lou]
      by_cases q : S.low v ≤ S.low c
      · rw [Nat.min_eq_right q]
        exact ⟨z, hz1, hz2, (h.A c huc v hvo (Nat.le_of_lt (hrl c hur))).trans hz3⟩
      · rw [Nat.min_eq_left (by omega)]; exact h.G c huc
    · rw [loc c e]; exact h.G c (hsub c hc2)
  case P1 => exact h.P1
  case P2 => exact h.P2

theorem closeS_spec (found : Nat → Nat) (v : Nat) : ∀ (l : List Nat) (p : Nat → Int), l.Pairwise (fun a b => found b < found a) → v ∈ l →
    (closeS v l p).1.Sublist l ∧ (∀ x, x ∈ (closeS v l p).1 ↔ x ∈ l ∧ found x < found v) ∧
    (∀ x, (x ∈ l ∧ found v ≤ found x) → (closeS v l p).2 x = (v : Int)) ∧ (∀ x, ¬ (x ∈ l ∧ found v ≤ found x) → (closeS v l p).2 x = p x) := by
  intro l
  induction l with
  | nil => intro p _ h; cases h
  | cons t r ih =>
    intro p hs hv
    have ⟨h1, h2⟩ := List.pairwise_cons.1 hs
    unfold closeS
    by_cases e : t = v
    · subst e
      rw [if_pos rfl]
      refine ⟨List.sublist_cons_self _ _, fun x => ?_, fun x ⟨hx, hf⟩ => ?_, fun x hx => ?_⟩
      · refine ⟨fun hx => ⟨List.mem_cons_of_mem _ hx, h1 x hx⟩, fun ⟨hx, hf⟩ => ?_⟩
        rcases List.mem_cons.1 hx with e | e
        · subst e; omega
        · exact e
      · rcases List.mem_cons.1 hx with e | e
        · subst e; exact updN_same _ _ _
        · have := h1 x e; omega
      · exact updN_other _ _ _ (fun e => hx (by rw [e]; exact ⟨List.mem_cons_self, Nat.le_refl _⟩))
    · rw [if_neg e]
      have hvr : v ∈ r := (List.mem_cons.1 hv).resolve_left (fun q => e q.symm)
      obtain ⟨i1, i2, i3, i4⟩ := ih (updN p t v) h2 hvr
      have htv := h1 v hvr
      refine ⟨i1.trans (List.sublist_cons_self _ _), fun x => ?_, fun x ⟨hx, hf⟩ => ?_, fun x hx => ?_⟩
      · rw [i2 x]
        refine ⟨fun ⟨a, b⟩ => ⟨List.mem_cons_of_mem _ a, b⟩, fun ⟨a, b⟩ => ⟨?_, b⟩⟩
        rcases List.mem_cons.1 a with e | e
        · subst e; omega
        · exact e
      · by_cases hxr : x ∈ r
        · exact i3 x ⟨hxr, hf⟩
        · rw [i4 x (fun q => hxr q.1)]
          rcases List.mem_cons.1 hx with e | e
          · subst e; exact updN_same _ _ _
          · exact absurd e hxr
      · rw [i4 x (fun q => hx ⟨List.mem_cons_of_mem _ q.1, q.2⟩)]
        exact updN_other _ _ _ (fun e => hx (by rw [e]; exact ⟨List.mem_cons_self, Nat.le_of_lt htv⟩))

/-- A vertex is left with which its part begins. -/
theorem TInv.leaveC (h : TInv n adj S) {v : Nat} {r : List Nat} (hc : S.calls = v :: r) (hi : S.idx v = (adj v).length) (hl : S.low v = S.found v) :
    TInv n adj { S with low := lowS S.low v r, calls := r, opn := (closeS v S.opn S.part).1, part := (closeS v S.opn S.part).2 } := by
  have hvc : v ∈ S.calls := by rw [hc]; exact List.mem_cons_self
  have hvo := h.callsOpen v hvc
  have hsrt := h.callsSorted
  rw [hc] at hsrt
  have hrl : ∀ c ∈ r, S.found c < S.found v := (List.pairwise_cons.1 hsrt).1
  have hsub : ∀ c ∈ r, c ∈ S.calls := fun c hm => by rw [hc]; exact List.mem_cons_of_mem _ hm
  have hcs : ∀ c ∈ S.calls, c = v ∨ c ∈ r := fun c hm => by rw [hc] at hm; exact List.mem_cons.1 hm
  have hlow : lowS S.low v r = S.low := by
    cases r with
    | nil => rfl
    | cons u r' =>
      have h1 := hrl u List.mem_cons_self
      have h2 := h.F u (hsub u List.mem_cons_self)
      show updN S.low u _ = _
      rw [Nat.min_eq_left (by omega), updN_self]
  rw [hlow]
  obtain ⟨k1, k2, k3, k4⟩ := closeS_spec S.found v S.opn S.part h.opnSorted hvo
  generalize (closeS v S.opn S.part).1 = O at *
  generalize (closeS v S.opn S.part).2 = P at *
  have seg : ∀ x, x ∈ S.opn → S.found v ≤ S.found x → Goes adj v x ∧ Goes adj x v := fun x hx hf => by
    refine ⟨h.A v hvc x hx hf, ?_⟩
    obtain ⟨c, h1, h2, h3⟩ := h.B x hx
    rcases hcs c h1 with e | e
    · rw [← e]; exact h3
    · exact h3.trans (h.A c h1 v hvo (Nat.le_of_lt (hrl c e)))
  have old : ∀ x, 0 ≤ S.part x → P x = S.part x := fun x hx => k4 x (fun q => by have := ((h.opnIff x).1 q.1).2; omega)
  have new : ∀ x, 0 ≤ P x → 0 ≤ S.part x ∨ (x ∈ S.opn ∧ S.found v ≤ S.found x) := fun x hx => by
    by_cases q : x ∈ S.opn ∧ S.found v ≤ S.found x
    · exact .inr q
    · rw [k4 x q] at hx; exact .inl hx
  have C2 : ∀ x, 0 ≤ P x → ∀ t ∈ adj x, 0 ≤ P t := fun x hx t ht => by
    rcases new x hx with hx | ⟨hxo, hxf⟩
    · have := h.C x hx t ht; rw [old t this]; exact this
    · obtain ⟨j, hj⟩ := List.mem_iff_getElem?.1 ht
      have hjl : j < (adj x).length := by
        by_cases q : j < (adj x).length
        · exact q
        · rw [List.getElem?_eq_none (by omega)] at hj; cases hj
      have hix : S.idx x = (adj x).length := by
        by_cases e : x = v
        · rw [e]; exact hi
        · refine h.idxDone x hxo (fun hm => ?_)
          rcases hcs x hm with q | q
          · exact e q
          · have := hrl x q; omega
      have hft := h.D x hxo j (by omega) t hj
      by_cases hp : 0 ≤ S.part t
      · rw [old t hp]; exact hp
      · have hto := (h.opnIff t).2 ⟨hft, by omega⟩
        have := h.E x hxo j (by omega) t hto hj v hvc hxf (fun d hd _ => by
          rcases hcs d hd with e | e
          · rw [e]; exact Nat.le_refl _
          · exact Nat.le_of_lt (hrl d e))
        rw [k3 t ⟨hto, by omega⟩]; omega
  constructor
  case adjLt => exact h.adjLt
  case seenLt => exact h.seenLt
  case leTime => exact h.leTime
  case count => exact h.count
  case inj => exact h.inj
  case opnIff =>
    intro x
    show x ∈ O ↔ S.found x ≠ 0 ∧ P x < 0
    rw [k2 x]
    constructor
    · rintro ⟨a, b⟩
      have := (h.opnIff x).1 a
      rw [k4 x (fun q => by omega)]; exact this
    · rintro ⟨a, b⟩
      by_cases q : x ∈ S.opn ∧ S.found v ≤ S.found x
      · rw [k3 x q] at b; omega
      · rw [k4 x q] at b
        have := (h.opnIff x).2 ⟨a, b⟩
        exact ⟨this, by have : ¬ S.found v ≤ S.found x := fun w => q ⟨this, w⟩; omega⟩
  case opnSorted => exact h.opnSorted.sublist k1
  case callsSorted => exact (List.pairwise_cons.1 hsrt).2
  case callsOpen => exact fun c hm => (k2 c).2 ⟨h.callsOpen c (hsub c hm), hrl c hm⟩
  case idxLe => exact fun x hx => h.idxLe x ((k2 x).1 hx).1
  case idxDone =>
    intro x hx hx2
    refine h.idxDone x ((k2 x).1 hx).1 (fun hm => ?_)
    rcases hcs x hm with e | e
    · have := ((k2 x).1 hx).2; subst e; omega
    · exact hx2 e
  case partSeen =>
    intro x hx
    rcases new x hx with q | q
    · exact h.partSeen x q
    · exact ((h.opnIff x).1 q.1).1
  case partLow =>
    intro x
    show -1 ≤ P x
    by_cases q : x ∈ S.opn ∧ S.found v ≤ S.found x
    · rw [k3 x q]; omega
    · rw [k4 x q]; exact h.partLow x
  case A => exact fun c hm x hx hf => h.A c (hsub c hm) x ((k2 x).1 hx).1 hf
  case B =>
    intro x hx
    have ⟨hx1, hx2⟩ := (k2 x).1 hx
    obtain ⟨c, h1, h2, h3⟩ := h.B x hx1
    rcases hcs c h1 with e | e
    · subst e; omega
    · exact ⟨c, e, h2, h3⟩
  case C => exact C2
  case D => exact fun x hx => h.D x ((k2 x).1 hx).1
  case E =>
    intro x hx j hj t hto ht c hc2 hcx htop
    have ⟨hx1, hx2⟩ := (k2 x).1 hx
    refine h.E x hx1 j hj t ((k2 t).1 hto).1 ht c (hsub c hc2) hcx fun d hd hdx => ?_
    rcases hcs d hd with e | e
    · subst e; omega
    · exact htop d e hdx
  case F => exact fun c hm => h.F c (hsub c hm)
  case G =>
    intro c hm
    obtain ⟨z, h1, h2, h3⟩ := h.G c (hsub c hm)
    have := h.F c (hsub c hm)
    have := hrl c hm
    exact ⟨z, (k2 z).2 ⟨h1, by omega⟩, h2, h3⟩
  case P1 =>
    intro x hx
    rcases new x hx with q | q
    · obtain ⟨p, a, b, c, d⟩ := h.P1 x q
      exact ⟨p, by show P x = _; rw [old x q]; exact a, by show 0 ≤ P p; rw [old _ b]; exact b, c, d⟩
    · have := seg x q.1 q.2
      exact ⟨v, k3 x q, by show 0 ≤ P v; rw [k3 v ⟨hvo, Nat.le_refl _⟩]; omega, this.2, this.1⟩
  case P2 =>
    intro x y hx hy hxy hyx
    show P x = P y
    rcases new x hx with q | q <;> rcases new y hy with q' | q'
    · rw [old x q, old y q']; exact h.P2 x y q q' hxy hyx
    · have := Goes.closed (P := fun z => 0 ≤ S.part z) h.C hxy q
      have := ((h.opnIff y).1 q'.1).2; omega
    · have := Goes.closed (P := fun z => 0 ≤ S.part z) h.C hyx q'
      have := ((h.opnIff x).1 q.1).2; omega
    · rw [k3 x q, k3 y q']

/-- A round keeps all that. -/
theorem TInv.leave (h : TInv n adj S) {v : Nat} {r : List Nat} (hc : S.calls = v :: r) (hi : S.idx v = (adj v).length) : TInv n adj (leaveS S v r) := by
  unfold leaveS
  rw [h.low_eq hc]
  split
  · next q => exact h.leaveC hc hi q
  · next q => exact h.leaveN hc hi q
theorem TInv.idx_get (h : TInv n adj S) {v : Nat} {r : List Nat} (hc : S.calls = v :: r) (hi : S.idx v ≠ (adj v).length) :
    S.idx v < (adj v).length ∧ (adj v)[S.idx v]? = some ((adj v).getD (S.idx v) 0) ∧ (adj v).getD (S.idx v) 0 < n := by
  have hvc : v ∈ S.calls := by rw [hc]; exact List.mem_cons_self
  have hvo := h.callsOpen v hvc
  have h1 : S.idx v < (adj v).length := by have := h.idxLe v hvo; omega
  have h2 : (adj v)[S.idx v]? = some ((adj v).getD (S.idx v) 0) := by simp [List.getD, List.getElem?_eq_getElem h1]
  exact ⟨h1, h2, h.adjLt v (h.seenLt v (h.callsSeen hvc).1) _ (List.mem_of_getElem? h2)⟩
theorem TInv.step (h : TInv n adj S) : TInv n adj (stepS adj S) := by
  cases hc : S.calls with
  | nil => rw [stepS_nil hc]; exact h
  | cons v r =>
    rw [stepS_cons hc]
    by_cases hi : S.idx v = (adj v).length
    · rw [if_pos hi]; exact h.leave hc hi
    · rw [if_neg hi]
      obtain ⟨_, h2, _⟩ := h.idx_get hc hi
      by_cases hf : S.found ((adj v).getD (S.idx v) 0) = 0
      · rw [if_pos hf]; exact h.enterEdge hc h2 hf
      · rw [if_neg hf]
        by_cases hp : S.part ((adj v).getD (S.idx v) 0) < 0
        · rw [if_pos hp]
          refine h.edge hc h2 hf (updN S.low v (min (S.low v) (S.found ((adj v).getD (S.idx v) 0)))) (fun c (hcv : c ≠ v) => updN_other S.low v _ hcv) ?_ (fun _ => ?_) ?_
          · rw [updN_same]; omega
          · rw [updN_same]; omega
          · rw [updN_same]
            by_cases q : S.low v ≤ S.found ((adj v).getD (S.idx v) 0)
            · exact .inl (Nat.min_eq_left q)
            · exact .inr ⟨hp, Nat.min_eq_right (by omega)⟩
        · rw [if_neg hp]
          exact h.edge hc h2 hf S.low (fun _ _ => rfl) (Nat.le_refl _) (fun q => absurd q hp) (.inl rfl)

/-- The stacks are short. -/
theorem sorted_len (found : Nat → Nat) : ∀ (l : List Nat) (b : Nat), l.Pairwise (fun a b => found b < found a) → (∀ x ∈ l, found x ≠ 0 ∧ found x ≤ b) → l.length ≤ b
  | [], b, _, _ => Nat.zero_le b
  | a :: l, b, hs, hb => by
    have ⟨h1, h2⟩ := List.pairwise_cons.1 hs
    have ha := hb a List.mem_cons_self
    have := sorted_len found l (found a - 1) h2 (fun x hx => ⟨(hb x (List.mem_cons_of_mem _ hx)).1, by have := h1 x hx; omega⟩)
    simp only [List.length_cons]; omega
theorem TInv.time_le (h : TInv n adj S) : S.time ≤ n := by have := h.count; omega
theorem TInv.calls_len (h : TInv n adj S) : S.calls.length ≤ n :=
  Nat.le_trans (sorted_len S.found S.calls S.time h.callsSorted (fun x hx => ⟨(h.callsSeen hx).1, h.leTime x⟩)) h.time_le
theorem TInv.opn_len (h : TInv n adj S) : S.opn.length ≤ n :=
  Nat.le_trans (sorted_len S.found S.opn S.time h.opnSorted (fun x hx => ⟨((h.opnIff x).1 hx).1, h.leTime x⟩)) h.time_le

/-- What is left to do. -/
def phi (n : Nat) (adj : Nat → List Nat) (S : TS) : Nat :=
  (S.calls.map fun v => 1 + ((adj v).length - S.idx v)).sum + wsum (fun v => 2 + (adj v).length) S.found n
theorem phi_calls (adj : Nat → List Nat) (l : List Nat) (f g : Nat → Nat) (h : ∀ v ∈ l, f v = g v) :
    (l.map fun v => 1 + ((adj v).length - f v)).sum = (l.map fun v => 1 + ((adj v).length - g v)).sum := by
  congr 1
  exact List.map_congr_left fun v hv => by rw [h v hv]
theorem TInv.phi_step (h : TInv n adj S) {v : Nat} {r : List Nat} (hc : S.calls = v :: r) : phi n adj (stepS adj S) < phi n adj S := by
  have hsrt := h.callsSorted
  rw [hc] at hsrt
  have hnd : ∀ c ∈ r, c ≠ v := fun c hm e => by have := (List.pairwise_cons.1 hsrt).1 c hm; subst e; omega
  have hbase : phi n adj S = (1 + ((adj v).length - S.idx v)) + (r.map fun v => 1 + ((adj v).length - S.idx v)).sum + wsum (fun v => 2 + (adj v).length) S.found n := by
    unfold phi; rw [hc]; simp
  have hbump : ∀ lo, phi n adj { S with idx := updN S.idx v (S.idx v + 1), low := lo } = (1 + ((adj v).length - (S.idx v + 1))) + (r.map fun v => 1 + ((adj v).length - S.idx v)).sum + wsum (fun v => 2 + (adj v).length) S.found n := fun lo => by
    unfold phi; rw [hc]; simp only [List.map_cons, List.sum_cons, updN_same]
    rw [phi_calls adj r _ S.idx (fun c hm => updN_other _ _ _ (hnd c hm))]
  rw [stepS_cons hc]
  by_cases hi : S.idx v = (adj v).length
  · rw [if_pos hi, hbase]
    unfold leaveS
    split <;> · unfold phi; dsimp only; omega
  · rw [if_neg hi]
    obtain ⟨h1, h2, h3⟩ := h.idx_get hc hi
    by_cases hf : S.found ((adj v).getD (S.idx v) 0) = 0
    · rw [if_pos hf, hbase]
      generalize (adj v).getD (S.idx v) 0 = t at *
      have hw := wsum_upd (fun v => 2 + (adj v).length) S.found t (S.time + 1) (by omega) hf n
      rw [if_pos h3] at hw
      have htc : ∀ c ∈ S.calls, c ≠ t := fun c hm e => by have := (h.callsSeen hm).1; rw [e] at this; exact this hf
      unfold phi enterS
      dsimp only
      rw [hc]
      simp only [List.map_cons, List.sum_cons, updN_same]
      rw [phi_calls adj r _ S.idx (fun c hm => by rw [updN_other _ _ _ (htc c (by rw [hc]; exact List.mem_cons_of_mem _ hm)), updN_other _ _ _ (hnd c hm)]),
        updN_other _ _ _ (htc v (by rw [hc]; exact List.mem_cons_self)), updN_same]
      omega
    · rw [if_neg hf]
      by_cases hp : S.part ((adj v).getD (S.idx v) 0) < 0
      · rw [if_pos hp, hbase]; have := hbump (updN S.low v (min (S.low v) (S.found ((adj v).getD (S.idx v) 0)))); omega
      · rw [if_neg hp, hbase]; have := hbump S.low; have e : ({ S with idx := updN S.idx v (S.idx v + 1), low := S.low } : TS) = { S with idx := updN S.idx v (S.idx v + 1) } := rfl
        rw [e] at this; omega
/-- The beginning. -/
def initS : TS := ⟨0, fun _ => 0, fun _ => 0, fun _ => 0, [], fun _ => -1, []⟩
theorem wsum_white (n : Nat) : wsum (fun _ => 1) (fun _ => 0) n = n := by
  induction n with
  | zero => rfl
  | succ n ih => simp [wsum, ih]
theorem TInv.init (n : Nat) (adj : Nat → List Nat) (ha : ∀ v, v < n → ∀ t ∈ adj v, t < n) : TInv n adj initS := by
  constructor
  case adjLt => exact ha
  case count => simp [initS, wsum_white]
  case C => intro x hx; simp [initS] at hx
  case P1 => intro x hx; simp [initS] at hx
  case P2 => intro x y hx; simp [initS] at hx
  all_goals simp [initS]

/-- Rounds one after another. -/
def iterS (adj : Nat → List Nat) : Nat → TS → TS
  | 0, S => S
  | k + 1, S => iterS adj k (stepS adj S)
theorem iterS_succ (adj : Nat → List Nat) (k : Nat) : ∀ S, iterS adj (k + 1) S = stepS adj (iterS adj k S) := by
  induction k with
  | zero => intro S; rfl
  | succ k ih => intro S; show iterS adj (k + 1) (stepS adj S) = _; rw [ih]; rfl
theorem TInv.iter (h : TInv n adj S) (k : Nat) : TInv n adj (iterS adj k S) := by
  induction k with
  | zero => exact h
  | succ k ih => rw [iterS_succ]; exact ih.step

/-- What was found stays found. -/
theorem keepsS (adj : Nat → List Nat) (S : TS) {x : Nat} (hx : S.found x ≠ 0) : (stepS adj S).found x = S.found x := by
  cases hc : S.calls with
  | nil => rw [stepS_nil hc]
  | cons v r =>
    rw [stepS_cons hc]
    split
    · unfold leaveS; split <;> rfl
    · split
      · next hf => exact updN_other _ _ _ (fun e => by rw [e] at hx; exact hx hf)
      · split <;> rfl

/-- At the end: all parts told: one number just where there are ways both ways. -/
theorem TInv.done (h : TInv n adj S) (hc : S.calls = []) (hall : ∀ v, v < n → S.found v ≠ 0) :
    (∀ v, v < n → 0 ≤ S.part v) ∧ ∀ x y, x < n → y < n → (S.part x = S.part y ↔ Goes adj x y ∧ Goes adj y x) := by
  have hp : ∀ v, v < n → 0 ≤ S.part v := fun v hv => by
    by_cases q : S.part v < 0
    · have := (h.opnIff v).2 ⟨hall v hv, q⟩; rw [h.opn_nil hc] at this; cases this
    · omega
  refine ⟨hp, fun x y hx hy => ⟨fun e => ?_, fun ⟨a, b⟩ => h.P2 x y (hp x hx) (hp y hy) a b⟩⟩
  obtain ⟨p, p1, _, p2, p3⟩ := h.P1 x (hp x hx)
  obtain ⟨q, q1, _, q2, q3⟩ := h.P1 y (hp y hy)
  have : p = q := by omega
  subst this
  exact ⟨p2.trans q3, q2.trans p3⟩

end Go.Proofs.YtmhiambkfdkkbaaGreatDoor

namespace Go.Proofs.YtmhiambkfdkkbaaGreatDoor

def sPairs : ByteArray := ⟨#[112, 97, 105, 114, 115]⟩
/-- Where a symbol leads from a node, and what is told. -/
def toN (K N u s : Nat) : Nat := (u * K + s) % N
def labN (K : Nat) (T : List Int) (u s : Nat) : Int := T.getD (u * K + s) 0
/-- The arrows of a pair as they are found. -/
def rawT (K N : Nat) (T : List Int) (u v s t : Nat) : List Nat := if labN K T u s = labN K T v t then [toN K N u s * N + toN K N v t] else []
def rawS (K N : Nat) (T : List Int) (u v s n : Nat) : List Nat := (List.range n).flatMap fun t => rawT K N T u v s t
def rawP (K N : Nat) (T : List Int) (u v n : Nat) : List Nat := (List.range n).flatMap fun s => rawS K N T u v s K
theorem rawS_succ (K N : Nat) (T : List Int) (u v s n : Nat) : rawS K N T u v s (n + 1) = rawS K N T u v s n ++ rawT K N T u v s n := by
  simp [rawS, List.range_succ]
theorem rawP_succ (K N : Nat) (T : List Int) (u v n : Nat) : rawP K N T u v (n + 1) = rawP K N T u v n ++ rawS K N T u v n K := by
  simp [rawP, List.range_succ]
theorem rawT_len (K N : Nat) (T : List Int) (u v s t : Nat) : (rawT K N T u v s t).length ≤ 1 := by unfold rawT; split <;> simp
theorem rawS_len (K N : Nat) (T : List Int) (u v s n : Nat) : (rawS K N T u v s n).length ≤ n := by
  induction n with
  | zero => simp [rawS]
  | succ n ih => rw [rawS_succ, List.length_append]; have := rawT_len K N T u v s n; omega
theorem rawP_len (K N : Nat) (T : List Int) (u v n : Nat) : (rawP K N T u v n).length ≤ n * K := by
  induction n with
  | zero => simp [rawP]
  | succ n ih => rw [rawP_succ, List.length_append, Nat.add_mul]; have := rawS_len K N T u v n K; omega
/-- Does an arrow lead from the pair u, v to the vertex q? -/
def Arr (K N : Nat) (T : List Int) (u v q : Nat) : Prop := ∃ s t, s < K ∧ t < K ∧ labN K T u s = labN K T v t ∧ q = toN K N u s * N + toN K N v t
theorem mem_rawP {K N : Nat} {T : List Int} {u v q : Nat} : q ∈ rawP K N T u v K ↔ Arr K N T u v q := by
  unfold rawP rawS rawT Arr
  simp only [List.mem_flatMap, List.mem_range]
  constructor
  · rintro ⟨s, hs, t, ht, h⟩
    split at h
    · rename_i e
      exact ⟨s, t, hs, ht, e, by simpa using h⟩
    · cases h
  · rintro ⟨s, t, hs, ht, e, h⟩
    exact ⟨s, hs, t, ht, by rw [if_pos e]; simpa using h⟩
theorem toN_lt {K N u s : Nat} (hN : 0 < N) : toN K N u s < N := Nat.mod_lt _ hN
theorem pair_lt {N a b : Nat} (ha : a < N) (hb : b < N) : a * N + b < N * N := by
  have := Nat.mul_le_mul_right N (show a + 1 ≤ N by omega)
  rw [Nat.add_mul] at this; omega
theorem pair_div {N a b : Nat} (hb : b < N) : (a * N + b) / N = a := div_mk hb
theorem pair_mod {N a b : Nat} (hb : b < N) : (a * N + b) % N = b := mod_mk hb
theorem pair_eq (p N : Nat) : p / N * N + p % N = p := by rw [Nat.mul_comm]; exact Nat.div_add_mod p N
theorem div_lt_of {p N : Nat} (h : p < N * N) : p / N < N := Nat.div_lt_of_lt_mul h
theorem Arr.lt {K N : Nat} {T : List Int} {u v q : Nat} (hN : 0 < N) (h : Arr K N T u v q) : q < N * N := by
  obtain ⟨s, t, _, _, _, rfl⟩ := h
  exact pair_lt (toN_lt hN) (toN_lt hN)
theorem Arr.swap {K N : Nat} {T : List Int} {u v q : Nat} (hN : 0 < N) (h : Arr K N T u v q) : Arr K N T v u (q % N * N + q / N) := by
  obtain ⟨s, t, hs, ht, e, rfl⟩ := h
  rw [pair_div (toN_lt hN), pair_mod (toN_lt hN)]
  exact ⟨t, s, ht, hs, e.symm, rfl⟩
/-- The vertices that arrows lead to, ascending. -/
def pairL (K N : Nat) (T : List Int) (p : Nat) : List Nat := (List.range (N * N)).filter fun q => decide (q ∈ rawP K N T (p / N) (p % N) K)
theorem pairL_sorted (K N : Nat) (T : List Int) (p : Nat) : (pairL K N T p).Pairwise (· < ·) := List.Pairwise.filter _ List.pairwise_lt_range
theorem mem_pairL {K N : Nat} {T : List Int} {p q : Nat} (hN : 0 < N) : q ∈ pairL K N T p ↔ Arr K N T (p / N) (p % N) q := by
  unfold pairL
  rw [List.mem_filter, List.mem_range, decide_eq_true_iff, mem_rawP]
  exact ⟨fun h => h.2, fun h => ⟨h.lt hN, h⟩⟩
theorem nodup_sub {α : Type} [DecidableEq α] : ∀ {l m : List α}, l.Nodup → l ⊆ m → l.length ≤ m.length
  | [], _, _, _ => by simp
  | a :: l, m, hn, hs => by
    obtain ⟨h1, h2⟩ := List.nodup_cons.1 hn
    have ha := hs List.mem_cons_self
    have := nodup_sub (l := l) (m := m.erase a) h2 (fun b hb => (List.mem_erase_of_ne (fun e => h1 (by rw [← e]; exact hb))).2 (hs (List.mem_cons_of_mem _ hb)))
    have hl := List.length_erase_of_mem ha
    have := List.length_pos_of_mem ha
    simp only [List.length_cons]; omega
theorem pairL_len (K N : Nat) (T : List Int) (p : Nat) : (pairL K N T p).length ≤ K * K := by
  have hn : (pairL K N T p).Nodup := (pairL_sorted K N T p).imp (fun h => Nat.ne_of_lt h)
  have hs : pairL K N T p ⊆ rawP K N T (p / N) (p % N) K := fun q hq => by
    unfold pairL at hq
    simpa using (List.mem_filter.1 hq).2
  exact Nat.le_trans (nodup_sub hn hs) (rawP_len ..)

/-- The node of a word at a place. -/
def nodeAt (K m : Nat) (x : List Int) (i : Nat) : Nat := numW K ((x.drop i).take m)
theorem win_snoc {x : List Int} {i m : Nat} (h : i + m < x.length) : (x.drop i).take (m + 1) = (x.drop i).take m ++ [x.getD (i + m) 0] := by
  rw [List.take_add_one, List.getElem?_drop]
  simp [List.getD, h]
theorem win_cons {x : List Int} {i m : Nat} : ((x.drop i).take (m + 1)).drop 1 = (x.drop (i + 1)).take m := by
  rw [List.drop_take]; simp
theorem syms_drop {K : Int} {x : List Int} (h : Syms K x) (i : Nat) : Syms K (x.drop i) := fun y hy => h y (List.mem_of_mem_drop hy)
theorem syms_take {K : Int} {x : List Int} (h : Syms K x) (i : Nat) : Syms K (x.take i) := fun y hy => h y (List.mem_of_mem_take hy)
theorem syms_at {K : Nat} {x : List Int} (h : Syms K x) {i : Nat} (hi : i < x.length) : 0 ≤ x.getD i 0 ∧ x.getD i 0 < K ∧ (x.getD i 0).toNat < K := by
  have := h (x[i]) (List.getElem_mem hi)
  simp only [List.getD_eq_getElem?_getD, List.getElem?_eq_getElem hi, Option.getD_some]
  omega
theorem win_num {K m : Nat} {x : List Int} {i : Nat} (h : i + m < x.length) : numW K ((x.drop i).take (m + 1)) = nodeAt K m x i * K + (x.getD (i + m) 0).toNat := by
  rw [win_snoc h, numW_snoc]; rfl
theorem node_lt {K m : Nat} {x : List Int} (hx : Syms K x) {i : Nat} (h : i + m ≤ x.length) : nodeAt K m x i < pw K m := by
  have := numW_lt _ (syms_take (syms_drop hx i) m)
  rwa [show ((x.drop i).take m).length = m by simp; omega] at this
theorem node_next {K m : Nat} {x : List Int} (hx : Syms K x) {i : Nat} (h : i + m < x.length) : nodeAt K m x (i + 1) = toN K (pw K m) (nodeAt K m x i) (x.getD (i + m) 0).toNat := by
  have hl : ((x.drop i).take m).length = m := by simp; omega
  have hs : Syms K ((x.drop i).take m ++ [x.getD (i + m) 0]) := by rw [← win_snoc h]; exact syms_take (syms_drop hx i) _
  have := num_shift hs
  rw [← win_snoc h, win_cons, hl, win_num h] at this
  exact this
theorem img_at {K R : Nat} {T x : List Int} {i : Nat} (h : i + 2 * R < x.length) : (imgP K R T x).getD i 0 = labN K T (nodeAt K (2 * R) x i) (x.getD (i + 2 * R) 0).toNat := by
  rw [imgP_getD _ _ _ _ _ (by omega), win_num h]; rfl
theorem img_eq {K R : Nat} {T x y : List Int} (hl : x.length = y.length) : imgP K R T x = imgP K R T y ↔
    ∀ i, i + 2 * R < x.length → labN K T (nodeAt K (2 * R) x i) (x.getD (i + 2 * R) 0).toNat = labN K T (nodeAt K (2 * R) y i) (y.getD (i + 2 * R) 0).toNat := by
  constructor
  · intro h i hi
    rw [← img_at hi, ← img_at (by omega), h]
  · intro h
    refine List.ext_getElem (by rw [imgP_length, imgP_length, hl]) fun i h1 h2 => ?_
    rw [imgP_length] at h1 h2
    have := h i (by omega)
    rw [← img_at (by omega), ← img_at (by omega)] at this
    simpa [List.getD_eq_getElem?_getD, imgP_length, h1, h2] using this

/-- The vertices along two words. -/
def wayW (K m : Nat) (x y : List Int) : List Nat := (List.range (x.length - m + 1)).map fun i => nodeAt K m x i * pw K m + nodeAt K m y i
theorem wayW_len (K m : Nat) (x y : List Int) : (wayW K m x y).length = x.length - m + 1 := by simp [wayW]
theorem wayW_get {K m : Nat} {x y : List Int} {i : Nat} (h : i ≤ x.length - m) : (wayW K m x y).getD i 0 = nodeAt K m x i * pw K m + nodeAt K m y i := by
  simp [wayW, List.getD, show i < x.length - m + 1 by omega]
theorem wayW_arr {K R : Nat} {T x y : List Int} (hx : Syms K x) (hy : Syms K y) (hl : x.length = y.length) (he : imgP K R T x = imgP K R T y) {i : Nat} (hi : i + 2 * R < x.length) :
    Arr K (pw K (2 * R)) T (nodeAt K (2 * R) x i) (nodeAt K (2 * R) y i) (nodeAt K (2 * R) x (i + 1) * pw K (2 * R) + nodeAt K (2 * R) y (i + 1)) :=
  ⟨_, _, (syms_at hx hi).2.2, (syms_at hy (by omega)).2.2, (img_eq hl).1 he i hi, by rw [node_next hx hi, node_next hy (by omega)]⟩

/-- Does a step of the way fit: the second vertex by the last symbols of its nodes? -/
def StepFits (K N : Nat) (T : List Int) (p q : Nat) : Prop :=
  toN K N (p / N) (q / N % K) = q / N ∧ toN K N (p % N) (q % N % K) = q % N ∧ labN K T (p / N) (q / N % K) = labN K T (p % N) (q % N % K)
instance (K N : Nat) (T : List Int) (p q : Nat) : Decidable (StepFits K N T p q) := by unfold StepFits; exact inferInstance
/-- The last symbol of the node that a symbol leads to is that symbol. -/
theorem toN_mod {K R u s : Nat} (_hK : 1 ≤ K) (hR : 1 ≤ R) (hs : s < K) : toN K (pw K (2 * R)) u s % K = s := by
  unfold toN
  have : K ∣ pw K (2 * R) := ⟨pw K (2 * R - 1), by rw [Nat.mul_comm K, ← pw_succ]; congr 1; omega⟩
  rw [Nat.mod_mod_of_dvd _ this, mod_mk hs]
theorem fits_iff {K R : Nat} {T : List Int} {p q : Nat} (hK : 1 ≤ K) (hR : 1 ≤ R) (hq : q < pw K (2 * R) * pw K (2 * R)) :
    StepFits K (pw K (2 * R)) T p q ↔ Arr K (pw K (2 * R)) T (p / pw K (2 * R)) (p % pw K (2 * R)) q := by
  have hN := pw_pos (K := K) (2 * R) hK
  constructor
  · rintro ⟨h1, h2, h3⟩
    exact ⟨_, _, Nat.mod_lt _ (by omega), Nat.mod_lt _ (by omega), h3, by rw [h1, h2, pair_eq]⟩
  · rintro ⟨s, t, hs, ht, e, rfl⟩
    unfold StepFits
    rw [pair_div (toN_lt (by omega)), pair_mod (toN_lt (by omega)), toN_mod hK hR hs, toN_mod hK hR ht]
    exact ⟨rfl, rfl, e⟩
/-- The word along a way of nodes. -/
def alongW (K m : Nat) (F : Nat → Nat) (way : List Nat) : List Int := digs K m (F (way.getD 0 0)) ++ (way.drop 1).map fun p => ((F p % K : Nat) : Int)
theorem alongW_len (K m : Nat) (F : Nat → Nat) (way : List Nat) : (alongW K m F way).length = m + (way.length - 1) := by simp [alongW, digs_length]
theorem alongW_syms {K m : Nat} (hK : 1 ≤ K) (F : Nat → Nat) (way : List Nat) : Syms K (alongW K m F way) := by
  intro y hy
  rcases List.mem_append.1 hy with hy | hy
  · exact digs_syms hK _ _ y hy
  · obtain ⟨p, _, rfl⟩ := List.mem_map.1 hy
    have := Nat.mod_lt (F p) (show 0 < K by omega); omega
theorem alongW_get {K m : Nat} {F : Nat → Nat} {way : List Nat} {i : Nat} (h : i + 1 < way.length) : (alongW K m F way).getD (i + m) 0 = ((F (way.getD (i + 1) 0) % K : Nat) : Int) := by
  unfold alongW
  rw [List.getD_eq_getElem?_getD, List.getElem?_append_right (by rw [digs_length]; omega), digs_length, Nat.add_sub_cancel, List.getElem?_map, List.getElem?_drop, Nat.add_comm 1 i]
  rw [List.getElem?_eq_getElem h]
  simp [List.getD, h]
/-- Along a way that fits the nodes are the way's. -/
theorem along_node {K m : Nat} (hK : 1 ≤ K) {F : Nat → Nat} {way : List Nat} (h0 : F (way.getD 0 0) < pw K m) (hs : ∀ i, i + 1 < way.length → toN K (pw K m) (F (way.getD i 0)) (F (way.getD (i + 1) 0) % K) = F (way.getD (i + 1) 0)) :
    ∀ i, i < way.length → nodeAt K m (alongW K m F way) i = F (way.getD i 0)
  | 0, _ => by
    unfold nodeAt alongW
    rw [List.drop_zero, List.take_append_of_le_length (by rw [digs_length]; omega), List.take_of_length_le (by rw [digs_length]; omega), numW_digs hK _ _ h0]
  | i + 1, hi => by
    have ih := along_node hK h0 hs i (by omega)
    rw [node_next (alongW_syms hK F way) (by rw [alongW_len]; omega), ih, alongW_get hi, Int.toNat_natCast]
    exact hs i hi
/-- The word along the nodes of a word is that word. -/
theorem along_word {K R : Nat} (hK : 1 ≤ K) (hR : 1 ≤ R) {F : Nat → Nat} {x : List Int} (hx : Syms K x) (hl : 2 * R ≤ x.length) {way : List Nat} (hw : way.length = x.length - 2 * R + 1)
    (hF : ∀ i, i < way.length → F (way.getD i 0) = nodeAt K (2 * R) x i) : alongW K (2 * R) F way = x := by
  have hN := pw_pos (K := K) (2 * R) hK
  refine List.ext_getElem (by rw [alongW_len]; omega) fun i h1 h2 => ?_
  by_cases hi : i < 2 * R
  · have e : digs K (2 * R) (F (way.getD 0 0)) = x.take (2 * R) := by
      rw [hF 0 (by omega)]
      have := digs_numW hK (x.take (2 * R)) (syms_take hx _)
      rw [show (x.take (2 * R)).length = 2 * R by simp; omega] at this
      simpa [nodeAt] using this
    simp only [alongW, e]
    rw [List.getElem_append_left (by simp; omega), List.getElem_take]
  · obtain ⟨j, rfl⟩ : ∃ j, i = j + 2 * R := ⟨i - 2 * R, by omega⟩
    have hj : j + 1 < way.length := by omega
    have := alongW_get (K := K) (m := 2 * R) (F := F) hj
    rw [hF (j + 1) hj, node_next hx (by omega), toN_mod hK hR (syms_at hx (by omega)).2.2] at this
    simp only [List.getD_eq_getElem?_getD, List.getElem?_eq_getElem h1, List.getElem?_eq_getElem h2, Option.getD_some] at this
    rw [this]
    have := (hx (x[j + 2 * R]) (List.getElem_mem _)).1
    omega
end Go.Proofs.YtmhiambkfdkkbaaGreatDoor

namespace Go.Proofs.YtmhiambkfdkkbaaGreatDoor
open Go.RowKit
set_option maxRecDepth 100000

theorem run_appI {w : World} (B : Nat) (ty : TypeId) (v u : Value) (xs ys : List Int) (hown : OwnI B w v xs) (hu : IntsAt w u ys) (hlen : xs.length + ys.length ≤ 17592186044416) (hB : B ≤ w.heap.size) :
    ∃ v' w', (Builtin.append_ #[22, 22] ty #[v, u]).run Tryz.prog w = .ok v' w' ∧ OwnI B w' v' (xs ++ ys) ∧ Below B w w' ∧ w.grownBy w' v.ownBlock ∧ (v'.ownBlock = v.ownBlock ∨ v'.ownBlock = some w.heap.size) := by
  obtain ⟨i, hi, hz0, hz1, hz2⟩ := info_parts iInt
  obtain ⟨ao, cap, rfl, h1, h2, h3, h4⟩ := hu
  cases ao with
  | none =>
    obtain rfl := h3 rfl
    have hy : ys = [] := List.length_eq_zero_iff.1 (by omega)
    subst hy
    have hrun := run_append_owned_none (P := Tryz.prog) w B 22 ty 3 i 1 uInts hi v xs.length _ hown
    exact ⟨_, _, hrun, by simpa using hown, Below.refl _ _, World.grownBy.refl _ _, .inl rfl⟩
  | some p =>
    obtain ⟨v', w', hr, ho', hgr, _, hat⟩ := run_append_own_at (P := Tryz.prog) w B 22 ty 3 i (.int .i64 0) 1 8 uInts hi hz0 hz1 hz2 rfl (by decide) v xs.length _ hown p ys.length cap (ys.map (.int .i64)) (by simp) (fun j u hj => by
      have hjl : j < ys.length := by have := (List.getElem?_eq_some_iff.1 hj).1; simpa using this
      have := h4 j hjl
      simp only [valAt] at this
      rw [this, ← hj]; simp [hjl]) (ints_oneCell _ _) (by unfold maxLen; omega) (by omega) hB
    exact ⟨v', w', hr, by simpa [OwnI] using ho', (Below.refl _ _).grown hgr hB (fun k hk => (hown.lt k hk).1), hgr, hat⟩

/-- append(s, t...) in a region that draws. -/
theorem step_appI {ops : Array Oper} {o : Oper} {a : Act} {w : World} {K : Act → World → Prop} {Q : Exit → Act → World → Prop} {Ep : Prop} (hgd : o.guard = none) (s x : Operand)
    (ho : o.op = .call { callee := .builtin .append, args := #[s, x], argTypes := #[22, 22] })
    (B : Nat) (v u : Value) (xs ys : List Int) (hs : a.eval s = v) (hx : a.eval x = u) (hown : OwnI B w v xs) (hu : IntsAt w u ys)
    (hlen : xs.length + ys.length ≤ 17592186044416) (hB : B ≤ w.heap.size)
    (h : ∀ v' w', OwnI B w' v' (xs ++ ys) → Below B w w' → K (a.put o.dst v') w') :
    if Region.wanted o (yielded ops a.tmps) = true then Oper.wp Tryz.prog o a w K Q else Ep := by
  have hw : Region.wanted o (yielded ops a.tmps) = true := by simp [Region.wanted, hgd]
  rw [if_pos hw]
  obtain ⟨v', w', hr, h2, h3, _, _⟩ := run_appI B o.type v u xs ys hown hu hlen hB
  unfold Oper.wp
  simp [execOp, ho, resolve, invoke, builtin, hs, hx, hr, Result.andThen]
  exact h v' w' h2 h3

theorem copy_any (v : Value) (xs : List Int) (w : World) (h : IntsAt w v xs) (hl : xs.length ≤ 17592186044416) :
    Calls Tryz.prog 130 #[v] w (Ret1 (fun x w' => OwnI w.heap.size w' x xs) w) := by
  have b0 := belowAlloc w (.cells #[] 3)
  have ho := OwnI.lit w.heap.size w (Nat.le_refl _) [] (by unfold maxLen; simp) #[] rfl 0 rfl
  replace ho := Lib.hid ho
  replace h := Lib.hid (h.below b0)
  go_enter Tryz.func130, Tryz.ntmps130
  go_wp2_with (at_builtin; refine wpl_append rfl _ _ rfl w.heap.size _ v [] xs ho.out h.out rfl rfl (by simpa using hl) (by simp) ?_)
  intro v' w' h2 h3 _ _
  go_wp2
  go_ret
  exact ⟨_, rfl, Below.trans (b0.mono (Nat.le_refl _)) h3, h2⟩
end Go.Proofs.YtmhiambkfdkkbaaGreatDoor
