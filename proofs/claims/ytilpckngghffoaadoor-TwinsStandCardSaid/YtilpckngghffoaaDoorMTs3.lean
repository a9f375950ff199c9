/-
  Walks: forms.symbol, forms.behind$1.
  Walk: forms.made, with a function that holds two things.
  Walks: forms.behind, forms.check, forms.wrong, forms.Compose.
  Walks: forms.widened, forms.Widen and the function that they hand to forms.made.
  Plain mathematics: the preimages of a word, begin by begin; the next word; one preimage to each begin where the last place permutes.
  Walks: word.Check, word.Next.
  Walks: rule.Small, package overlap's first functions.
  Walks: overlap.Nodes, overlap.Edge at a small rule.
  Walks: forms.Widen at a rule, pairs.working.
  Walks: slices.ContainsFunc, graph.Check.
  The memory of graph's search under names: its box, the marks, the two stacks; what a store, an append, a shorter stack does to it.
  Walk: slices.Repeat of a list of one number.
  Walks: slices.Values, its iterator, slices.AppendSeq, slices.Collect, slices.Sorted over it (after the kit's worked examples GgSlicesIterAtTheDump and GgPosAtTheDump).
  Walks: slices.Sort (its contract off the shelf), slices.Sorted over slices.Values.
  Walks: slices.Reverse (its contract off the shelf), word.Back.
  Walk: graph.first: breadth first.
  Walks: the two functions within pairs.Words.
  Lists of ints of one's own: a row of slices, each a row of its own; what a new list, an append, a store does to them.
  Rows of structs of two ints: append, the address of an element, what a list of such rows reads.
  Walk: graph.back: the arrows the other way round.
  Walk: pairs.arrows.
  Plain mathematics: an ascending list without its doubles.
  Walks: slices.Compact (its contract off the shelf) at a list of one's own.
-/
import Derived.Test.YtilpckngghffoaaDoorMTs2
import Derived.Deep.DeepCutAuto
import Derived.BigQuiet
import Derived.Deep.QuietTactic
import Derived.Ground.NamesProg
import Derived.Shelf.Bits.Mul64
import Derived.RangeFuncBox
import Derived.RangeFuncLeaves
import Derived.Shelf.Abstract
import Derived.OwnWalkIn
import Derived.TacticsInMore
import Derived.LoopNIn
import Derived.LoopIn
import Derived.Maps.AppendAt
import Derived.Ground.SlgmProg
import Derived.Shelf.SlGeneric
import Derived.Shelf.SortM.Plain
import Derived.Shelf.SortM.SortNone
import Derived.Lib.SlKeysI
import Derived.Shelf.Slices.Cells
import Derived.Deep.LoopGhost
namespace Go.Proofs.YtilpckngghffoaaDoor
open Go.RowKit
set_option maxRecDepth 100000

theorem symbol_any (K R : Nat) (va : Option Addr) (vn vc : Nat) (T : List Int) (u : Value) (ys : List Int) (w : World) (h : IntsAt w (.slice va vn vc) T) (hr : RuleOk K R T) (hu : IntsAt w u ys) (hy : Syms K ys) (hyl : ys.length = 2 * R + 1) :
    Calls Tryd.prog 74 #[.agg #[.int .i64 K, .int .i64 R, .slice va vn vc], u] w (Ret1 (fun x _ => x = .int .i64 (T.getD (numW K ys) 0)) w) := by
  have hb0 := belowAlloc w (.cells #[.int .i64 K, .int .i64 R, .slice va vn vc] 24)
  have hR := hr.r3
  have hk1 := hr.k1
  have hk4 := hr.k4
  have l1 := hu.len
  have hb7 : ys.length ≤ 7 := by omega
  have hnl : numW K ys < T.length := by rw [hr.len, ← hyl]; exact numW_lt ys hy
  generalize hy0 : T.getD (numW K ys) 0 = y0
  replace hy0 := Lib.hid hy0
  replace hnl := Lib.hid hnl
  replace hyl := Lib.hid hyl
  replace h := Lib.hid (h.below hb0)
  replace hu := Lib.hid (hu.below hb0)
  replace hy := Lib.hid hy
  replace hr := Lib.hid hr
  obtain ⟨ua, un, uc, rfl⟩ := hu.out.shape
  go_enter Tryd.func74, Tryd.ntmps74
  go_wp2
  go_loop [5, 10] (fun n i => ∃ j : Nat, j ≤ ys.length ∧ i = .int .i64 j ∧ n = .int .i64 (numW K (ys.take j))) (fun _ i => ys.length - (intOf i).toNat)
  case atStart => exact ⟨0, by omega, rfl, rfl⟩
  case round =>
    obtain ⟨j, hj, rfl, rfl⟩ := hrel
    by_cases hjl : j < ys.length
    · have i1 := hu.out.idx j hjl
      have c1 := hu.out.cell j hjl
      have hx := hy.out ys[j] (by simp)
      have hn : Hid (numW K (ys.take (j + 1)) = numW K (ys.take j) * K + ys[j].toNat) := by
        show _ = _
        rw [take_snoc ys j hjl, numW_snoc]
      have hn2 : numW K (ys.take j) ≤ 16384 := by
        have h1 := numW_lt (ys.take j) (fun x hx => hy.out x (List.mem_of_mem_take hx))
        have h2 := pw_le hk1 hk4 (i := (ys.take j).length) (by simp; omega)
        omega
      generalize ys[j] = x at c1 hx hn
      generalize numW K (ys.take j) = N at hn hn2
      have hm1 : 0 ≤ (N : Int) * (K : Int) := Int.mul_nonneg (by omega) (by omega)
      have hm2 : (N : Int) * (K : Int) ≤ 65536 := by
        have : N * K ≤ 65536 := Nat.mul_le_mul hn2 hk4
        have h2 := Int.ofNat_le.2 this
        rw [Int.natCast_mul] at h2
        exact h2
      go_wp2
      go_round
      case rel => exact ⟨j + 1, by omega, by go_num, by rw [hn.out]; go_num⟩
      case measure => simp [intOf]; omega
    · obtain rfl : j = ys.length := by omega
      rw [List.take_length]
      have i2 := h.out.idx (numW K ys) hnl.out
      have c2 := h.out.cellD (numW K ys) hnl.out
      rw [hy0.out] at c2
      clear hy0 hnl
      generalize numW K ys = N at i2 c2
      go_wp2
      go_ret
      exact ⟨_, rfl, hb0, rfl⟩

end Go.Proofs.YtilpckngghffoaaDoor

namespace Go.Proofs.YtilpckngghffoaaDoor
open Go.RowKit
set_option maxRecDepth 100000

/-- The table of a function of windows. -/
def madeP (K n : Nat) (s : List Int → Int) (m : Nat) : List Int := (List.range m).map fun x => s (digs K n x)
theorem madeP_length (K n : Nat) (s : List Int → Int) (m : Nat) : (madeP K n s m).length = m := by simp [madeP]

theorem madeP_set (K n : Nat) (s : List Int → Int) (m P : Nat) (h : m < P) : (madeP K n s m ++ List.replicate (P - m) (0 : Int)).set m (s (digs K n m)) = madeP K n s (m + 1) ++ List.replicate (P - (m + 1)) 0 := by
  rw [List.set_append_right _ _ (by rw [madeP_length]; exact Nat.le_refl _), madeP_length, Nat.sub_self, show P - m = (P - (m + 1)) + 1 by omega, List.replicate_succ, List.set_cons_zero, madeP, madeP, List.range_succ, List.map_append, List.append_assoc]
  rfl

set_option maxHeartbeats 800000 in
theorem made_two0 (K R F : Nat) (c1 c2 : Value) (s : List Int → Int) (w : World) (hk1 : 1 ≤ K) (hk4 : K ≤ 4) (hR : R ≤ 3)
    (eg : ∀ args w, (callFunc F args).run Tryd.prog w = .ok (.enter F args) w)
    (hF : ∀ (v : Value) (ys : List Int) (w' : World), Below w.heap.size w w' → IntsAt w' v ys → Syms K ys → ys.length = 2 * R + 1 → Calls Tryd.prog F #[v, c1, c2] w' (Ret1 (fun x _ => x = .int .i64 (s ys)) w')) :
    Calls Tryd.prog 72 #[.int .i64 K, .int .i64 R, .func (.func F) #[] #[c1, c2]] w (Ret1 (fun x w' => ∃ a n c, x = .agg #[.int .i64 K, .int .i64 R, .slice a n c] ∧ OwnI w.heap.size w' (.slice a n c) (madeP K (2 * R + 1) s (pw K (2 * R + 1)))) w) := by
  have hpl := pw_le hk1 hk4 (i := 2 * R + 1) (by omega)
  replace hF := Lib.hid hF
  go_enter Tryd.func72, Tryd.ntmps72
  go_wp2_with fail
  refine (size_ok K R _ hk1 hk4 hR).mono ?_
  rintro e w' ⟨rfl, rfl⟩
  go_wp2_with fail
  have hb0 := belowAlloc w (.cells #[.int .i64 0, .int .i64 0, .slice none 0 0] 24)
  obtain ⟨tv, w1, hmk, ho1, hb1⟩ := run_makeI ((pw K (2 * R + 1) : Nat) : Int) (pw K (2 * R + 1)) (w.alloc (.cells #[.int .i64 0, .int .i64 0, .slice none 0 0] 24)) rfl (by omega)
  obtain ⟨ta, tn, tc, rfl⟩ := ho1.at.shape
  rw [hmk]
  simp only [Result.andThen]
  clear hmk
  generalize hN : 2 * R + 1 = N at *
  go_wp2_with fail
  obtain ⟨wv, w2, hmk2, ho2, hb2⟩ := run_makeI (2 * (R : Int) + 1) N (w1.alloc (.cells #[.int .i64 K, .int .i64 R, .slice ta tn tc] 24)) (by omega) (by omega)
  obtain ⟨wa, wn, wc, rfl⟩ := ho2.at.shape
  rw [hmk2]
  simp only [Result.andThen]
  clear hmk2
  obtain ⟨z0, z1, z2, -, -, -⟩ := cells3 hb2
  have lt := (ho1.at.len)
  rw [List.length_replicate] at lt
  have hN7 : N ≤ 7 := by omega
  replace hN := Lib.hid hN
  have ltb : ∀ k, (Value.slice ta tn tc).ownBlock = some k → k < w1.heap.size := fun k hk => (ho1.lt k hk).2
  have lwn := ho2.at.len
  rw [List.length_replicate] at lwn
  have ho1' := Lib.hid ((ho1.alloc (.cells #[.int .i64 K, .int .i64 R, .slice ta tn tc] 24)).below hb2)
  have zz := Lib.hid (And.intro z0 (And.intro z1 z2))
  have hbw := Lib.hid (hb1.trans ((Below.step (belowAlloc w1 (.cells #[.int .i64 K, .int .i64 R, .slice ta tn tc] 24)) hb2).mono hb1.size))
  replace ho2 := Lib.hid ho2
  replace ltb := Lib.hid ltb
  have hsz1 := hb1.size
  simp at hsz1
  have hM : pw K N = pw K N := rfl
  clear hM
  go_wp2
  go_loopw [32] (fun i wr => ∃ m : Nat, m ≤ pw K N ∧ i = .int .i64 m ∧ OwnI (w.heap.size + 1) wr (.slice ta tn tc) (madeP K N s m ++ List.replicate (pw K N - m) 0) ∧ (∃ p : List Int, p.length = N ∧ OwnI (w1.heap.size + 1) wr (.slice wa wn wc) p) ∧
      (wr.cell? ⟨w1.heap.size, 0, none⟩ = some (.int .i64 K) ∧ wr.cell? ⟨w1.heap.size, 1, none⟩ = some (.int .i64 R) ∧ wr.cell? ⟨w1.heap.size, 2, none⟩ = some (.slice ta tn tc)) ∧
      Below (w.heap.size + 1) (w.alloc (.cells #[.int .i64 0, .int .i64 0, .slice none 0 0] 24)) wr) (fun i _ => pw K N - (intOf i).toNat)
  case atStart => exact ⟨0, by omega, rfl, by simpa [madeP] using ho1'.out, ⟨List.replicate N 0, by simp, by simpa using ho2.out⟩, zz.out, by simpa using hbw.out⟩
  case round =>
    obtain ⟨m, hm, rfl, hT, ⟨p, hp, hP⟩, hz, hbO⟩ := hrel
    obtain ⟨wo, rfl⟩ : ∃ wo : World, wo = wr := ⟨_, rfl⟩
    replace hz := Lib.hid hz
    replace hT := Lib.hid hT
    by_cases hml : m < pw K N
    · have hsz2 : w1.heap.size < wo.heap.size := World.block_lt_of_cell? _ _ hz.out.1
      have hK0 : ((K : Int) == 0) = false := by rw [beq_eq_false_iff_ne]; omega
      have hK1 : ¬ (K : Int) = 0 := by omega
      have hK2 : (0 : Int) < K := by omega
      go_wp2
      go_loopw [12, 38] (fun x i wr => ∃ j : Nat, j ≤ N ∧ i = .int .i64 j ∧ x = .int .i64 (m / pw K j : Nat) ∧ OwnI (w1.heap.size + 1) wr (.slice wa wn wc) (p.take (N - j) ++ (digs K N m).drop (N - j)) ∧ Below (w1.heap.size + 1) wo wr) (fun _ i _ => N - (intOf i).toNat)
      case atStart => exact ⟨0, by omega, rfl, by simp [pw], by rw [Nat.sub_zero, List.drop_of_length_le (by rw [digs_length]; exact Nat.le_refl _), List.append_nil, List.take_of_length_le (by omega)]; exact hP, Below.refl _ _⟩
      case round =>
        obtain ⟨j, hj, rfl, rfl, hO, hbI⟩ := hrel
        obtain ⟨wi, rfl⟩ : ∃ wi : World, wi = wr := ⟨_, rfl⟩
        by_cases hjl : j < N
        · have hXl : (p.take (N - j) ++ (digs K N m).drop (N - j)).length = N := by simp [digs_length]; omega
          have i1 : ∀ w', (Instr.indexAt 22 (.slice wa wn wc) (.int .i64 ((N : Int) - 1 - (j : Int)))).run Tryd.prog w' = .ok (.pointer (some (valAt (.slice wa wn wc) (N - 1 - j)))) w' := by
            intro w'
            have := hO.at.idxI ((N : Int) - 1 - (j : Int)) (by omega) (by rw [hXl]; omega) w'
            rwa [show ((N : Int) - 1 - (j : Int)).toNat = N - 1 - j by omega] at this
          have c1 := hO.at.cellD (N - 1 - j) (by rw [hXl]; omega)
          have f1 := hO.frz (N - 1 - j) (by rw [hXl]; omega)
          have hS := hO.set (N - 1 - j) (by rw [hXl]; omega) ((m / pw K j % K : Nat) : Int)
          have hbS := hO.setBelow hbI (N - 1 - j) (by rw [hXl]; omega) (.int .i64 ((m / pw K j % K : Nat) : Int))
          rw [digs_fill K N m j hjl p hp] at hS
          replace hS := Lib.hid hS
          replace hbS := Lib.hid hbS
          have hqd : m / pw K j / K = m / pw K (j + 1) := by rw [Nat.div_div_eq_div_mul, ← pw_succ]
          replace hqd := Lib.hid hqd
          have hql : m / pw K j ≤ 16384 := Nat.le_trans (Nat.div_le_self _ _) (by omega)
          generalize (p.take (N - j) ++ (digs K N m).drop (N - j)).getD (N - 1 - j) 0 = y at c1
          clear hXl hO
          generalize m / pw K j = q at *
          rw [Int.natCast_emod] at hS hbS
          have hd0 : 0 ≤ (q : Int) / (K : Int) := Int.ediv_nonneg (by omega) (by omega)
          have hd1 : (q : Int) / (K : Int) ≤ 16384 := by
            have h1 : q / K ≤ q := Nat.div_le_self _ _
            have h2 : q / K ≤ 16384 := by omega
            exact_mod_cast h2
          have hdw : IntKind.i64.wrap ((q : Int) / (K : Int)) = (q : Int) / (K : Int) := wrapK (by omega) (by omega)
          go_wp2
          go_roundw
          case rel => exact ⟨j + 1, by omega, by go_num, by rw [← hqd.out]; simp, hS.out, hbS.out⟩
          case measure => simp [intOf]; omega
        · have hjN : j = N := by omega
          subst hjN
          rw [Nat.sub_self, List.take_zero, List.drop_zero, List.nil_append] at hO
          have hbW : Below w.heap.size w wi := ((belowAlloc w _).trans (hbO.mono (by omega))).trans (hbI.mono (by omega))
          have hz2 := hbI.cell (p := ⟨w1.heap.size, 2, none⟩) (by simp)
          have hTl : m < (madeP K j s m ++ List.replicate (pw K j - m) (0 : Int)).length := by simp [madeP_length]; omega
          have hTi := hT.out.belowB hbI (fun k hk => by have := ltb.out k hk; omega)
          have i2 := hTi.at.idx m hTl
          have c2 := hTi.at.cellD m hTl
          have f2 := hTi.frz m hTl
          have b2 := hTi.at.blk m hTl
          have z2i := hz2.trans hz.out.2.2
          have zbi : (⟨w1.heap.size, 2, none⟩ : Addr).block < wi.heap.size := World.block_lt_of_cell? _ _ z2i
          generalize (madeP K j s m ++ List.replicate (pw K j - m) (0 : Int)).getD m 0 = o at c2
          replace hTi := Lib.hid hTi
          replace hO := Lib.hid hO
          replace hbW := Lib.hid hbW
          replace hTl := Lib.hid hTl
          clear hz2
          have hvb : (valAt (.slice ta tn tc) m).block ≠ w1.heap.size := by
            have := ltb.out _ (hT.out.toV.blkB m (by simpa using hTl.out)).1
            omega
          have hdl : m + 1 ≤ pw K j := hml
          go_wp2
          go_region_held3 (fun w' => w'.cell? ⟨w1.heap.size, 2, none⟩ = some (.slice ta tn tc)) (go_keep)
            (first | (refine (hF.out _ (digs K j m) _ (by first | exact hbW.out.drew | exact hbW.out) (by first | exact hO.out.at.drew | exact hO.out.at) (digs_syms hk1 _ _) (by rw [digs_length])).mono ?_; rintro e w5 ⟨x5, rfl, hb5, rfl⟩; have y1 := (hb5.cell zbi).trans z2i; have y2 := (hb5.cell b2).trans c2; have y3 := (hb5.frozen b2).trans f2; have bb : Below wi.heap.size wi w5 := ((Below.refl _ _).drew).trans hb5))
          have hT5 := (hTi.out.drew.below hb5).set m hTl.out (s (digs K j m))
          rw [madeP_set K j s m _ hml] at hT5
          have hO5 := (hO.out.drew.below hb5).setOther (hTi.out.drew.below hb5) (by
            intro e
            have e1 := (hT.out.toV.blkB m (by simpa using hTl.out)).1
            have e2 := (hO.out.lt _ (e.trans e1)).1
            have e3 := ltb.out _ e1
            omega) m hTl.out (.int .i64 (s (digs K j m)))
          have hB5 := ((hbO.trans (hbI.mono (by omega))).trans (bb.mono (by omega))).setCell ((hTi.out.blkB m hTl.out)) (.int .i64 (s (digs K j m)))
          have x0 := (World.cell?_setCell_far w5 (valAt (.slice ta tn tc) m) ⟨w1.heap.size, 0, none⟩ (.int .i64 (s (digs K j m))) hvb).trans (((bb.cell (p := ⟨w1.heap.size, 0, none⟩) zbi)).trans ((hbI.cell (p := ⟨w1.heap.size, 0, none⟩) (by simp)).trans hz.out.1))
          have x1 := (World.cell?_setCell_far w5 (valAt (.slice ta tn tc) m) ⟨w1.heap.size, 1, none⟩ (.int .i64 (s (digs K j m))) hvb).trans (((bb.cell (p := ⟨w1.heap.size, 1, none⟩) zbi)).trans ((hbI.cell (p := ⟨w1.heap.size, 1, none⟩) (by simp)).trans hz.out.2.1))
          have x2 := (World.cell?_setCell_far w5 (valAt (.slice ta tn tc) m) ⟨w1.heap.size, 2, none⟩ (.int .i64 (s (digs K j m))) hvb).trans y1
          have xx := Lib.hid (And.intro x0 (And.intro x1 x2))
          clear x0 x1 x2
          replace hT5 := Lib.hid hT5
          replace hO5 := Lib.hid hO5
          replace hB5 := Lib.hid hB5
          go_wp2
          go_roundw
          case rel => exact ⟨m + 1, by omega, by go_num, hT5.out, ⟨digs K j m, digs_length .., hO5.out⟩, xx.out, hB5.out⟩
          case measure => simp [intOf]; omega
    · obtain rfl : m = pw K N := by omega
      rw [Nat.sub_self, List.replicate_zero, List.append_nil] at hT
      obtain ⟨z0, z1, z2⟩ := hz.out
      obtain ⟨y0, y1, y2, f0, f1, f2⟩ := cells3 (w := w) (show Below (w.alloc (.cells #[.int .i64 0, .int .i64 0, .slice none 0 0] 24)).heap.size _ wo by simpa using hbO)
      replace hbO := Lib.hid hbO
      go_wp2
      refine bodyPost_ret (v := .agg #[.int .i64 K, .int .i64 R, .slice ta tn tc]) (by simp [results, Tryd.results72, go_sem, y0, y1, y2]) rfl ⟨_, rfl, ?_, ta, tn, tc, rfl, ?_⟩
      · exact (((belowAlloc w _).trans (hbO.out.mono (by omega))).setCell (by simp) _).setCell (by simp) _ |>.setCell (by simp) _
      · rw [hN.out]; exact (((hT.out.setBelowBase (a := ⟨w.heap.size, 0, none⟩) (by simp) _).setBelowBase (a := ⟨w.heap.size, 1, none⟩) (by simp) _).setBelowBase (a := ⟨w.heap.size, 2, none⟩) (by simp) _).mono (Nat.le_succ _)

theorem made_two (K R F : Nat) (c1 c2 : Value) (s : List Int → Int) (w : World) (hk1 : 1 ≤ K) (hk4 : K ≤ 4) (hR : R ≤ 3) (Ri : Int) (hRi : Ri = R)
    (eg : ∀ args w, (callFunc F args).run Tryd.prog w = .ok (.enter F args) w)
    (hF : ∀ (v : Value) (ys : List Int) (w' : World), Below w.heap.size w w' → IntsAt w' v ys → Syms K ys → ys.length = 2 * R + 1 → Calls Tryd.prog F #[v, c1, c2] w' (Ret1 (fun x _ => x = .int .i64 (s ys)) w')) :
    Calls Tryd.prog 72 #[.int .i64 K, .int .i64 Ri, .func (.func F) #[] #[c1, c2]] w (Ret1 (fun x w' => ∃ a n c, x = .agg #[.int .i64 K, .int .i64 R, .slice a n c] ∧ OwnI w.heap.size w' (.slice a n c) (madeP K (2 * R + 1) s (pw K (2 * R + 1)))) w) := by
  subst hRi
  exact made_two0 K R F c1 c2 s w hk1 hk4 hR eg hF
end Go.Proofs.YtilpckngghffoaaDoor

namespace Go.Proofs.YtilpckngghffoaaDoor
open Go.RowKit
set_option maxRecDepth 100000

abbrev zR : Value := .agg #[.int .i64 0, .int .i64 0, .slice none 0 0]
def sForms : ByteArray := ⟨#[102, 111, 114, 109, 115]⟩
theorem forms_check (r : Nat → Addr) (at_ : Int) (k R : Int) (va : Option Addr) (vn vc : Nat) (xs : List Int) (w : World) (hg : Glob r w) (h : IntsAt w (.slice va vn vc) xs) :
    Calls Tryd.prog 56 #[.int .i64 at_, .agg #[.int .i64 k, .int .i64 R, .slice va vn vc]] w (Ret1 (fun x w' => ErrIs r w' (under sForms at_ (checkP k R xs)) x) w) := by
  have hb0 := belowAlloc w (.cells #[.int .i64 k, .int .i64 R, .slice va vn vc] 24)
  replace hg := Lib.hid (hg.below hb0)
  replace h := Lib.hid (h.below hb0)
  go_enter Tryd.func56, Tryd.ntmps56
  go_wp2_with fail
  refine (check_any r k R _ xs _ hg.out h.out).mono ?_
  rintro e w1 ⟨x, rfl, hb, he⟩
  go_wp2_with fail
  refine (under_any r _ _ _ _ _ he).mono ?_
  rintro e w2 ⟨x, rfl, hb', he⟩
  go_wp2
  go_ret
  exact ⟨_, rfl, Below.step hb0 (Below.step hb hb'), he⟩

end Go.Proofs.YtilpckngghffoaaDoor

namespace Go.Proofs.YtilpckngghffoaaDoor
open Go.RowKit
set_option maxRecDepth 100000

set_option maxHeartbeats 1000000 in
theorem widened1_any (K R d : Nat) (va : Option Addr) (vn vc : Nat) (T : List Int) (p q : Nat) (v : Value) (ys : List Int) (w : World)
    (h : IntsAt w (.slice va vn vc) T) (hr : RuleOk K R T) (hv : IntsAt w v ys) (hy : Syms K ys) (hyl : ys.length = 2 * (R + d) + 1)
    (hRd : R + d ≤ 3)
    (x0 : w.cell? ⟨p, 0, none⟩ = some (.int .i64 K)) (x1 : w.cell? ⟨p, 1, none⟩ = some (.int .i64 R)) (x2 : w.cell? ⟨p, 2, none⟩ = some (.slice va vn vc)) (x3 : w.cell? ⟨q, 0, none⟩ = some (.int .i64 d)) :
    Calls Tryd.prog 73 #[v, .pointer (some ⟨p, 0, none⟩), .pointer (some ⟨q, 0, none⟩)] w (Ret1 (fun x _ => x = .int .i64 (T.getD (numW K ((ys.drop d).take (2 * R + 1))) 0)) w) := by
  have lv := hv.len
  obtain ⟨u, hu, hiu⟩ := hv.mid d (ys.length - d) (by omega) (by omega)
  have eL : (ys.take (ys.length - d)).drop d = (ys.drop d).take (2 * R + 1) := by
    rw [List.drop_take]; congr 1; omega
  rw [eL] at hiu
  have hD : (ys.length : Int) - (d : Int) = ((ys.length - d : Nat) : Int) := by omega
  have hle : ys.length ≤ 7 := by omega
  have hsy : Syms K ((ys.drop d).take (2 * R + 1)) := syms_take (syms_drop hy _) _
  have hsl : ((ys.drop d).take (2 * R + 1)).length = 2 * R + 1 := by simp; omega
  generalize hY : T.getD (numW K ((ys.drop d).take (2 * R + 1))) 0 = Y
  generalize (ys.drop d).take (2 * R + 1) = zs at *
  obtain ⟨e, hee⟩ : ∃ e, ys.length - d = e := ⟨_, rfl⟩
  rw [hee] at hD hu
  have he7 : e ≤ 7 := by omega
  have hwe : IntKind.i64.wrap (e : Int) = e := wrapK (by omega) (by omega)
  obtain ⟨L, hL⟩ : ∃ L, ys.length = L := ⟨_, rfl⟩
  rw [hL] at lv hD hle
  have hd3 : d ≤ 3 := by omega
  replace hY := Lib.hid hY
  replace h := Lib.hid h
  replace hv := Lib.hid hv
  replace hy := Lib.hid hy
  replace hsy := Lib.hid hsy
  replace hsl := Lib.hid hsl
  replace hyl := Lib.hid hyl
  replace hr := Lib.hid hr
  replace hiu := Lib.hid hiu
  replace hL := Lib.hid hL
  clear hee eL
  go_enter Tryd.func73, Tryd.ntmps73
  go_upto_region 1 with fail
  refine wp_region_plan (fun w' => w'.cell? ⟨p, 0, none⟩ = some (.int .i64 K) ∧ w'.cell? ⟨p, 1, none⟩ = some (.int .i64 R) ∧ w'.cell? ⟨p, 2, none⟩ = some (.slice va vn vc) ∧ w'.cell? ⟨q, 0, none⟩ = some (.int .i64 d)) 9 [(0, true), (1, true), (2, true), (3, true), (4, true), (5, true), (6, true), (7, true), (8, false)] (by kernel_rfl) (by kernel_rfl) ?_
  have hS : w.drew.cell? ⟨p, 0, none⟩ = some (.int .i64 K) ∧ w.drew.cell? ⟨p, 1, none⟩ = some (.int .i64 R) ∧ w.drew.cell? ⟨p, 2, none⟩ = some (.slice va vn vc) ∧ w.drew.cell? ⟨q, 0, none⟩ = some (.int .i64 d) := ⟨x0, x1, x2, x3⟩
  refine headY (v := ?_) (some 5) rfl rfl (Or.inl ⟨by rfl, ?_⟩) hS ?_
  rotate_left
  · rintro W' ⟨s0, s1, s2, s3⟩; go_simp; try with_reducible rfl
  simp only [Act.put, List.setIfInBounds_toArray, List.set_cons_zero, List.set_cons_succ]
  refine headY (v := ?_) (some 6) rfl rfl (Or.inl ⟨by rfl, ?_⟩) hS ?_
  rotate_left
  · rintro W' ⟨s0, s1, s2, s3⟩; go_simp; try with_reducible rfl
  simp only [Act.put, List.setIfInBounds_toArray, List.set_cons_zero, List.set_cons_succ]
  refine headY (v := ?_) (some 7) rfl rfl (Or.inl ⟨by rfl, ?_⟩) hS ?_
  rotate_left
  · rintro W' ⟨s0, s1, s2, s3⟩; go_simp; try with_reducible rfl
  simp only [Act.put, List.setIfInBounds_toArray, List.set_cons_zero, List.set_cons_succ]
  refine headY (v := ?_) (some 8) rfl rfl (Or.inl ⟨by rfl, ?_⟩) hS ?_
  rotate_left
  · rintro W' ⟨s0, s1, s2, s3⟩; go_simp; try with_reducible rfl
  simp only [Act.put, List.setIfInBounds_toArray, List.set_cons_zero, List.set_cons_succ]
  refine headY (v := ?_) (some 9) rfl rfl (Or.inl ⟨by rfl, ?_⟩) hS ?_
  rotate_left
  · rintro W' ⟨s0, s1, s2, s3⟩; go_simp; try with_reducible rfl
  simp only [Act.put, List.setIfInBounds_toArray, List.set_cons_zero, List.set_cons_succ]
  refine headY (v := ?_) (some 10) rfl rfl (Or.inl ⟨by rfl, ?_⟩) hS ?_
  rotate_left
  · rintro W' ⟨s0, s1, s2, s3⟩; go_simp; try with_reducible rfl
  simp only [Act.put, List.setIfInBounds_toArray, List.set_cons_zero, List.set_cons_succ]
  refine headY (v := ?_) (some 11) rfl rfl (Or.inl ⟨by rfl, ?_⟩) hS ?_
  rotate_left
  · rintro W' ⟨s0, s1, s2, s3⟩; go_simp; try with_reducible rfl
  simp only [Act.put, List.setIfInBounds_toArray, List.set_cons_zero, List.set_cons_succ]
  refine headY (v := ?_) (some 12) rfl rfl (Or.inl ⟨by rfl, ?_⟩) hS ?_
  rotate_left
  · rintro W' ⟨s0, s1, s2, s3⟩; go_simp; try with_reducible rfl
  simp only [Act.put, List.setIfInBounds_toArray, List.set_cons_zero, List.set_cons_succ]
  refine headC rfl (fun KK hK => ?_)
  go_simp
  refine (symbol_any K R va vn vc T u zs _ h.out.drew hr.out hiu.out.drew hsy.out hsl.out).mono ?_
  rintro e w1 ⟨x, rfl, b1, rfl⟩
  rw [hY.out]
  have hS1 : w1.cell? ⟨p, 0, none⟩ = some (.int .i64 K) ∧ w1.cell? ⟨p, 1, none⟩ = some (.int .i64 R) ∧ w1.cell? ⟨p, 2, none⟩ = some (.slice va vn vc) ∧ w1.cell? ⟨q, 0, none⟩ = some (.int .i64 d) := ⟨cell_keep b1 hS.1, cell_keep b1 hS.2.1, cell_keep b1 hS.2.2.1, cell_keep b1 hS.2.2.2⟩
  refine hK _ _ hS1 ?_
  clear hK KK
  refine head0 ?_
  simp only [List.drop_succ_cons, List.drop_zero]
  clear hS hS1
  go_wp2
  refine NoPanic.normal ?_
  go_wp2
  go_ret
  exact ⟨_, rfl, Below.step ((Below.refl _ _).drew) b1, rfl⟩
theorem eg_widened1 (args : Array Value) (w : World) : (callFunc 73 args).run Tryd.prog w = .ok (.enter 73 args) w := by kernel_rfl
theorem madeP_wide (K R d : Nat) (T : List Int) : madeP K (2 * (R + d) + 1) (fun ys => T.getD (numW K ((ys.drop d).take (2 * R + 1))) 0) (pw K (2 * (R + d) + 1)) = wideT K R d T := rfl

set_option maxHeartbeats 1000000 in
theorem widened_any (K R d : Nat) (va : Option Addr) (vn vc : Nat) (T : List Int) (w : World) (h : IntsAt w (.slice va vn vc) T) (hr : RuleOk K R T) (hRd : R + d ≤ 3) (Ri : Int) (hRi : Ri = ((R + d : Nat) : Int)) :
    Calls Tryd.prog 58 #[.agg #[.int .i64 K, .int .i64 R, .slice va vn vc], .int .i64 Ri] w (Ret1 (fun x w' => ∃ a n c, x = .agg #[.int .i64 K, .int .i64 ((R + d : Nat) : Int), .slice a n c] ∧ OwnI w.heap.size w' (.slice a n c) (wideT K R d T)) w) := by
  have b0 := Below.step (belowAlloc w (.cells #[.int .i64 K, .int .i64 R, .slice va vn vc] 24)) (belowAlloc _ (.cells #[.int .i64 0, .int .i64 0, .slice none 0 0] 24))
  have b3 := Below.step b0 (belowAlloc _ (.cells #[.int .i64 d] 3))
  have q1 : Box3 (((w.alloc (.cells #[.int .i64 K, .int .i64 R, .slice va vn vc] 24)).alloc (.cells #[.int .i64 0, .int .i64 0, .slice none 0 0] 24)).alloc (.cells #[.int .i64 d] 3)) w.heap.size (.int .i64 K) (.int .i64 R) (.slice va vn vc) := by simp [Box3, go_sem]
  have q2 : Box3 (((w.alloc (.cells #[.int .i64 K, .int .i64 R, .slice va vn vc] 24)).alloc (.cells #[.int .i64 0, .int .i64 0, .slice none 0 0] 24)).alloc (.cells #[.int .i64 d] 3)) (w.heap.size + 1) (.int .i64 0) (.int .i64 0) (.slice none 0 0) := by simp [Box3, go_sem]
  have q3 : (((w.alloc (.cells #[.int .i64 K, .int .i64 R, .slice va vn vc] 24)).alloc (.cells #[.int .i64 0, .int .i64 0, .slice none 0 0] 24)).alloc (.cells #[.int .i64 d] 3)).cell? ⟨w.heap.size + 2, 0, none⟩ = some (.int .i64 d) := by simp [go_sem]
  have hk1 := hr.k1
  have hk4 := hr.k4
  have hR3 := hr.r3
  have hsub : Ri - (R : Int) = (d : Int) := by omega
  have hRi3 : 0 ≤ Ri ∧ Ri ≤ 3 := by omega
  have h3 := h.below b3
  obtain ⟨W3, hW3⟩ : ∃ W3 : World, W3 = ((w.alloc (.cells #[.int .i64 K, .int .i64 R, .slice va vn vc] 24)).alloc (.cells #[.int .i64 0, .int .i64 0, .slice none 0 0] 24)).alloc (.cells #[.int .i64 d] 3) := ⟨_, rfl⟩
  have s3 : W3.heap.size = w.heap.size + 3 := by rw [hW3]; simp
  rw [← hW3] at b3 q1 q2 q3 h3
  replace hRi := Lib.hid hRi
  replace hr := Lib.hid hr
  replace hW3 := Lib.hid hW3
  replace s3 := Lib.hid s3
  replace q2 := Lib.hid q2
  replace h3 := Lib.hid h3
  go_enter Tryd.func58, Tryd.ntmps58
  go_wp2_with fail
  rw [← hW3.out]
  refine (made_two K (R + d) _ (.pointer (some ⟨w.heap.size, 0, none⟩)) (.pointer (some ⟨w.heap.size + 2, 0, none⟩)) (fun ys => T.getD (numW K ((ys.drop d).take (2 * R + 1))) 0) W3 hk1 hk4 hRd Ri hRi.out eg_widened1 (fun v ys w' hB hv hy hyl => by
    have q11 := q1.below hB
    exact widened1_any K R d va vn vc T _ _ v ys w' (h3.out.below hB) hr.out hv hy hyl hRd q11.1.1 q11.1.2.1 q11.1.2.2 (cell_keep hB q3))).mono ?_
  rintro e w4 ⟨x, rfl, b4, a, n, c, rfl, ho⟩
  rw [madeP_wide] at ho
  obtain ⟨⟨y0, y1, y2⟩, f0, f1, f2⟩ := q2.out.below b4
  replace ho := Lib.hid ho
  clear q1 q3
  go_wp2
  refine bodyPost_ret (v := .agg #[.int .i64 K, .int .i64 ((R + d : Nat) : Int), .slice a n c]) (by simp [results, Tryd.results58, go_sem, y0, y1, y2]) rfl ⟨_, rfl, below_set3 (Below.step b3 b4) (Nat.le_succ _) _ _ _, a, n, c, rfl, ?_⟩
  have := s3.out
  exact (((ho.out.setBelowBase (a := ⟨w.heap.size + 1, 0, none⟩) (by simp; omega) _).setBelowBase (a := ⟨w.heap.size + 1, 1, none⟩) (by simp; omega) _).setBelowBase (a := ⟨w.heap.size + 1, 2, none⟩) (by simp; omega) _).mono (by omega)
end Go.Proofs.YtilpckngghffoaaDoor

namespace Go.Proofs.YtilpckngghffoaaDoor

/-- How many begin so. -/
def begins (n : Nat) (ends l : List Int) : Bool := decide (n ≤ l.length) && decide (l.take n = ends)
end Go.Proofs.YtilpckngghffoaaDoor

namespace Go.Proofs.YtilpckngghffoaaDoor
open Go.RowKit
set_option maxRecDepth 100000

end Go.Proofs.YtilpckngghffoaaDoor

namespace Go.Proofs.YtilpckngghffoaaDoor
open Go.RowKit
set_option maxRecDepth 100000

def sOverlap : ByteArray := ⟨#[111, 118, 101, 114, 108, 97, 112]⟩
/-- rule.Small's answer. -/
def smallP (k R : Int) (T : List Int) : PErr :=
  match checkP k R T with
  | some t => some t
  | none => if 256 < T.length then fresh sRule 0 4 else none
theorem smallP_ok {K R : Nat} {T : List Int} (h : RuleOk K R T) : smallP K R T = if 256 < T.length then fresh sRule 0 4 else none := by
  unfold smallP; rw [h.check]
theorem smallP_none {k R : Int} {T : List Int} (h : smallP k R T = none) : checkP k R T = none ∧ T.length ≤ 256 := by
  unfold smallP at h
  cases hc : checkP k R T with
  | some t => rw [hc] at h; cases h
  | none =>
    rw [hc] at h
    refine ⟨rfl, ?_⟩
    by_cases hl : 256 < T.length
    · rw [if_pos hl] at h; simp [fresh] at h
    · omega

theorem small_any (r : Nat → Addr) (k R : Int) (va : Option Addr) (vn vc : Nat) (T : List Int) (w : World) (hg : Glob r w) (h : IntsAt w (.slice va vn vc) T) :
    Calls Tryd.prog 18 #[.agg #[.int .i64 k, .int .i64 R, .slice va vn vc]] w (Ret1 (fun x w' => ErrIs r w' (smallP k R T) x) w) := by
  have b0 := belowAlloc w (.cells #[.int .i64 k, .int .i64 R, .slice va vn vc] 24)
  have q : Box3 (w.alloc (.cells #[.int .i64 k, .int .i64 R, .slice va vn vc] 24)) w.heap.size (.int .i64 k) (.int .i64 R) (.slice va vn vc) := by simp [Box3, go_sem]
  have lT := h.len
  replace hg := Lib.hid (hg.below b0)
  replace h := Lib.hid (h.below b0)
  obtain ⟨e0, hsm, he0⟩ : ∃ e0, (smallP k R T = match e0 with | some t => some t | none => if 256 < T.length then fresh sRule 0 4 else none) ∧ checkP k R T = e0 := ⟨_, rfl, rfl⟩
  replace he0 := Lib.hid he0
  go_enter Tryd.func18, Tryd.ntmps18
  go_wp2_with fail
  refine (check_any r k R _ T _ hg.out h.out).mono ?_
  rintro e w1 ⟨x, rfl, b1, he⟩
  rw [he0.out] at he
  cases e0 with
  | some t =>
    simp only [] at hsm
    replace hsm := Lib.hid hsm
    obtain ⟨T1, a1, rfl⟩ := ErrIs.some_shape he
    replace he := Lib.hid he
    go_wp2
    go_ret
    exact ⟨_, rfl, Below.step b0 b1, by rw [hsm.out]; exact he.out⟩
  | none =>
    obtain rfl := he.none_eq
    simp only [] at hsm
    clear he
    obtain ⟨⟨z0, z1, z2⟩, -, -, -⟩ := q.below b1
    by_cases hl : 256 < T.length
    · rw [if_pos hl] at hsm
      replace hsm := Lib.hid hsm
      go_wp2_with fail
      refine (rule_wrong r _ _ _ (hg.out.below b1) (by decide) (by decide)).mono ?_
      rintro e w2 ⟨x, rfl, b2, he⟩
      go_wp2
      go_ret
      exact ⟨_, rfl, Below.step b0 (Below.step b1 b2), by rw [hsm.out]; exact he⟩
    · rw [if_neg hl] at hsm
      replace hsm := Lib.hid hsm
      go_wp2
      go_ret
      exact ⟨_, rfl, Below.step b0 b1, by rw [hsm.out]; rfl⟩

theorem over_small (r : Nat → Addr) (k R : Int) (va : Option Addr) (vn vc : Nat) (T : List Int) (w : World) (hg : Glob r w) (h : IntsAt w (.slice va vn vc) T) :
    Calls Tryd.prog 52 #[.agg #[.int .i64 k, .int .i64 R, .slice va vn vc]] w (Ret1 (fun x w' => ErrIs r w' (under sOverlap 0 (smallP k R T)) x) w) := by
  have b0 := belowAlloc w (.cells #[.int .i64 k, .int .i64 R, .slice va vn vc] 24)
  replace hg := Lib.hid (hg.below b0)
  replace h := Lib.hid (h.below b0)
  go_enter Tryd.func52, Tryd.ntmps52
  go_wp2_with fail
  refine (small_any r k R va vn vc T _ hg.out h.out).mono ?_
  rintro e w1 ⟨x, rfl, b1, he⟩
  go_wp2_with fail
  refine (under_any r _ 0 _ x _ he).mono ?_
  rintro e w2 ⟨y, rfl, b2, hy⟩
  go_wp2
  go_ret
  exact ⟨_, rfl, Below.step b0 (Below.step b1 b2), hy⟩

theorem over_nodes (K R : Nat) (va : Option Addr) (vn vc : Nat) (T : List Int) (w : World) (h : IntsAt w (.slice va vn vc) T) (h1 : 1 ≤ K) (hT : T.length ≤ 16384) :
    Calls Tryd.prog 53 #[.agg #[.int .i64 K, .int .i64 R, .slice va vn vc]] w fun e w' => e = .returned (.int .i64 ((T.length / K : Nat) : Int)) ∧ w' = w.alloc (.cells #[.int .i64 K, .int .i64 R, .slice va vn vc] 24) := by
  have hK0 : ((K : Int) == 0) = false := by rw [beq_eq_false_iff_ne]; omega
  have hK1 : ¬ (K : Int) = 0 := by omega
  have hK2 : (0 : Int) < K := by omega
  have hK3 : ¬ K = 0 := by omega
  have lT := h.len
  have hq0 : 0 ≤ (T.length : Int) / (K : Int) := Int.ediv_nonneg (by omega) (by omega)
  have hqc : (T.length : Int) / (K : Int) = ((T.length / K : Nat) : Int) := by simp
  have hqw : IntKind.i64.wrap ((T.length : Int) / (K : Int)) = (T.length : Int) / (K : Int) := by
    have : T.length / K ≤ 16384 := Nat.le_trans (Nat.div_le_self _ _) hT
    exact wrapK (by omega) (by rw [hqc]; omega)
  rw [← hqc]
  replace hqc := Lib.hid hqc
  go_enter Tryd.func53, Tryd.ntmps53
  go_wp2
  go_ret
  exact ⟨rfl, rfl⟩

end Go.Proofs.YtilpckngghffoaaDoor

namespace Go.Proofs.YtilpckngghffoaaDoor
open Go.RowKit
set_option maxRecDepth 100000

theorem smallP_small {K R : Nat} {T : List Int} (h : RuleOk K R T) (hl : T.length ≤ 256) : smallP K R T = none := by rw [smallP_ok h, if_neg (by omega)]

theorem over_Nodes (r : Nat → Addr) (K R : Nat) (va : Option Addr) (vn vc : Nat) (T : List Int) (w : World) (hg : Glob r w) (h : IntsAt w (.slice va vn vc) T) (hok : RuleOk K R T) (hl : T.length ≤ 256) :
    Calls Tryd.prog 35 #[.agg #[.int .i64 K, .int .i64 R, .slice va vn vc]] w (Ret2 (fun x y _ => x = .int .i64 ((T.length / K : Nat) : Int) ∧ y = .nilIface) w) := by
  have b0 := belowAlloc w (.cells #[.int .i64 K, .int .i64 R, .slice va vn vc] 24)
  have q : Box3 (w.alloc (.cells #[.int .i64 K, .int .i64 R, .slice va vn vc] 24)) w.heap.size (.int .i64 K) (.int .i64 R) (.slice va vn vc) := by simp [Box3, go_sem]
  have hs := smallP_small hok hl
  have hk1 := hok.k1
  generalize hN : T.length / K = N
  replace hN := Lib.hid hN
  replace hs := Lib.hid hs
  replace hg := Lib.hid (hg.below b0)
  replace h := Lib.hid (h.below b0)
  go_enter Tryd.func35, Tryd.ntmps35
  go_wp2_with fail
  refine (over_small r K R va vn vc T _ hg.out h.out).mono ?_
  rintro e w1 ⟨x, rfl, b1, he⟩
  rw [hs.out] at he
  obtain rfl := ErrIs.none_eq he
  obtain ⟨⟨z0, z1, z2⟩, -, -, -⟩ := q.below b1
  go_wp2_with fail
  refine (over_nodes K R va vn vc T _ (h.out.below b1) hk1 (by omega)).mono ?_
  rintro e w2 ⟨rfl, rfl⟩
  rw [hN.out]
  go_wp2
  go_ret2
  exact ⟨_, _, rfl, Below.step b0 (Below.step b1 (belowAlloc _ _)), rfl, rfl⟩

set_option maxHeartbeats 1000000 in
theorem over_Edge (r : Nat → Addr) (K R : Nat) (va : Option Addr) (vn vc : Nat) (T : List Int) (u s : Nat) (w : World) (hg : Glob r w) (h : IntsAt w (.slice va vn vc) T) (hok : RuleOk K R T) (hl : T.length ≤ 256) (hu : u < T.length / K) (hs : s < K) :
    Calls Tryd.prog 40 #[.agg #[.int .i64 K, .int .i64 R, .slice va vn vc], .int .i64 u, .int .i64 s] w (Ret3 (fun x y z _ => x = .int .i64 (toN K (T.length / K) u s) ∧ y = .int .i64 (labN K T u s) ∧ z = .nilIface) w) := by
  have b0 := belowAlloc w (.cells #[.int .i64 K, .int .i64 R, .slice va vn vc] 24)
  have q : Box3 (w.alloc (.cells #[.int .i64 K, .int .i64 R, .slice va vn vc] 24)) w.heap.size (.int .i64 K) (.int .i64 R) (.slice va vn vc) := by simp [Box3, go_sem]
  have hsm := smallP_small hok hl
  have hk1 := hok.k1
  have hk4 := hok.k4
  have hul : u * K + s < T.length := by
    have := Nat.div_mul_le_self T.length K
    have := mul_add_lt (q := u) (m := T.length / K) hs hu
    omega
  have hN0 : T.length / K ≤ 256 := Nat.le_trans (Nat.div_le_self _ _) hl
  have huK : u * K ≤ 256 := by omega
  obtain ⟨p, hp⟩ : ∃ n, u * K = n := ⟨_, rfl⟩
  have hM : (u : Int) * (K : Int) = (p : Int) := by rw [← hp]; simp
  obtain ⟨at_, hat⟩ : ∃ n, u * K + s = n := ⟨_, rfl⟩
  have hA : (p : Int) + (s : Int) = (at_ : Int) := by rw [← hat, hp]; simp
  have i1 := fun w' => h.idx at_ (by omega) w'
  have c1 := h.cellD at_ (by omega)
  generalize valAt (.slice va vn vc) at_ = ta at *
  have hb1 := h.below b0
  have e1 : labN K T u s = T.getD at_ 0 := by unfold labN; rw [hat]
  have e2 : toN K (T.length / K) u s = at_ % (T.length / K) := by unfold toN; rw [hat]
  rw [e1, e2]
  generalize T.getD at_ 0 = y at *
  obtain ⟨N, hN⟩ : ∃ N, T.length / K = N := ⟨_, rfl⟩
  rw [hN] at hu hN0 ⊢
  have hN1 : ¬ (N : Int) = 0 := by omega
  have hN2 : ((N : Int) == 0) = false := by rw [beq_eq_false_iff_ne]; omega
  have hN3 : (0 : Int) < N := by omega
  have hN4 : ¬ N = 0 := by omega
  have hrem : (at_ : Int).tmod (N : Int) = ((at_ % N : Nat) : Int) := by rw [Int.tmod_eq_emod_of_nonneg (by omega)]; simp
  have hat1 : at_ ≤ 256 := by omega
  rw [hat] at hul
  rw [hp] at huK hat
  have hps : (p : Int) + (s : Int) ≤ 256 := by omega
  clear hat hp
  have c1' := (b0.cell (World.block_lt_of_cell? _ _ c1)).trans c1
  replace hN := Lib.hid hN
  replace hsm := Lib.hid hsm
  replace hg := Lib.hid (hg.below b0)
  replace h := Lib.hid hb1
  clear c1 e1 e2 hb1
  go_enter Tryd.func40, Tryd.ntmps40
  go_wp2_with fail
  refine (over_small r K R va vn vc T _ hg.out h.out).mono ?_
  rintro e w1 ⟨x, rfl, b1, he⟩
  rw [hsm.out] at he
  obtain rfl := ErrIs.none_eq he
  have q1 := q.below b1
  obtain ⟨⟨z0, z1, z2⟩, -, -, -⟩ := q1
  have q1 := Lib.hid (q.below b1)
  go_wp2_with fail
  refine (over_nodes K R va vn vc T _ (h.out.below b1) hk1 (by omega)).mono ?_
  rintro e w2 ⟨rfl, rfl⟩
  rw [hN.out]
  have b2 := Below.step b1 (belowAlloc w1 (.cells #[.int .i64 K, .int .i64 R, .slice va vn vc] 24))
  obtain ⟨W2, hW2⟩ : ∃ W2 : World, W2 = w1.alloc (.cells #[.int .i64 K, .int .i64 R, .slice va vn vc] 24) := ⟨_, rfl⟩
  rw [← hW2] at b2 ⊢
  have q2 := q.below b2
  have hT2 := h.out.below b2
  have cT2 := (b2.cell (World.block_lt_of_cell? _ _ c1')).trans c1'
  clear hW2 z0 z1 z2 c1'
  obtain ⟨⟨z0, z1, z2⟩, -, -, -⟩ := q2
  replace hT2 := Lib.hid hT2
  go_upto_region 9 with fail
  refine wp_region_plan (fun w' => w'.cell? ⟨w.heap.size, 0, none⟩ = some (.int .i64 K) ∧ w'.cell? ⟨w.heap.size, 1, none⟩ = some (.int .i64 R) ∧ w'.cell? ⟨w.heap.size, 2, none⟩ = some (.slice va vn vc) ∧ w'.cell? ta = some (.int .i64 y)) 11 [(0, true), (1, true), (4, true), (5, true), (6, true), (7, true), (8, true), (2, false), (3, true), (9, true), (10, true)] (by kernel_rfl) (by kernel_rfl) ?_
  have hS : W2.drew.cell? ⟨w.heap.size, 0, none⟩ = some (.int .i64 K) ∧ W2.drew.cell? ⟨w.heap.size, 1, none⟩ = some (.int .i64 R) ∧ W2.drew.cell? ⟨w.heap.size, 2, none⟩ = some (.slice va vn vc) ∧ W2.drew.cell? ta = some (.int .i64 y) := ⟨z0, z1, z2, cT2⟩
  refine headY (v := ?_) (some 42) rfl rfl (Or.inl ⟨by rfl, ?_⟩) hS ?_
  rotate_left
  · rintro W' ⟨s0, s1, s2, s3⟩; go_simp; try with_reducible rfl
  simp only [Act.put, List.setIfInBounds_toArray, List.set_cons_zero, List.set_cons_succ]
  refine headY (v := ?_) (some 43) rfl rfl (Or.inl ⟨by rfl, ?_⟩) hS ?_
  rotate_left
  · rintro W' ⟨s0, s1, s2, s3⟩; go_simp; try with_reducible rfl
  simp only [Act.put, List.setIfInBounds_toArray, List.set_cons_zero, List.set_cons_succ]
  refine headY (v := ?_) (some 46) rfl rfl (Or.inl ⟨by rfl, ?_⟩) hS ?_
  rotate_left
  · rintro W' ⟨s0, s1, s2, s3⟩; go_simp; try with_reducible rfl
  simp only [Act.put, List.setIfInBounds_toArray, List.set_cons_zero, List.set_cons_succ]
  refine headY (v := ?_) (some 47) rfl rfl (Or.inl ⟨by rfl, ?_⟩) hS ?_
  rotate_left
  · rintro W' ⟨s0, s1, s2, s3⟩; go_simp; try with_reducible rfl
  simp only [Act.put, List.setIfInBounds_toArray, List.set_cons_zero, List.set_cons_succ]
  refine headY (v := ?_) (some 48) rfl rfl (Or.inl ⟨by rfl, ?_⟩) hS ?_
  rotate_left
  · rintro W' ⟨s0, s1, s2, s3⟩; go_simp; try with_reducible rfl
  simp only [Act.put, List.setIfInBounds_toArray, List.set_cons_zero, List.set_cons_succ]
  refine headY (v := ?_) (some 49) rfl rfl (Or.inl ⟨by rfl, ?_⟩) hS ?_
  rotate_left
  · rintro W' ⟨s0, s1, s2, s3⟩; go_simp; try with_reducible rfl
  simp only [Act.put, List.setIfInBounds_toArray, List.set_cons_zero, List.set_cons_succ]
  refine headY (v := ?_) (some 50) rfl rfl (Or.inl ⟨by rfl, ?_⟩) hS ?_
  rotate_left
  · rintro W' ⟨s0, s1, s2, s3⟩; go_simp; try with_reducible rfl
  simp only [Act.put, List.setIfInBounds_toArray, List.set_cons_zero, List.set_cons_succ]
  refine headC rfl (fun KK hK => ?_)
  go_simp
  refine (over_nodes K R va vn vc T _ hT2.out.drew hk1 (by omega)).mono ?_
  rintro e W3 ⟨rfl, rfl⟩
  rw [hN.out]
  have b3 := belowAlloc W2.drew (.cells #[.int .i64 K, .int .i64 R, .slice va vn vc] 24)
  have hS3 := (⟨cell_keep b3 hS.1, cell_keep b3 hS.2.1, cell_keep b3 hS.2.2.1, (b3.cell (World.block_lt_of_cell? _ _ hS.2.2.2)).trans hS.2.2.2⟩ : (W2.drew.alloc (.cells #[.int .i64 K, .int .i64 R, .slice va vn vc] 24)).cell? ⟨w.heap.size, 0, none⟩ = some (.int .i64 K) ∧ (W2.drew.alloc (.cells #[.int .i64 K, .int .i64 R, .slice va vn vc] 24)).cell? ⟨w.heap.size, 1, none⟩ = some (.int .i64 R) ∧ (W2.drew.alloc (.cells #[.int .i64 K, .int .i64 R, .slice va vn vc] 24)).cell? ⟨w.heap.size, 2, none⟩ = some (.slice va vn vc) ∧ (W2.drew.alloc (.cells #[.int .i64 K, .int .i64 R, .slice va vn vc] 24)).cell? ta = some (.int .i64 y))
  refine hK _ _ hS3 ?_
  clear hK KK
  refine headY (v := ?_) (some 45) rfl rfl (Or.inl ⟨by rfl, ?_⟩) hS3 ?_
  rotate_left
  · rintro W' ⟨s0, s1, s2, s3⟩; go_simp; try with_reducible rfl
  simp only [Act.put, List.setIfInBounds_toArray, List.set_cons_zero, List.set_cons_succ]
  refine headY (v := ?_) (some 6) rfl rfl (Or.inl ⟨by rfl, ?_⟩) hS3 ?_
  rotate_left
  · rintro W' ⟨s0, s1, s2, s3⟩; go_simp; try with_reducible rfl
  simp only [Act.put, List.setIfInBounds_toArray, List.set_cons_zero, List.set_cons_succ]
  refine headY (v := ?_) (some 7) rfl rfl (Or.inl ⟨by rfl, ?_⟩) hS3 ?_
  rotate_left
  · rintro W' ⟨s0, s1, s2, s3⟩; go_simp; try with_reducible rfl
  simp only [Act.put, List.setIfInBounds_toArray, List.set_cons_zero, List.set_cons_succ]
  refine head0 ?_
  simp only [List.drop_succ_cons, List.drop_zero]
  clear hS hS3
  go_wp2
  refine NoPanic.normal ?_
  go_wp2
  go_ret3
  exact ⟨_, _, _, rfl, Below.step b0 (Below.step b2 ((Below.refl _ _).drew.alloc (Nat.le_refl _) _)), rfl, rfl, rfl⟩
end Go.Proofs.YtilpckngghffoaaDoor

namespace Go.Proofs.YtilpckngghffoaaDoor
open Go.RowKit
set_option maxRecDepth 100000

set_option maxHeartbeats 1000000 in
theorem fwiden_ok (r : Nat → Addr) (K R d : Nat) (va : Option Addr) (vn vc : Nat) (T : List Int) (w : World) (hg : Glob r w) (h : IntsAt w (.slice va vn vc) T) (hr : RuleOk K R T) (hRd : R + d ≤ 3) (Ri : Int) (hRi : Ri = ((R + d : Nat) : Int)) :
    Calls Tryd.prog 48 #[.agg #[.int .i64 K, .int .i64 R, .slice va vn vc], .int .i64 Ri] w (Ret2 (fun x y w' => y = .nilIface ∧ ∃ a n c, x = .agg #[.int .i64 K, .int .i64 ((R + d : Nat) : Int), .slice a n c] ∧ OwnI w.heap.size w' (.slice a n c) (wideT K R d T)) w) := by
  have b0 := Below.step (belowAlloc w (.cells #[.int .i64 K, .int .i64 R, .slice va vn vc] 24)) (belowAlloc _ (.cells #[.int .i64 0, .int .i64 0, .slice none 0 0] 24))
  have q2 : Box3 ((w.alloc (.cells #[.int .i64 K, .int .i64 R, .slice va vn vc] 24)).alloc (.cells #[.int .i64 0, .int .i64 0, .slice none 0 0] 24)) (w.heap.size + 1) (.int .i64 0) (.int .i64 0) (.slice none 0 0) := by simp [Box3, go_sem]
  have q1 : Box3 ((w.alloc (.cells #[.int .i64 K, .int .i64 R, .slice va vn vc] 24)).alloc (.cells #[.int .i64 0, .int .i64 0, .slice none 0 0] 24)) w.heap.size (.int .i64 K) (.int .i64 R) (.slice va vn vc) := by simp [Box3, go_sem]
  have hk1 := hr.k1
  have hk4 := hr.k4
  have hR3 := hr.r3
  have hck := Lib.hid hr.check
  have h1 : R ≤ Ri := by omega
  have h2 : Ri ≤ 3 := by omega
  have h1d : decide (Ri < (R : Int)) = false := by simp; omega
  have h2d : decide ((3 : Int) < Ri) = false := by simp; omega
  replace hRi := Lib.hid hRi
  replace hg := Lib.hid (hg.below b0)
  replace h := Lib.hid (h.below b0)
  replace hr := Lib.hid hr
  replace q1 := Lib.hid q1
  replace q2 := Lib.hid q2
  go_enter Tryd.func48, Tryd.ntmps48
  go_wp2_with fail
  refine (forms_check r _ K R va vn vc T _ hg.out h.out).mono ?_
  rintro e w1 ⟨x, rfl, hb, he⟩
  rw [hck.out] at he
  obtain rfl := ErrIs.none_eq he
  have q11 := q1.out.below hb
  obtain ⟨⟨z0, z1, z2⟩, -, -, -⟩ := q11
  have s1 := hb.size
  simp only [World.size_alloc] at s1
  replace s1 := Lib.hid s1
  go_wp2_with fail
  refine (widened_any K R d va vn vc T w1 (h.out.below hb) hr.out hRd Ri hRi.out).mono ?_
  rintro e w2 ⟨x, rfl, b2, a, n, c, rfl, ho⟩
  obtain ⟨⟨y0, y1, y2⟩, f0, f1, f2⟩ := q2.out.below (Below.step hb b2)
  replace ho := Lib.hid ho
  clear z0 z1 z2
  go_wp2
  refine bodyPost_ret (v := .tuple #[.agg #[.int .i64 K, .int .i64 ((R + d : Nat) : Int), .slice a n c], .nilIface]) (by simp [results, Tryd.results48, go_sem, y0, y1, y2]) rfl ⟨_, _, rfl, below_set3 (Below.step b0 (Below.step hb b2)) (Nat.le_succ _) _ _ _, rfl, a, n, c, rfl, ?_⟩
  have := s1.out
  exact (((ho.out.setBelowBase (a := ⟨w.heap.size + 1, 0, none⟩) (by simp; omega) _).setBelowBase (a := ⟨w.heap.size + 1, 1, none⟩) (by simp; omega) _).setBelowBase (a := ⟨w.heap.size + 1, 2, none⟩) (by simp; omega) _).mono (by omega)

/-- The working rule's radius and table. -/
def wkR (R : Nat) : Nat := if R = 0 then 1 else R
def wkT (K R : Nat) (T : List Int) : List Int := if R = 0 then wideT K 0 1 T else T
theorem wk_ok {K R : Nat} {T : List Int} (h : RuleOk K R T) : RuleOk K (wkR R) (wkT K R T) := by
  unfold wkR wkT
  by_cases e : R = 0
  · subst e; rw [if_pos rfl, if_pos rfl]; exact wideT_ok (d := 1) h (by decide)
  · rw [if_neg e, if_neg e]; exact h
theorem wk_pos (R : Nat) : 1 ≤ wkR R := by unfold wkR; split <;> omega
theorem wk_small {K R : Nat} {T : List Int} (h : RuleOk K R T) (hl : T.length ≤ 256) : (wkT K R T).length ≤ 256 := by
  unfold wkT
  by_cases e : R = 0
  · subst e; rw [if_pos rfl, wideT_length]
    have h4 := h.k4
    have : pw K 3 ≤ pw 4 3 := Nat.pow_le_pow_left h4 3
    have e4 : pw 4 3 = 64 := by decide
    have : pw K (2 * (0 + 1) + 1) = pw K 3 := rfl
    omega
  · rw [if_neg e]; exact hl
/-- A small rule's working rule has at most 81 nodes. -/
theorem nodes_le {K R : Nat} {T : List Int} (h : RuleOk K R T) (hR : 1 ≤ R) (hl : T.length ≤ 256) : pw K (2 * R) ≤ 81 := by
  have h1 := h.k1
  have h4 := h.k4
  have h3 := h.r3
  rw [h.len] at hl
  have hK : K = 1 ∨ K = 2 ∨ K = 3 ∨ K = 4 := by omega
  have hR' : R = 1 ∨ R = 2 ∨ R = 3 := by omega
  rcases hK with rfl | rfl | rfl | rfl <;> rcases hR' with rfl | rfl | rfl <;> revert hl <;> decide

theorem working_bad (r : Nat → Addr) (k R : Int) (va : Option Addr) (vn vc : Nat) (T : List Int) (t : Int × List (ByteArray × Int)) (w : World) (hg : Glob r w) (h : IntsAt w (.slice va vn vc) T) (hc : smallP k R T = some t) :
    Calls Tryd.prog 27 #[.agg #[.int .i64 k, .int .i64 R, .slice va vn vc]] w (Ret2 (fun x y w' => x = zR ∧ ErrIs r w' (under sPairs 0 (some t)) y) w) := by
  have b0 := Below.step (belowAlloc w (.cells #[.int .i64 k, .int .i64 R, .slice va vn vc] 24)) (belowAlloc _ (.cells #[.int .i64 0, .int .i64 0, .slice none 0 0] 24))
  have q2 : Box3 ((w.alloc (.cells #[.int .i64 k, .int .i64 R, .slice va vn vc] 24)).alloc (.cells #[.int .i64 0, .int .i64 0, .slice none 0 0] 24)) (w.heap.size + 1) (.int .i64 0) (.int .i64 0) (.slice none 0 0) := by simp [Box3, go_sem]
  replace hg := Lib.hid (hg.below b0)
  replace h := Lib.hid (h.below b0)
  replace hc := Lib.hid hc
  replace q2 := Lib.hid q2
  go_enter Tryd.func27, Tryd.ntmps27
  go_wp2_with fail
  refine (small_any r k R va vn vc T _ hg.out h.out).mono ?_
  rintro e w1 ⟨x, rfl, b1, he⟩
  rw [hc.out] at he
  have he' := he
  obtain ⟨T1, a1, rfl⟩ := ErrIs.some_shape he
  replace he := Lib.hid he
  replace he' := Lib.hid he'
  go_wp2_with fail
  refine (under_any r _ 0 _ _ w1 he'.out).mono ?_
  rintro e w2 ⟨y, rfl, b2, hy⟩
  obtain ⟨T2, a2, rfl⟩ : ∃ T a, y = .iface T (.pointer (some a)) := by
    unfold under at hy
    exact ErrIs.some_shape hy
  obtain ⟨⟨y0, y1, y2⟩, f0, f1, f2⟩ := q2.out.below (Below.step b1 b2)
  replace hy := Lib.hid hy
  go_wp2
  rw [setCell_self3 y0 y1 y2]
  exact bodyPost_ret (v := .tuple #[zR, .iface T2 (.pointer (some a2))]) (by simp [results, Tryd.results27, go_sem, y0, y1, y2]) rfl ⟨_, _, rfl, Below.step b0 (Below.step b1 b2), rfl, hy.out⟩

set_option maxHeartbeats 1000000 in
theorem working_ok (r : Nat → Addr) (K R : Nat) (va : Option Addr) (vn vc : Nat) (T : List Int) (w : World) (hg : Glob r w) (h : IntsAt w (.slice va vn vc) T) (hr : RuleOk K R T) (hl : T.length ≤ 256) :
    Calls Tryd.prog 27 #[.agg #[.int .i64 K, .int .i64 R, .slice va vn vc]] w (Ret2 (fun x y w' => y = .nilIface ∧ ∃ a n c, x = .agg #[.int .i64 K, .int .i64 (wkR R), .slice a n c] ∧ IntsAt w' (.slice a n c) (wkT K R T)) w) := by
  have b0 := Below.step (belowAlloc w (.cells #[.int .i64 K, .int .i64 R, .slice va vn vc] 24)) (belowAlloc _ (.cells #[.int .i64 0, .int .i64 0, .slice none 0 0] 24))
  have q2 : Box3 ((w.alloc (.cells #[.int .i64 K, .int .i64 R, .slice va vn vc] 24)).alloc (.cells #[.int .i64 0, .int .i64 0, .slice none 0 0] 24)) (w.heap.size + 1) (.int .i64 0) (.int .i64 0) (.slice none 0 0) := by simp [Box3, go_sem]
  have q1 : Box3 ((w.alloc (.cells #[.int .i64 K, .int .i64 R, .slice va vn vc] 24)).alloc (.cells #[.int .i64 0, .int .i64 0, .slice none 0 0] 24)) w.heap.size (.int .i64 K) (.int .i64 R) (.slice va vn vc) := by simp [Box3, go_sem]
  have hs := Lib.hid (smallP_small hr hl)
  have h0 := Lib.hid h
  have hs0 : w.heap.size + 1 < ((w.alloc (.cells #[.int .i64 K, .int .i64 R, .slice va vn vc] 24)).alloc (.cells #[.int .i64 0, .int .i64 0, .slice none 0 0] 24)).heap.size := by simp
  replace hg := Lib.hid (hg.below b0)
  replace h := Lib.hid (h.below b0)
  replace hr := Lib.hid hr
  replace q1 := Lib.hid q1
  replace q2 := Lib.hid q2
  replace hs0 := Lib.hid hs0
  by_cases hR : R = 0
  · have e1 : wkR R = R + 1 := by unfold wkR; rw [if_pos hR, hR]
    have e2 : wkT K R T = wideT K R 1 T := by unfold wkT; rw [if_pos hR, hR]
    have hRq : ((R : Int) == 0) = true := by simp [hR]
    rw [e1, e2]
    replace hR := Lib.hid hR
    clear e1 e2
    go_enter Tryd.func27, Tryd.ntmps27
    go_wp2_with fail
    refine (small_any r K R va vn vc T _ hg.out h.out).mono ?_
    rintro e w1 ⟨x, rfl, b1, he⟩
    rw [hs.out] at he
    obtain rfl := ErrIs.none_eq he
    have q11 := q1.out.below b1
    obtain ⟨⟨z0, z1, z2⟩, -, -, -⟩ := q11
    go_wp2_with fail
    refine (fwiden_ok r K R 1 va vn vc T w1 (hg.out.below b1) (h.out.below b1) hr.out (by have := hR.out; omega) 1 (by have := hR.out; simp [this])).mono ?_
    rintro e w2 ⟨x, y, rfl, b2, rfl, a, n, c, rfl, ho⟩
    obtain ⟨⟨y0, y1, y2⟩, f0, f1, f2⟩ := q2.out.below (Below.step b1 b2)
    replace ho := Lib.hid ho
    clear z0 z1 z2
    go_wp2
    refine bodyPost_ret (v := .tuple #[.agg #[.int .i64 K, .int .i64 ((R + 1 : Nat) : Int), .slice a n c], .nilIface]) (by simp [results, Tryd.results27, go_sem, y0, y1, y2]) rfl ⟨_, _, rfl, below_set3 (Below.step b0 (Below.step b1 b2)) (Nat.le_succ _) _ _ _, rfl, a, n, c, rfl, ?_⟩
    have s1 := hs0.out
    have s2 := b1.size
    exact (((ho.out.setBelowBase (a := ⟨w.heap.size + 1, 0, none⟩) (Nat.lt_of_lt_of_le s1 s2) _).setBelowBase (a := ⟨w.heap.size + 1, 1, none⟩) (Nat.lt_of_lt_of_le s1 s2) _).setBelowBase (a := ⟨w.heap.size + 1, 2, none⟩) (Nat.lt_of_lt_of_le s1 s2) _).at
  · have e1 : wkR R = R := by unfold wkR; rw [if_neg hR]
    have e2 : wkT K R T = T := by unfold wkT; rw [if_neg hR]
    have hRq : ((R : Int) == 0) = false := by rw [beq_eq_false_iff_ne]; omega
    have hR' : ¬ (R : Int) = 0 := by omega
    rw [e1, e2]
    clear e1 e2
    go_enter Tryd.func27, Tryd.ntmps27
    go_wp2_with fail
    refine (small_any r K R va vn vc T _ hg.out h.out).mono ?_
    rintro e w1 ⟨x, rfl, b1, he⟩
    rw [hs.out] at he
    obtain rfl := ErrIs.none_eq he
    have q11 := q1.out.below b1
    obtain ⟨⟨z0, z1, z2⟩, -, -, -⟩ := q11
    obtain ⟨⟨y0, y1, y2⟩, f0, f1, f2⟩ := q2.out.below b1
    have b01 := Below.step b0 b1
    have hTW := h0.out.below (below_set3 b01 (Nat.le_succ _) (.int .i64 K) (.int .i64 R) (.slice va vn vc))
    replace hTW := Lib.hid hTW
    go_wp2
    refine bodyPost_ret (v := .tuple #[.agg #[.int .i64 K, .int .i64 R, .slice va vn vc], .nilIface]) (by simp [results, Tryd.results27, go_sem, y0, y1, y2]) rfl ⟨_, _, rfl, below_set3 b01 (Nat.le_succ _) _ _ _, rfl, va, vn, vc, rfl, hTW.out⟩
end Go.Proofs.YtilpckngghffoaaDoor

namespace Go.Proofs.YtilpckngghffoaaDoor
open Go.RowKit
set_option maxRecDepth 100000

def arrowsTo (G : List (List Int)) : Nat → Nat
  | 0 => 0
  | k + 1 => arrowsTo G k + (G.getD k []).length
theorem containsFunc_any (v b : Value) (F : Nat) (xs : List Int) (p : Int → Bool) (w : World) (h : IntsAt w v xs)
    (eg : ∀ args w, (callFunc F args).run Tryd.prog w = .ok (.enter F args) w)
    (hF : ∀ x : Int, x ∈ xs → Calls Tryd.prog F #[.int .i64 x, b] w fun e w' => e = .returned (.bool (p x)) ∧ w = w') :
    Calls Tryd.prog 36 #[v, .func (.func F) #[] #[b]] w fun e w' => e = .returned (.bool (decide (0 ≤ idxOf p xs))) ∧ w = w' := by
  have hI := indexFunc_any v b F xs p w h eg hF
  clear hF eg
  go_enter Tryd.func36, Tryd.ntmps36
  go_wp2_with fail
  refine hI.mono ?_
  rintro e w' ⟨rfl, rfl⟩
  go_wp2
  go_ret
  exact ⟨ret_bool (by simp), rfl⟩

end Go.Proofs.YtilpckngghffoaaDoor

namespace Go.Proofs.YtilpckngghffoaaDoor
open Go.RowKit
set_option maxRecDepth 100000

def tabI (n : Nat) (f : Nat → Int) : List Int := (List.range n).map f
theorem tabI_len (n : Nat) (f : Nat → Int) : (tabI n f).length = n := by simp [tabI]
theorem tabI_get (n : Nat) (f : Nat → Int) (v : Nat) (hv : v < n) : (tabI n f).getD v 0 = f v := by simp [tabI, List.getD, hv]
theorem tabI_upd (n : Nat) (f : Nat → Int) (v : Nat) (a : Int) : (tabI n f).set v a = tabI n (updN f v a) := by
  apply List.ext_getElem
  · simp [tabI]
  · intro i h1 h2
    simp only [tabI, List.getElem_set, List.getElem_map, List.getElem_range, updN]
    by_cases e : v = i
    · rw [if_pos e, if_pos e.symm]
    · rw [if_neg e, if_neg (fun q => e q.symm)]
def upI (l : List Nat) : List Int := l.reverse.map fun (v : Nat) => (v : Int)
theorem upI_len (l : List Nat) : (upI l).length = l.length := by simp [upI]
theorem upI_cons (v : Nat) (l : List Nat) : upI (v :: l) = upI l ++ [(v : Int)] := by simp [upI]
section
variable {B : Nat} {w : World} {f : Names} {d : Nat} {nv lv fv pv ov cv : Value} {n : Nat} {S : TS}

theorem grown_via {w' : World} {row : Option Nat} (hg : w.grownBy w' row ∨ w.grownBy w' none) : w.grownBy w' row := by
  rcases hg with h | h
  · exact h
  · exact ⟨h.os, h.tape, h.output, h.size, fun k hk _ => h.block k hk (by simp)⟩
/-- The value that holds the stack of calls, the open stack. -/
theorem row_shape {E : TypeId} {size m : Nat} {v : Value} {xs : List Value} (h : w.ownsRow B E size v m xs) (hm : 0 < m) : ∃ g c, v = .slice (some ⟨g, 0, none⟩) m c ∧ m ≤ c := by
  rcases h.2 with ⟨_, e⟩ | ⟨g, cap, cur, e, _, _, hn, _⟩
  · omega
  · exact ⟨g, cap, e, hn⟩
end
end Go.Proofs.YtilpckngghffoaaDoor

namespace Go.Proofs.YtilpckngghffoaaDoor
open Go.RowKit Go.Shelf
set_option maxRecDepth 100000

def Tryd.laysMul_ren : Go.Shelf.Ren := ⟨fun | 212 => 51 | 263 => 70 | 264 => 71 | n => n, fun | 46 => 87 | 51 => 103 | 146 => 106 | 53 => 105 | 148 => 108 | n => n, fun | n => n⟩
theorem Tryd.laysMul : Go.Proofs.Lays.n212 Tryd.prog Tryd.laysMul_ren := {
  mixed := by kernel_rfl
  f212 := Tryd.func51.trans (congrArg some (by kernel_rfl))
  f263 := Tryd.func70.trans (congrArg some (by kernel_rfl))
  f264 := Tryd.func71.trans (congrArg some (by kernel_rfl))
  t46 := Tryd.underlying87
  a46 := Tryd.isAgg87
  z46 := Tryd.sizeOf87
  v46 := Tryd.zeroValue87
  t51 := Tryd.underlying103
  a51 := Tryd.isAgg103
  z51 := Tryd.sizeOf103
  v51 := Tryd.zeroValue103
  t53 := Tryd.underlying105
  a53 := Tryd.isAgg105
  z53 := Tryd.sizeOf105
  v53 := Tryd.zeroValue105
  t146 := Tryd.underlying106
  a146 := Tryd.isAgg106
  z146 := Tryd.sizeOf106
  v146 := Tryd.zeroValue106
  t148 := Tryd.underlying108
  a148 := Tryd.isAgg108
  z148 := Tryd.sizeOf108
  v148 := Tryd.zeroValue108 }

/-- copy(d, u), d at place off of an owned slice, u longer perhaps than the room. -/
theorem run_copyMin {w : World} {B : Nat} {v u d : Value} {xs ys : List Int} (off : Nat) (ty : TypeId) (dp : Option Addr) (dLen dCap : Nat) (hown : OwnI B w v xs) (hu : IntsAt w u ys) (hd : d = .slice dp dLen dCap)
    (hfit : off + dLen ≤ xs.length) (h0 : 0 < dLen) (h1 : 0 < ys.length) (hdp : dp = some (valAt v off)) :
    ∃ w', (Builtin.copy_ #[22, 22] ty #[d, u]).run Tryd.prog w = .ok (.int .i64 ((ys.take dLen).length : Int)) w' ∧ OwnI B w' v (xs.take off ++ ys.take dLen ++ xs.drop (off + (ys.take dLen).length)) ∧ Below B w w' := by
  subst hd
  obtain ⟨sp, sCap, rfl, hc1, h2, h3, h4⟩ := hu
  subst hdp
  cases sp with
  | none => have := h3 rfl; omega
  | some p =>
    rcases hown.2 with ⟨rfl, hn⟩ | ⟨g, cap, cur, rfl, hb, hg, hn, hm, hcs, ht⟩
    · omega
    · rw [valAt_row]
      obtain ⟨zs, hzs⟩ : ∃ zs, zs = ys.take dLen := ⟨_, rfl⟩
      have hzl : zs.length = Nat.min ys.length dLen := by rw [hzs, List.length_take, Nat.min_comm]
      have hzd : zs.length ≤ dLen := by rw [hzl]; exact Nat.min_le_right _ _
      rw [← hzs]
      have hsrc : ∀ j u, (zs.map (Value.int .i64))[j]? = some u → w.cell? (p.add j) = some u := by
        intro j u hj
        have hjl : j < zs.length := by have := (List.getElem?_eq_some_iff.1 hj).1; simpa using this
        have hjy : j < ys.length := by rw [hzl] at hjl; exact Nat.lt_of_lt_of_le hjl (Nat.min_le_left _ _)
        have := h4 j hjy
        simp only [valAt] at this
        rw [this, ← hj, List.getElem?_map, List.getElem?_eq_getElem hjl]
        simp [hzs]
      have hcl : cur.toList.length = cap := by rw [Array.length_toList, hcs]; omega
      have hr := run_copy_row (P := Tryd.prog) w 22 22 ty 3 g off dLen dCap p ys.length sCap cur 3 (zs.map (.int .i64)) uInts sizeInt1 hg (by rw [List.length_map]; exact hzl) hsrc (by rw [hcs, List.length_map]; omega) (ints_oneCell _ _)
      rw [show goInt (zs.map (Value.int .i64)).length = .int .i64 zs.length by rw [List.length_map]; rfl] at hr
      have hst : w.grownBy (w.setRow g (cur.toList.take off ++ zs.map (Value.int .i64) ++ cur.toList.drop (off + (zs.map (Value.int .i64)).length)).toArray) (some g) :=
        ⟨rfl, rfl, rfl, by simp, fun k _ hk => setRow_other w g k _ (fun e => hk (by simp [e]))⟩
      refine ⟨_, hr, ?_, (Below.refl _ _).grown hst (by have := (Array.getElem?_eq_some_iff.1 hg).1; omega) (by intro k hk; simp at hk; omega)⟩
      have hlen : (xs.take off ++ zs ++ xs.drop (off + zs.length)).length = xs.length := by simp; omega
      refine ⟨by simp, .inr ⟨g, cap, _, by rw [hlen], hb, setRow_heap w g cur _ _ _ hg, by rw [hlen]; exact hn, hm, ?_, ?_⟩⟩
      · simp only [List.size_toArray, List.length_append, List.length_take, List.length_drop, List.length_map, hcl]; omega
      · rw [hlen]
        have e := splice_take cur.toList (zs.map (Value.int .i64)) off xs.length (by rw [List.length_map]; omega) (by omega)
        rw [Nat.mul_one] at ht ⊢
        rw [e, ht]
        simp [List.map_take, List.map_drop]

/-- Some copies, zeros behind. -/
def reps (x : Int) (m n : Nat) : List Int := List.replicate m x ++ List.replicate (n - m) 0
theorem reps_len (x : Int) {m n : Nat} (h : m ≤ n) : (reps x m n).length = n := by simp [reps]; omega
theorem reps_full (x : Int) (n : Nat) : reps x n n = List.replicate n x := by simp [reps]
theorem reps_splice (x : Int) {m n k : Nat} (hk : m + k ≤ n) : (reps x m n).take m ++ List.replicate k x ++ (reps x m n).drop (m + k) = reps x (m + k) n := by
  unfold reps
  rw [List.take_left' (by simp), List.drop_append, List.drop_eq_nil_of_le (by simp), List.nil_append, List.length_replicate, List.drop_replicate, List.replicate_append_replicate]
  congr 2
  omega

theorem mul_any (x y : Nat) (hx : x < 100000) (hy : y < 100000) (w : World) :
    Calls Tryd.prog 51 #[.int .u64 x, .int .u64 y] w fun e w' => e = .returned (.tuple #[.int .u64 0, .int .u64 ((x * y : Nat) : Int)]) ∧ w = w' := by
  refine (Any.bits_Mul Tryd.laysMul x y (by omega) (by omega) w).mono ?_
  rintro e w' ⟨rfl, rfl⟩
  have h : x * y < 10000000000 := by
    calc x * y ≤ 99999 * 99999 := Nat.mul_le_mul (by omega) (by omega)
      _ < _ := by decide
  rw [Nat.div_eq_of_lt (by omega), Nat.mod_eq_of_lt (by omega)]
  exact ⟨rfl, rfl⟩

set_option maxHeartbeats 1000000 in
theorem repeat_any (v : Value) (x : Int) (n : Nat) (w : World) (h : IntsAt w v [x]) (hn : n ≤ 10000) :
    Calls Tryd.prog 33 #[v, .int .i64 n] w (Ret1 (fun u w' => OwnI w.heap.size w' u (List.replicate n x)) w) := by
  have hl := h.len
  obtain ⟨u, w1, hmk, hu, hb1⟩ := run_makeI (n : Int) n w rfl (by omega)
  have hM := mul_any 1 n (by omega) (by omega) w
  rw [Nat.one_mul] at hM
  replace hM := Lib.hid hM
  obtain ⟨ua, un, uc, rfl⟩ := hu.at.shape
  go_enter Tryd.func33, Tryd.ntmps33
  have hcp : ∃ w2, (Builtin.copy_ #[22, 22] 3 #[.slice ua un uc, v]).run Tryd.prog w1 = .ok (.int .i64 ((min 1 n : Nat) : Int)) w2 ∧ OwnI w.heap.size w2 (.slice ua un uc) (reps x (min 1 n) n) ∧ Below w.heap.size w1 w2 := by
    have hun : un = n := by
      obtain ⟨a, c, e, _⟩ := hu.at
      injection e with _ e _
      rw [e]; simp
    have hv := h.below hb1
    by_cases h0 : n = 0
    · subst h0; subst hun
      obtain ⟨sp, sc, rfl, _⟩ := hv
      refine ⟨w1, run_copy_none (P := Tryd.prog) w1 22 22 3 3 ua sp 0 uc 1 sc uInts sizeInt1 (by simp), ?_, Below.refl _ _⟩
      simpa [reps] using hu
    · subst hun
      have hva : ua = some (valAt (.slice ua un uc) 0) := by
        rcases hu.2 with ⟨e, hn0⟩ | ⟨g, cap, cur, e, _⟩
        · rw [List.length_replicate] at hn0; exact absurd hn0 h0
        · injection e with e1 e2 e3
          subst e1; rfl
      obtain ⟨w2, h1, h2, h3⟩ := run_copyMin (ys := [x]) 0 3 ua un uc hu hv rfl (by rw [List.length_replicate]; omega) (by omega) (by simp) hva
      have ht : ([x] : List Int).take un = [x] := List.take_of_length_le (by show 1 ≤ un; omega)
      rw [ht] at h1 h2
      refine ⟨w2, ?_, ?_, h3⟩
      · rw [h1, Nat.min_eq_left (by omega)]; rfl
      · rw [Nat.min_eq_left (by omega)]
        have e := reps_splice x (m := 0) (n := un) (k := 1) (by omega)
        have e2 : reps x 0 un = List.replicate un 0 := by simp [reps]
        rw [e2] at e
        rw [← e]
        exact h2
  obtain ⟨w2, hcp, ho2, hb2⟩ := hcp
  replace hu := Lib.hid hu
  replace ho2 := Lib.hid ho2
  have hb := Lib.hid (hb1.trans hb2)
  go_wp2_with fail
  refine hM.out.mono ?_
  rintro e w' ⟨rfl, rfl⟩
  go_wp2_with fail
  go_loopw [8] (fun mv wr => ∃ m : Nat, min 1 n ≤ m ∧ m ≤ n ∧ mv = .int .i64 m ∧ OwnI w.heap.size wr (.slice ua un uc) (reps x m n) ∧ Below w.heap.size w wr) (fun mv _ => n - (intOf mv).toNat)
  case atStart => exact ⟨min 1 n, Nat.le_refl _, Nat.min_le_right _ _, rfl, ho2.out, hb.out⟩
  case round =>
    obtain ⟨m, hm1, hm2, rfl, ho, hbr⟩ := hrel
    obtain ⟨wo, rfl⟩ : ∃ wo : World, wo = wr := ⟨_, rfl⟩
    have hl2 := ho.at.len
    rw [reps_len x hm2] at hl2
    by_cases hlt : m < n
    · have hm0 : 1 ≤ m := by omega
      obtain ⟨g, cap, cur, e, hgB, _, hnc, _⟩ : ∃ g cap cur, Value.slice ua un uc = .slice (some ⟨g, 0, none⟩) (reps x m n).length cap ∧ w.heap.size ≤ g ∧ wo.heap[g]? = some (.cells cur 3 (0, 0)) ∧ (reps x m n).length ≤ cap ∧ True := by
        rcases ho.2 with ⟨_, hn0⟩ | ⟨g, cap, cur, e, h1, h2, h3, _⟩
        · rw [reps_len x hm2] at hn0; omega
        · exact ⟨g, cap, cur, e, h1, h2, h3, trivial⟩
      rw [reps_len x hm2] at e hnc
      injection e with e1 e2 e3
      subst e1; subst e2; subst e3
      have hfull := Lib.hid hu
      clear hfull hu ho2 hcp hmk
      have hu2 := ho.at.pre m (by rw [reps_len x hm2]; exact hm2)
      have htk : (reps x m un).take m = List.replicate m x := by unfold reps; exact List.take_left' (by simp)
      rw [htk] at hu2
      obtain ⟨k, hk⟩ : ∃ k, k = ((List.replicate m x).take (un - m)).length := ⟨_, rfl⟩
      have hkk : k = min (un - m) m := by rw [hk]; simp
      have hkr : (List.replicate m x).take (un - m) = List.replicate k x := by rw [hkk, List.take_replicate]
      have hcp : ∀ W : World, OwnI w.heap.size W (.slice (some ⟨g, 0, none⟩) un uc) (reps x m un) → IntsAt W (.slice (some ⟨g, 0, none⟩) m uc) (List.replicate m x) → ∃ w2, (Builtin.copy_ #[22, 22] 3 #[.slice (some ⟨g, m, none⟩) (un - m) (uc - m), .slice (some ⟨g, 0, none⟩) m uc]).run Tryd.prog W = .ok (.int .i64 (k : Int)) w2 ∧ OwnI w.heap.size w2 (.slice (some ⟨g, 0, none⟩) un uc) (reps x (m + k) un) ∧ Below w.heap.size W w2 := by
        intro W hW hW2
        obtain ⟨w2, a, b, c⟩ := run_copyMin m 3 (some ⟨g, m, none⟩) (un - m) (uc - m) hW hW2 rfl (by rw [reps_len x hm2]; omega) (by omega) (by rw [List.length_replicate]; omega) (by rw [valAt_row])
        rw [← hk] at a b
        rw [hkr, reps_splice x (by omega)] at b
        exact ⟨w2, a, b, c⟩
      obtain ⟨w3, hc3, ho3, hb3⟩ := hcp wo.drew ho hu2
      have hwr : IntKind.i64.wrap ((m : Int) + (k : Int)) = (m : Int) + k := wrapK (by omega) (by omega)
      have hb4 : Below w.heap.size w w3 := hbr.drew.trans hb3
      have hk1 : 1 ≤ k := by omega
      have hk2 : m + k ≤ un := by omega
      have hsl1 : (0 ≤ (m : Int) ∧ (m : Int) ≤ (un : Int)) := ⟨by omega, by omega⟩
      have hsl2 : (0 ≤ (m : Int) ∧ (m : Int) ≤ (uc : Int)) := ⟨by omega, by omega⟩
      have hmc : ¬ uc = m := by omega
      replace ho3 := Lib.hid ho3
      replace ho := Lib.hid ho
      clear hcp hu2 htk hk hkr hkk
      go_upto_region 9 with fail
      refine wp_region_plan (fun _ => True) 9 [(0, true), (1, true), (2, true), (3, true), (4, true), (5, true), (6, true), (7, false), (8, true)] (by kernel_rfl) (by kernel_rfl) ?_
      have hS := trivial
      refine headY (v := ?_) (some 38) rfl rfl (Or.inl ⟨by rfl, ?_⟩) hS ?_
      rotate_left
      · rintro W' _; go_simp; try with_reducible rfl
      simp only [Act.put, List.setIfInBounds_toArray, List.set_cons_zero, List.set_cons_succ]
      refine headY (v := ?_) (some 39) rfl rfl (Or.inl ⟨by rfl, ?_⟩) hS ?_
      rotate_left
      · rintro W' _; go_simp; try with_reducible rfl
      simp only [Act.put, List.setIfInBounds_toArray, List.set_cons_zero, List.set_cons_succ]
      refine headY (v := ?_) (some 40) rfl rfl (Or.inl ⟨by rfl, ?_⟩) hS ?_
      rotate_left
      · rintro W' _; go_simp; try with_reducible rfl
      simp only [Act.put, List.setIfInBounds_toArray, List.set_cons_zero, List.set_cons_succ]
      refine headY (v := ?_) (some 41) rfl rfl (Or.inl ⟨by rfl, ?_⟩) hS ?_
      rotate_left
      · rintro W' _; go_simp; try with_reducible rfl
      simp only [Act.put, List.setIfInBounds_toArray, List.set_cons_zero, List.set_cons_succ]
      refine headY (v := ?_) (some 42) rfl rfl (Or.inl ⟨by rfl, ?_⟩) hS ?_
      rotate_left
      · rintro W' _; go_simp; try with_reducible rfl
      simp only [Act.put, List.setIfInBounds_toArray, List.set_cons_zero, List.set_cons_succ]
      refine headY (v := ?_) (some 43) rfl rfl (Or.inl ⟨by rfl, ?_⟩) hS ?_
      rotate_left
      · rintro W' _; go_simp; try with_reducible rfl
      simp only [Act.put, List.setIfInBounds_toArray, List.set_cons_zero, List.set_cons_succ]
      refine headY (v := ?_) (some 44) rfl rfl (Or.inl ⟨by rfl, ?_⟩) hS ?_
      rotate_left
      · rintro W' _; go_simp; try with_reducible rfl
      simp only [Act.put, List.setIfInBounds_toArray, List.set_cons_zero, List.set_cons_succ]
      refine headC rfl (fun KK hK => ?_)
      -- CALL 7 slot (some 45)
      go_simp
      refine hK _ _ hS ?_
      clear hK KK
      refine headY (v := ?_) (some 46) rfl rfl (Or.inl ⟨by rfl, ?_⟩) hS ?_
      rotate_left
      · rintro W' _; go_simp; try with_reducible rfl
      simp only [Act.put, List.setIfInBounds_toArray, List.set_cons_zero, List.set_cons_succ]
      refine head0 ?_
      simp only [List.drop_succ_cons, List.drop_zero]
      go_wp2
      refine NoPanic.normal ?_
      go_wp2
      go_round
      case measure => simp [intOf]; omega
      case rel => exact ⟨m + k, by omega, hk2, by go_num, ho3.out, hb4⟩
    · obtain rfl : m = n := by omega
      rw [reps_full] at ho
      replace ho := Lib.hid ho
      go_wp2
      go_ret
      exact ⟨_, rfl, hbr, ho.out⟩
end Go.Proofs.YtilpckngghffoaaDoor

namespace Go.Proofs.YtilpckngghffoaaDoor
open Go.RowKit Go.Shelf
attribute [local go_sem] Oper.semAt_some
set_option maxRecDepth 100000

end Go.Proofs.YtilpckngghffoaaDoor

namespace Go.Proofs.YtilpckngghffoaaDoor
open Go.RowKit Go.Shelf Go.Sort
set_option maxRecDepth 100000

def Tryd.laysSort_ren : Go.Shelf.Ren := ⟨fun | 5 => 29 | 8 => 50 | 7 => 49 | 19 => 68 | 20 => 69 | 10 => 59 | 11 => 60 | 12 => 61 | 13 => 62 | 14 => 63 | 15 => 64 | 16 => 65 | 17 => 66 | 18 => 67 | 30 => 75 | 31 => 76 | 32 => 77 | 33 => 78 | 34 => 79 | 35 => 80 | 40 => 81 | n => n, fun | 23 => 22 | 25 => 3 | 3 => 3 | 32 => 87 | 22 => 22 | 0 => 0 | 44 => 103 | 46 => 105 | 4 => 4 | 36 => 95 | 35 => 94 | 41 => 100 | 5 => 5 | 9 => 9 | 53 => 113 | 57 => 117 | 63 => 119 | 64 => 120 | n => n, fun | n => n⟩
theorem Tryd.laysSort : Go.Proofs.SlLaysM.n5 Tryd.prog Tryd.laysSort_ren := {
  mixed := by kernel_rfl
  f5 := ⟨Tryd.f29.name, by decide, Tryd.func29.trans (congrArg some (by kernel_rfl))⟩
  f7 := ⟨Tryd.f49.name, by decide, Tryd.func49.trans (congrArg some (by kernel_rfl))⟩
  f8 := Tryd.func50.trans (congrArg some (by kernel_rfl))
  f10 := ⟨Tryd.f59.name, by decide, Tryd.func59.trans (congrArg some (by kernel_rfl))⟩
  f11 := ⟨Tryd.f60.name, by decide, Tryd.func60.trans (congrArg some (by kernel_rfl))⟩
  f12 := ⟨Tryd.f61.name, by decide, Tryd.func61.trans (congrArg some (by kernel_rfl))⟩
  f13 := ⟨Tryd.f62.name, by decide, Tryd.func62.trans (congrArg some (by kernel_rfl))⟩
  f14 := ⟨Tryd.f63.name, by decide, Tryd.func63.trans (congrArg some (by kernel_rfl))⟩
  f15 := ⟨Tryd.f64.name, by decide, Tryd.func64.trans (congrArg some (by kernel_rfl))⟩
  f16 := ⟨Tryd.f65.name, by decide, Tryd.func65.trans (congrArg some (by kernel_rfl))⟩
  f17 := ⟨Tryd.f66.name, by decide, Tryd.func66.trans (congrArg some (by kernel_rfl))⟩
  f18 := ⟨Tryd.f67.name, by decide, Tryd.func67.trans (congrArg some (by kernel_rfl))⟩
  f19 := Tryd.func68.trans (congrArg some (by kernel_rfl))
  f20 := Tryd.func69.trans (congrArg some (by kernel_rfl))
  f30 := ⟨Tryd.f75.name, by decide, Tryd.func75.trans (congrArg some (by kernel_rfl))⟩
  f31 := Tryd.func76.trans (congrArg some (by kernel_rfl))
  f32 := Tryd.func77.trans (congrArg some (by kernel_rfl))
  f33 := ⟨Tryd.f78.name, by decide, Tryd.func78.trans (congrArg some (by kernel_rfl))⟩
  f34 := ⟨Tryd.f79.name, by decide, Tryd.func79.trans (congrArg some (by kernel_rfl))⟩
  f35 := ⟨Tryd.f80.name, by decide, Tryd.func80.trans (congrArg some (by kernel_rfl))⟩
  f40 := ⟨Tryd.f81.name, by decide, Tryd.func81.trans (congrArg some (by kernel_rfl))⟩
  t0 := Tryd.underlying0
  a0 := Tryd.isAgg0
  z0 := Tryd.sizeOf0
  v0 := Tryd.zeroValue0
  t3 := Tryd.underlying3
  a3 := Tryd.isAgg3
  z3 := Tryd.sizeOf3
  v3 := Tryd.zeroValue3
  t4 := Tryd.underlying4
  a4 := Tryd.isAgg4
  z4 := Tryd.sizeOf4
  v4 := Tryd.zeroValue4
  t5 := Tryd.underlying5
  a5 := Tryd.isAgg5
  z5 := Tryd.sizeOf5
  v5 := Tryd.zeroValue5
  t9 := Tryd.underlying9
  a9 := Tryd.isAgg9
  z9 := Tryd.sizeOf9
  v9 := Tryd.zeroValue9
  t22 := Tryd.underlying22
  a22 := Tryd.isAgg22
  z22 := Tryd.sizeOf22
  v22 := Tryd.zeroValue22
  t23 := Tryd.underlying22
  a23 := Tryd.isAgg22
  z23 := Tryd.sizeOf22
  v23 := Tryd.zeroValue22
  t25 := Tryd.underlying3
  a25 := Tryd.isAgg3
  z25 := Tryd.sizeOf3
  v25 := Tryd.zeroValue3
  t32 := Tryd.underlying87
  a32 := Tryd.isAgg87
  z32 := Tryd.sizeOf87
  v32 := Tryd.zeroValue87
  t35 := Tryd.underlying94
  a35 := Tryd.isAgg94
  z35 := Tryd.sizeOf94
  v35 := Tryd.zeroValue94
  t36 := Tryd.underlying95
  a36 := Tryd.isAgg95
  z36 := Tryd.sizeOf95
  v36 := Tryd.zeroValue95
  t41 := Tryd.underlying100
  a41 := Tryd.isAgg100
  z41 := Tryd.sizeOf100
  v41 := Tryd.zeroValue100
  t44 := Tryd.underlying103
  a44 := Tryd.isAgg103
  z44 := Tryd.sizeOf103
  v44 := Tryd.zeroValue103
  t46 := Tryd.underlying105
  a46 := Tryd.isAgg105
  z46 := Tryd.sizeOf105
  v46 := Tryd.zeroValue105
  t53 := Tryd.underlying113
  a53 := Tryd.isAgg113
  z53 := Tryd.sizeOf113
  v53 := Tryd.zeroValue113
  t57 := Tryd.underlying117
  a57 := Tryd.isAgg117
  z57 := Tryd.sizeOf117
  v57 := Tryd.zeroValue117
  t63 := Tryd.underlying119
  a63 := Tryd.isAgg119
  z63 := Tryd.sizeOf119
  v63 := Tryd.zeroValue119
  t64 := Tryd.underlying120
  a64 := Tryd.isAgg120
  z64 := Tryd.sizeOf120
  v64 := Tryd.zeroValue120 }

/-- Ascending. -/
def srt (xs : List Int) : List Int := xs.mergeSort fun x y => decide (x ≤ y)
theorem srt_length (xs : List Int) : (srt xs).length = xs.length := by simp [srt]

/-- slices.Sort at a list of one's own. -/
theorem sort_own (B : Nat) (v : Value) (xs : List Int) (w : World) (h : OwnI B w v xs) (hl : xs.length ≤ 17592186044416) (hB : B ≤ w.heap.size) :
    Calls Tryd.prog 29 #[v] w fun e w' => e = .returned (.tuple #[]) ∧ OwnI B w' v (srt xs) ∧ Below B w w' := by
  rcases h.2 with ⟨rfl, hn⟩ | ⟨g, cap, cur, rfl, hb, hg, hn, hcm, hs, ht⟩
  · obtain rfl := List.length_eq_zero_iff.1 hn
    refine Calls.mono (AnyM.slices_Sort_int_none Tryd.laysSort none 0 w) ?_
    rintro e w' ⟨rfl, rfl⟩
    exact ⟨rfl, by simpa [srt] using h, Below.refl _ _⟩
  · have hlen : xs.length < 4611686018427387904 := by omega
    refine Calls.mono (AnyM.slices_Sort_int Tryd.laysSort g 0 cap xs w (holds_of_block_i hg (by simpa using ht)) (Array.getElem?_eq_some_iff.1 hg).1 hlen) ?_
    rintro e w' ⟨rfl, n, os, rfl⟩
    refine ⟨rfl, ?_, (Below.refl _ _).grown (grownBy_sorted_i _) hB (fun j hj => by cases hj; exact hb)⟩
    have := ownsRow_sorted_i (n := n) (os := os) (ts := srt xs) (srt_length xs) hb hg hn hcm hs
    unfold OwnI
    rw [srt_length]
    exact this

end Go.Proofs.YtilpckngghffoaaDoor

namespace Go.Proofs.YtilpckngghffoaaDoor
open Go.RowKit Go.Shelf
set_option maxRecDepth 100000

def Tryd.laysRev_ren : Go.Shelf.Ren := ⟨fun | 112 => 34 | n => n, fun | 28 => 22 | 3 => 3 | 4 => 4 | 0 => 0 | n => n, fun | n => n⟩
theorem Tryd.laysRev : Go.Proofs.Lays.n112 Tryd.prog Tryd.laysRev_ren := {
  mixed := by kernel_rfl
  f112 := Tryd.func34.trans (congrArg some (by kernel_rfl))
  t0 := Tryd.underlying0
  a0 := Tryd.isAgg0
  z0 := Tryd.sizeOf0
  v0 := Tryd.zeroValue0
  t3 := Tryd.underlying3
  a3 := Tryd.isAgg3
  z3 := Tryd.sizeOf3
  v3 := Tryd.zeroValue3
  t4 := Tryd.underlying4
  a4 := Tryd.isAgg4
  z4 := Tryd.sizeOf4
  v4 := Tryd.zeroValue4
  t28 := Tryd.underlying22
  a28 := Tryd.isAgg22
  z28 := Tryd.sizeOf22
  v28 := Tryd.zeroValue22 }

theorem setCells_own {B g n cap : Nat} {w0 : World} : ∀ (zs : List Int) (o : Nat) (xs : List Int) (w : World), xs.length = n → o + zs.length ≤ n → OwnI B w (.slice (some ⟨g, 0, none⟩) n cap) xs → Below B w0 w →
    OwnI B (w.setCells g o (zs.map (Value.int .i64))) (.slice (some ⟨g, 0, none⟩) n cap) (xs.take o ++ zs ++ xs.drop (o + zs.length)) ∧ Below B w0 (w.setCells g o (zs.map (Value.int .i64)))
  | [], o, xs, w, _, _, h, hb => ⟨by simpa [World.setCells] using h, hb⟩
  | z :: r, o, xs, w, hn, ho, h, hb => by
    have hol : o < xs.length := by simp at ho; omega
    have h1 := h.set o hol z
    have h2 := h.setBelow hb o hol (.int .i64 z)
    rw [valAt_row] at h1 h2
    have ih := setCells_own r (o + 1) (xs.set o z) _ (by simpa using hn) (by simp at ho; omega) h1 h2
    have e : (xs.set o z).take (o + 1) ++ r ++ (xs.set o z).drop (o + 1 + r.length) = xs.take o ++ (z :: r) ++ xs.drop (o + (z :: r).length) := by
      rw [List.take_set, List.drop_set_of_lt (by omega)]
      rw [show (xs.take (o + 1)).set o z = xs.take o ++ [z] by rw [take_snoc xs o hol, List.set_append_right _ _ (by simp; omega)]; simp [show o - min o xs.length = 0 by omega]]
      simp [show o + 1 + r.length = o + (r.length + 1) by omega]
    rw [e] at ih
    exact ih

/-- slices.Reverse at a list of one's own. -/
theorem reverse_own (B : Nat) (v : Value) (xs : List Int) (w : World) (h : OwnI B w v xs) (hl : xs.length ≤ 9223372036854775807) :
    Calls Tryd.prog 34 #[v] w fun e w' => e = .returned (.tuple #[]) ∧ OwnI B w' v xs.reverse ∧ Below B w w' := by
  rcases h.2 with ⟨rfl, hn⟩ | ⟨g, cap, cur, rfl, hb, hg, hn, hm, hs, ht⟩
  · obtain rfl := List.length_eq_zero_iff.1 hn
    refine Calls.mono (Any.slices_Reverse_int_empty Tryd.laysRev none 0 w) ?_
    rintro e w' ⟨rfl, rfl⟩
    exact ⟨rfl, h, Below.refl _ _⟩
  · refine Calls.mono (Any.slices_Reverse_int_cells Tryd.laysRev g 0 xs.length cap xs w (Nat.le_refl _) hl (fun j hj => ?_) (fun j hj => ?_)) ?_
    · have := h.at.cellD j hj
      rw [valAt_row] at this
      simpa using this
    · have := h.frz j hj
      rw [valAt_row] at this
      simpa using this
    · rintro e w' ⟨rfl, q, rfl⟩
      rw [List.take_length]
      have := setCells_own (w0 := w) xs.reverse 0 xs (w.drewN q) rfl (by simp) (h.drewN q) (below_drewN (Below.refl _ _) q)
      simp at this
      simpa using ⟨this.1, this.2⟩

end Go.Proofs.YtilpckngghffoaaDoor

namespace Go.Proofs.YtilpckngghffoaaDoor
open Go.RowKit
set_option maxRecDepth 100000

/-- Plain numbers as ints. -/
def castI (l : List Nat) : List Int := l.map fun (x : Nat) => (x : Int)
theorem castI_len (l : List Nat) : (castI l).length = l.length := by simp [castI]
theorem castI_snoc (l : List Nat) (x : Nat) : castI (l ++ [x]) = castI l ++ [(x : Int)] := by simp [castI]
theorem castI_get {l : List Nat} {i x : Nat} (h : l[i]? = some x) : (castI l).getD i 0 = (x : Int) := by simp [castI, List.getD, h]
theorem castI_reverse (l : List Nat) : castI l.reverse = (castI l).reverse := by simp [castI]
theorem nodup_len : ∀ (n : Nat) (l : List Nat), l.Nodup → (∀ x ∈ l, x < n) → l.length ≤ n
  | 0, l, _, h => by
    cases l with
    | nil => exact Nat.le_refl _
    | cons a l => have := h a List.mem_cons_self; omega
  | n + 1, l, hn, h => by
    have hsub := nodup_len n (l.erase n) (hn.erase n) (fun x hx => by
      have h1 := h x (List.mem_of_mem_erase hx)
      have h2 : x ≠ n := fun e => by subst e; exact (List.Nodup.not_mem_erase hn) hx
      omega)
    have : l.length ≤ (l.erase n).length + 1 := by
      by_cases hm : n ∈ l
      · have := List.length_erase_of_mem hm; omega
      · rw [List.erase_of_not_mem hm]; omega
    omega
theorem srt_mem (l : List Int) (x : Int) : x ∈ srt l ↔ x ∈ l := by unfold srt; exact (List.mergeSort_perm l _).mem_iff
theorem srt_sorted (l : List Int) : (srt l).Pairwise (· ≤ ·) := by
  have := List.pairwise_mergeSort (le := fun (x y : Int) => decide (x ≤ y)) (fun a b c h1 h2 => by simp at *; omega) (fun a b => by simp; omega) l
  unfold srt
  exact this.imp (fun h => by simpa using h)
theorem tabI_neg1 (n : Nat) : tabI n (fun _ => -1) = List.replicate n (-1) := by
  unfold tabI; apply List.ext_getElem <;> simp
theorem rowsE (B : Nat) (w : World) : Rows B w (fun _ => none) := ⟨fun _ _ h => (by cases h), fun _ _ _ _ h => (by cases h)⟩
/-- What first leaves. -/
def FirstPost (w : World) (adj : Nat → List Nat) (a b : Nat) (x : Value) (w' : World) : Prop :=
  (∃ u, IsFirst adj a b u ∧ OwnI w.heap.size w' x (castI u)) ∨ (¬ Goes adj a b ∧ x = .slice none 0 0)
/-- The search's memory. -/
structure FN (f : Names) (cv qv : Value) (n : Nat) (came : Nat → Int) (q : List Nat) : Prop where
  came : f (1, 0) = some (rowI cv (tabI n came))
  queue : f (2, 0) = some (rowI qv (castI q))
section
variable {B : Nat} {w : World} {f : Names} {cv qv : Value} {n : Nat} {came : Nat → Int} {q : List Nat}
theorem FN.congr {f' : Names} (h : FN f cv qv n came q) (e1 : f' (1, 0) = f (1, 0)) (e2 : f' (2, 0) = f (2, 0)) : FN f' cv qv n came q := ⟨e1.trans h.came, e2.trans h.queue⟩
/-- came[t] = v. -/
theorem FN.set (h : FN f cv qv n came q) (hr : Rows B w f) (t : Nat) (ht : t < n) (v : Int) : ∃ f', Rows B (w.setCell (valAt cv t) (.int .i64 v)) f' ∧ FN f' cv qv n (updN came t v) q ∧ ∀ i, i ≠ (1, 0) → f' i = f i := by
  have hs := hr.setI h.came t (by rw [tabI_len]; exact ht) v
  rw [tabI_upd] at hs
  exact ⟨_, hs, ⟨upd_same _ _ _, by rw [upd_ne _ _ (by simp)]; exact h.queue⟩, fun i hi => upd_ne _ _ hi⟩
/-- queue = append(queue, t). -/
theorem FN.push (h : FN f cv qv n came q) (hr : Rows B w f) {w1 : World} {qv' : Value} (t : Nat) (ho : OwnI B w1 qv' (castI q ++ [(t : Int)]))
    (hal : (roomOf qv' = roomOf qv ∧ w.grownBy w1 qv.ownBlock) ∨ (∃ k, qv'.ownBlock = some k ∧ w.heap.size ≤ k ∧ w.grownBy w1 none)) : ∃ f', Rows B w1 f' ∧ FN f' cv qv' n came (q ++ [t]) ∧ ∀ i, i ≠ (2, 0) → f' i = f i := by
  have hO := hr.ownI h.queue
  have hg : w.grownBy w1 qv.ownBlock := grown_via (hal.imp (·.2) (fun ⟨_, _, _, q⟩ => q))
  have hob : qv'.ownBlock = qv.ownBlock ∨ ∃ k, qv'.ownBlock = some k ∧ w.heap.size ≤ k := by
    rcases hal with ⟨q, _⟩ | ⟨k, h1, h2, _⟩
    · obtain ⟨a1, n1, c1, e1⟩ := hO.at.shape
      obtain ⟨a2, n2, c2, e2⟩ := ho.at.shape
      exact .inl (ownBlock_of_room e1 e2 q)
    · exact .inr ⟨k, h1, h2⟩
  exact ⟨_, hr.grown (r' := rowI qv' (castI q ++ [(t : Int)])) h.queue hg ho hob, ⟨by rw [upd_ne _ _ (by simp)]; exact h.came, by rw [upd_same, castI_snoc]⟩, fun i hi => upd_ne _ _ hi⟩
end

end Go.Proofs.YtilpckngghffoaaDoor

namespace Go.Proofs.YtilpckngghffoaaDoor
open Go.RowKit
set_option maxRecDepth 100000

/-- Quotient and rest of small numbers, as the machine reckons them. -/
theorem dm (p N : Nat) (hp : p ≤ 100000000) : (p : Int).tdiv (N : Int) = ((p / N : Nat) : Int) ∧ (p : Int).tmod (N : Int) = ((p % N : Nat) : Int) ∧ (p : Int) / (N : Int) = ((p / N : Nat) : Int) ∧ (p : Int) % (N : Int) = ((p % N : Nat) : Int) ∧
    IntKind.i64.wrap ((p / N : Nat) : Int) = ((p / N : Nat) : Int) ∧ IntKind.i64.wrap ((p % N : Nat) : Int) = ((p % N : Nat) : Int) := by
  have h1 : p / N ≤ p := Nat.div_le_self _ _
  have h2 : p % N ≤ p := Nat.mod_le _ _
  refine ⟨by rw [Int.tdiv_eq_ediv_of_nonneg (by omega)]; simp, by rw [Int.tmod_eq_emod_of_nonneg (by omega)]; simp, by simp, by simp, ?_, ?_⟩
  · generalize p / N = a at *; exact wrapK (by omega) (by omega)
  · generalize p % N = a at *; exact wrapK (by omega) (by omega)

theorem words1_any (x : Int) (b N : Nat) (w : World) (hN : N ≤ 10000) (hb : w.cell? ⟨b, 0, none⟩ = some (.int .i64 N)) :
    Calls Tryd.prog 37 #[.int .i64 x, .pointer (some ⟨b, 0, none⟩)] w fun e w' => e = .returned (.bool (odd1 ((N * N : Nat) : Int) x)) ∧ w = w' := by
  have hM : (N : Int) * (N : Int) = ((N * N : Nat) : Int) := by simp
  have hM2 := Nat.mul_le_mul hN hN
  by_cases h : x < 0
  · have e : odd1 ((N * N : Nat) : Int) x = true := by simp [odd1, h]
    rw [e]
    clear hM hM2
    go_enter Tryd.func37, Tryd.ntmps37
    go_wp2
    go_ret
    exact ⟨rfl, rfl⟩
  · have e : odd1 ((N * N : Nat) : Int) x = decide (((N * N : Nat) : Int) ≤ x) := by simp [odd1, h]
    rw [e]
    generalize N * N = M at *
    clear e
    go_enter Tryd.func37, Tryd.ntmps37
    go_wp2
    go_ret
    exact ⟨ret_bool (by simp), rfl⟩
theorem eg_words1 (args : Array Value) (w : World) : (callFunc 37 args).run Tryd.prog w = .ok (.enter 37 args) w := by kernel_rfl

set_option maxHeartbeats 1000000 in
theorem words2_any (K R x q : Nat) (w : World) (hk1 : 1 ≤ K) (hk4 : K ≤ 4) (hR : R ≤ 3) (hx : x ≤ 100000) (q0 : w.cell? ⟨q, 0, none⟩ = some (.int .i64 K)) (q1 : w.cell? ⟨q, 1, none⟩ = some (.int .i64 R)) :
    Calls Tryd.prog 39 #[.int .i64 x, .pointer (some ⟨q, 0, none⟩)] w (Ret1 (fun y w' => OwnI w.heap.size w' y (digs K (2 * R) x)) w) := by
  obtain ⟨ov, w1, mk, ho, hb1⟩ := run_makeI (2 * (R : Int)) (2 * R) w (by omega) (by omega)
  have lo := ho.at.len
  rw [List.length_replicate] at lo
  obtain ⟨oa, on, oc, rfl⟩ := ho.at.shape
  have hql := World.block_lt_of_cell? _ _ q0
  have hK0 : ((K : Int) == 0) = false := by rw [beq_eq_false_iff_ne]; omega
  have hK1 : ¬ (K : Int) = 0 := by omega
  have hK2 : (0 : Int) < K := by omega
  have hK3 : ¬ K = 0 := by omega
  obtain ⟨N, hN⟩ : ∃ N, 2 * R = N := ⟨_, rfl⟩
  have hN6 : N ≤ 6 := by omega
  rw [hN] at ho lo ⊢
  have hNi : 2 * (R : Int) = (N : Int) := by omega
  have hNw : IntKind.i64.wrap (N : Int) = N := wrapK (by omega) (by omega)
  rw [hNi] at mk
  replace ho := Lib.hid ho
  replace hN := Lib.hid hN
  go_enter Tryd.func39, Tryd.ntmps39
  go_wp2_with fail
  clear mk
  go_loopw [0, 12] (fun xv jv wr => ∃ j : Nat, j ≤ N ∧ jv = .int .i64 j ∧ xv = .int .i64 (x / pw K j : Nat) ∧ OwnI w.heap.size wr (.slice oa on oc) ((List.replicate N (0 : Int)).take (N - j) ++ (digs K N x).drop (N - j)) ∧ Below w.heap.size w wr) (fun _ jv _ => N - (intOf jv).toNat)
  case atStart => exact ⟨0, by omega, rfl, by simp [pw], by rw [Nat.sub_zero, List.drop_of_length_le (by rw [digs_length]; exact Nat.le_refl _), List.append_nil, List.take_of_length_le (by simp)]; exact ho.out, hb1⟩
  case round =>
    obtain ⟨j, hj, rfl, rfl, hO, hbI⟩ := hrel
    obtain ⟨wi, rfl⟩ : ∃ wi : World, wi = wr := ⟨_, rfl⟩
    by_cases hjl : j < N
    · have hXl : ((List.replicate N (0 : Int)).take (N - j) ++ (digs K N x).drop (N - j)).length = N := by simp only [List.length_append, List.length_take, List.length_replicate, List.length_drop, digs_length]; omega
      have i1 : ∀ w', (Instr.indexAt 22 (.slice oa on oc) (.int .i64 ((N : Int) - 1 - (j : Int)))).run Tryd.prog w' = .ok (.pointer (some (valAt (.slice oa on oc) (N - 1 - j)))) w' := by
        intro w'
        have := hO.at.idxI ((N : Int) - 1 - (j : Int)) (by omega) (by rw [hXl]; omega) w'
        rwa [show ((N : Int) - 1 - (j : Int)).toNat = N - 1 - j by omega] at this
      have c1 := hO.at.cellD (N - 1 - j) (by rw [hXl]; omega)
      have f1 := hO.frz (N - 1 - j) (by rw [hXl]; omega)
      have hS := hO.set (N - 1 - j) (by rw [hXl]; omega) ((x / pw K j % K : Nat) : Int)
      have hbS := hO.setBelow hbI (N - 1 - j) (by rw [hXl]; omega) (.int .i64 ((x / pw K j % K : Nat) : Int))
      rw [digs_fill K N x j hjl _ (by simp)] at hS
      have hqd : x / pw K j / K = x / pw K (j + 1) := by rw [Nat.div_div_eq_div_mul, ← pw_succ]
      have hql : x / pw K j ≤ 100000 := Nat.le_trans (Nat.div_le_self _ _) hx
      have y0 := (hbI.cell (p := ⟨q, 0, none⟩) (World.block_lt_of_cell? _ _ q0)).trans q0
      have hbe := hO.blkB (N - 1 - j) (by rw [hXl]; omega)
      generalize ((List.replicate N (0 : Int)).take (N - j) ++ (digs K N x).drop (N - j)).getD (N - 1 - j) 0 = y at c1
      have y0' : (wi.setCell (valAt (.slice oa on oc) (N - 1 - j)) (.int .i64 ((x / pw K j % K : Nat) : Int))).cell? ⟨q, 0, none⟩ = some (.int .i64 K) := (hbS.cell (p := ⟨q, 0, none⟩) (World.block_lt_of_cell? _ _ q0)).trans q0
      have hlen' := lo
      generalize valAt (.slice oa on oc) (N - 1 - j) = ya at *
      generalize x / pw K j = z at *
      obtain ⟨a1, a2, a3, a4, a5, a6⟩ := dm z K (by omega)
      obtain ⟨d, hd⟩ : ∃ d, z % K = d := ⟨_, rfl⟩
      obtain ⟨e, he⟩ : ∃ e, z / K = e := ⟨_, rfl⟩
      rw [hd] at a2 a4 a6 hS hbS y0'
      rw [he] at a1 a3 a5 hqd
      replace hS := Lib.hid hS
      replace hbS := Lib.hid hbS
      replace hqd := Lib.hid hqd
      replace hO := Lib.hid hO
      replace hd := Lib.hid hd
      replace he := Lib.hid he
      clear hXl
      go_wp2
      go_roundw
      case rel => exact ⟨j + 1, by omega, by go_num, by rw [← hqd.out], hS.out, hbS.out⟩
      case measure => simp [intOf]; omega
    · obtain rfl : j = N := by omega
      rw [Nat.sub_self, List.take_zero, List.drop_zero, List.nil_append] at hO
      replace hO := Lib.hid hO
      go_wp2
      go_ret
      exact ⟨_, rfl, hbI, hO.out⟩
end Go.Proofs.YtilpckngghffoaaDoor

namespace Go.Proofs.YtilpckngghffoaaDoor
open Go.RowKit
set_option maxRecDepth 100000

/-- The lists of a function. -/
def rowsOf (n : Nat) (F : Nat → List Int) : List (List Int) := (List.range n).map F
theorem rowsOf_len (n : Nat) (F : Nat → List Int) : (rowsOf n F).length = n := by simp [rowsOf]
theorem rowsOf_get (n : Nat) (F : Nat → List Int) (u : Nat) (hu : u < n) : (rowsOf n F).getD u [] = F u := by simp [rowsOf, List.getD, hu]
theorem vAt_set_same {l : List Value} {k : Nat} {g : Value} (h : k < l.length) : vAt (l.set k g) k = g := by simp [vAt, List.getD, h]
theorem vAt_set_ne {l : List Value} {k t : Nat} {g : Value} (h : t ≠ k) : vAt (l.set k g) t = vAt l t := by
  simp [vAt, List.getD, Ne.symm h]
/-- What the names name: the outer row, the lists. -/
structure WN (f : Names) (ov : Value) (vals : List Value) (n : Nat) (F : Nat → List Int) : Prop where
  outer : f (1, 0) = some (rowV 22 ov vals)
  len : vals.length = n
  rows : ∀ u, u < n → f (2, u) = some (rowI (vAt vals u) (F u))
section
variable {B : Nat} {w : World} {f : Names} {ov : Value} {vals : List Value} {n : Nat} {F : Nat → List Int}
theorem WN.lists (h : WN f ov vals n F) (hr : Rows B w f) : ListsAt w ov (rowsOf n F) :=
  ⟨vals, (hr.ownV h.outer).at, by rw [h.len, rowsOf_len], fun i hi => by
    rw [rowsOf_len] at hi
    rw [rowsOf_get n F i hi]
    exact (hr.ownI (h.rows i hi)).at⟩
/-- out[u] = a list: the list's row is there; now the outer row's cell. -/
theorem WN.put (h : WN f ov vals n F) {w1 : World} {u : Nat} (hu : u < n) {v' : Value} {xs : List Int} (hr1 : Rows B w1 (upd f (2, u) (some (rowI v' xs)))) :
    w1.cell? (valAt ov u) = some (vAt vals u) ∧ w1.frozen? (valAt ov u) = false ∧ B ≤ (valAt ov u).block ∧
    ∃ f', Rows B (w1.setCell (valAt ov u) v') f' ∧ WN f' ov (vals.set u v') n (updN F u xs) ∧ ∀ i, i ≠ (1, 0) → i ≠ (2, u) → f' i = f i := by
  have ho : upd f (2, u) (some (rowI v' xs)) (1, 0) = some (rowV 22 ov vals) := by rw [upd_ne _ _ (by simp)]; exact h.outer
  have hl : u < vals.length := by rw [h.len]; exact hu
  have hO := hr1.ownV ho
  refine ⟨hO.at.cellV u hl, hO.frz u hl, (hO.blkB u hl).2, _, hr1.setV ho u hl v', ⟨upd_same _ _ _, by simpa using h.len, fun t ht => ?_⟩, fun i h1 h2 => by rw [upd_ne _ _ h1, upd_ne _ _ h2]⟩
  rw [upd_ne _ _ (by simp)]
  by_cases e : t = u
  · subst e
    rw [upd_same, vAt_set_same hl, updN_same]
  · rw [upd_ne _ _ (by simpa using e), vAt_set_ne e, updN_other _ _ _ e]
    exact h.rows t ht
/-- A list that a call has made. -/
theorem WN.new (_h : WN f ov vals n F) (hr : Rows B w f) {w1 : World} (u : Nat) {v' : Value} {xs : List Int} (hb : Below w.heap.size w w1) (hB : B ≤ w.heap.size) (ho : OwnI w.heap.size w1 v' xs) : Rows B w1 (upd f (2, u) (some (rowI v' xs))) :=
  hr.add hb (ho.mono hB) (fun k hk => (ho.lt k hk).1)
/-- append(out[u], x). -/
theorem WN.app (h : WN f ov vals n F) (hr : Rows B w f) {w1 : World} {u : Nat} (hu : u < n) {v' : Value} (x : Int) (ho : OwnI B w1 v' (F u ++ [x]))
    (hal : (roomOf v' = roomOf (vAt vals u) ∧ w.grownBy w1 (vAt vals u).ownBlock) ∨ (∃ k, v'.ownBlock = some k ∧ w.heap.size ≤ k ∧ w.grownBy w1 none)) : Rows B w1 (upd f (2, u) (some (rowI v' (F u ++ [x])))) := by
  have hO := hr.ownI (h.rows u hu)
  refine hr.grown (r' := rowI v' (F u ++ [x])) (h.rows u hu) (grown_via (hal.imp (·.2) (fun ⟨_, _, _, q⟩ => q))) ho ?_
  rcases hal with ⟨q, _⟩ | ⟨k, h1, h2, _⟩
  · obtain ⟨a1, n1, c1, e1⟩ := hO.at.shape
    obtain ⟨a2, n2, c2, e2⟩ := ho.at.shape
    exact .inl (ownBlock_of_room e1 e2 q)
  · exact .inr ⟨k, h1, h2⟩
/-- out[u][i] = x. -/
theorem WN.elem (h : WN f ov vals n F) (hr : Rows B w f) (u : Nat) (hu : u < n) (i : Nat) (hi : i < (F u).length) (x : Int) :
    ∃ f', Rows B (w.setCell (valAt (vAt vals u) i) (.int .i64 x)) f' ∧ WN f' ov vals n (updN F u ((F u).set i x)) := by
  refine ⟨_, hr.setI (h.rows u hu) i hi x, ⟨by rw [upd_ne _ _ (by simp)]; exact h.outer, h.len, fun t ht => ?_⟩⟩
  by_cases e : t = u
  · subst e; rw [upd_same, updN_same]
  · rw [upd_ne _ _ (by simpa using e), updN_other _ _ _ e]; exact h.rows t ht
end
/-- make([]T, n) as an equation. -/
theorem run_makeW {T E : TypeId} {z : Value} {b : Nat} (oc : OneCell T E z b) (C : Int) (n : Nat) (w : World) (hC : C = n) (hn : n ≤ 4398046511104) :
    ∃ v w', (Instr.makeSlice T (.int .i64 C) (.int .i64 C)).run Tryd.prog w = .ok v w' ∧ OwnV E w.heap.size w' v (List.replicate n z) ∧ Below w.heap.size w w' := by
  subst hC
  obtain ⟨i, hi, hz0, hz1, hz2⟩ := info_parts oc.hi
  have hb := oc.hb
  obtain ⟨w', hrun, r1, r2⟩ := run_make_full (P := Tryd.prog) w w.heap.size T E i z 1 oc.ht hi hz0 hz1 .i64 .i64 n (by
    rw [hz2]
    calc b * n ≤ 32 * 4398046511104 := Nat.mul_le_mul hb (by omega)
      _ ≤ _ := by decide) (by unfold maxLen; omega) (Nat.le_refl _)
  refine ⟨_, w', hrun, ?_, (Below.refl _ _).grown r2 (Nat.le_refl _) (by intro k hk; cases hk)⟩
  rw [oc.hz, toList_madeCells_one] at r1
  simpa [OwnV] using r1
/-- Lists none of which is made yet. -/
def nils (n : Nat) : Names := fun i => if i.1 = 2 ∧ i.2 < n then some (rowI (.slice none 0 0) []) else none
theorem rows_nils (B : Nat) (w : World) (n : Nat) : Rows B w (nils n) := by
  refine ⟨fun i r hi => ?_, fun i j r s hi _ _ => ?_⟩
  · unfold nils at hi
    split at hi
    · injection hi with hi; subst hi; exact OwnI.nil B w
    · cases hi
  · left
    unfold nils at hi
    split at hi
    · injection hi with hi; subst hi; rfl
    · cases hi
/-- make([][]int, n). -/
theorem WN.made {B : Nat} {w w1 : World} {ov : Value} (n : Nat) (hb : Below w.heap.size w w1) (hB : B ≤ w.heap.size) (ho : OwnV 22 w.heap.size w1 ov (List.replicate n (.slice none 0 0))) :
    ∃ f, Rows B w1 f ∧ WN f ov (List.replicate n (.slice none 0 0)) n (fun _ => []) := by
  refine ⟨_, (rows_nils B w n).add (i := (1, 0)) (r' := rowV 22 ov (List.replicate n (.slice none 0 0))) hb (ho.mono hB) (fun k hk => (ho.lt k hk).1), ⟨upd_same _ _ _, by simp, fun u hu => ?_⟩⟩
  rw [upd_ne _ _ (by simp)]
  show nils n (2, u) = _
  unfold nils
  rw [if_pos ⟨rfl, hu⟩]
  simp [vAt, List.getD, hu]
end Go.Proofs.YtilpckngghffoaaDoor

namespace Go.Proofs.YtilpckngghffoaaDoor
open Go.RowKit
set_option maxRecDepth 100000

/-- T: slices of E, a struct of two ints. -/
def TwoInts (T E : TypeId) : Prop := Tryd.prog.underlying T = some (.slice E) ∧ ∃ i, Tryd.prog.info? E = some i ∧ i.zero = some (.agg #[.int .i64 0, .int .i64 0]) ∧ i.size = 2 ∧ i.bytes = 16
theorem twoInts_mk {T E : TypeId} (h1 : Tryd.prog.underlying T = some (.slice E)) (h2 : (Tryd.prog.info? E).map (fun i => (i.zero, i.size, i.bytes)) = some (some (.agg #[.int .i64 0, .int .i64 0]), 2, 16)) : TwoInts T E := by
  refine ⟨h1, ?_⟩
  cases h : Tryd.prog.info? E with
  | none => rw [h] at h2; cases h2
  | some i => rw [h] at h2; simp at h2; exact ⟨i, rfl, h2.1, h2.2.1, h2.2.2⟩

/-- append of one struct of two ints. -/
theorem run_app2 {T E : TypeId} (tc : TwoInts T E) (w : World) (B : Nat) (ty : TypeId) (v : Value) (m : Nat) (xs : List Value) (hown : w.ownsRow B E 2 v m xs)
    (b : Nat) (y0 y1 : Int) (hys : ∀ (j : Nat) (u : Value), ([Value.int .i64 y0, .int .i64 y1] : List Value)[j]? = some u → w.cell? ((⟨b, 0, none⟩ : Addr).add j) = some u) (hlen : m < 1000000) (hB : B ≤ w.heap.size) :
    ∃ g n' c' w', (Builtin.append_ #[T, T] ty #[v, .slice (some ⟨b, 0, none⟩) 1 1]).run Tryd.prog w = .ok (.slice (some ⟨g, 0, none⟩) n' c') w' ∧ n' = m + 1 ∧ w'.ownsRow B E 2 (.slice (some ⟨g, 0, none⟩) (m + 1) c') (m + 1) (xs ++ [.int .i64 y0, .int .i64 y1]) ∧
      ((v.ownBlock = some g ∧ w.grownBy w' v.ownBlock) ∨ (g = w.heap.size ∧ w.grownBy w' none)) := by
  obtain ⟨ht, i, hi, hz0, hz1, hz2⟩ := tc
  have hzc : (Value.agg #[.int .i64 0, .int .i64 0]).cells = #[.int .i64 0, .int .i64 0] := by rfl
  have hxl := hown.1
  have big : ∀ (old : Nat), old < m + 1 →
      (w.drew.alloc (.cells (xs.toArray ++ [Value.int .i64 y0, .int .i64 y1].toArray ++ Builtin.zeroCells (Value.agg #[.int .i64 0, .int .i64 0]).cells (grownCap w (m + 1) old E - (m + 1))) E)).ownsRow B E 2 (.slice (some ⟨w.heap.size, 0, none⟩) (m + 1) (grownCap w (m + 1) old E)) (m + 1) (xs ++ [.int .i64 y0, .int .i64 y1]) := by
    intro old ho
    have hge := grownCap_ge w (m + 1) old E
    have hcm : grownCap w (m + 1) old E ≤ maxLen := grownCap_le_maxLen w _ old E (by unfold maxLen; omega)
    refine ⟨by simp [hxl]; omega, .inr ⟨w.heap.size, _, _, rfl, hB, heap_alloc_new w.drew _, hge, hcm, ?_, ?_⟩⟩
    · simp only [Array.size_append, List.size_toArray, size_zeroCells, hzc, hxl]
      simp
      omega
    · simp only [Array.toList_append]
      exact List.take_left' (by simp [hxl]; omega)
  have grw : ∀ (oo : Obj), w.grownBy (w.drew.alloc oo) none := fun oo => ⟨rfl, rfl, rfl, by simp, fun k hk _ => Below.heap_alloc w.drew oo k hk⟩
  rcases hown.2 with ⟨rfl, hn⟩ | ⟨g, cap, cur, rfl, hbg, hg, hnc, hcm, hcs, htake⟩
  · subst hn
    obtain rfl := List.length_eq_zero_iff.1 (show xs.length = 0 by omega)
    have hr := run_append_nil (P := Tryd.prog) w T ty E i _ ht hi hz0 ⟨b, 0, none⟩ 1 1 [.int .i64 y0, .int .i64 y1] (by rw [hz1]; rfl) hys (by omega) (by omega) (by rw [hz2]; decide)
    have hbg := big 0 (by omega)
    simp only [List.nil_append, Array.empty_append, Nat.zero_add] at hbg hr
    exact ⟨_, _, _, _, hr, rfl, by simpa using hbg, .inr ⟨rfl, grw _⟩⟩
  · by_cases hroom : m + 1 ≤ cap
    · have hr := run_append_room (P := Tryd.prog) w T ty E i ht hi g m cap cur hg ⟨b, 0, none⟩ 1 1 [.int .i64 y0, .int .i64 y1] (by rw [hz1]; rfl) hys (by simp [Value.oneCell']) hroom (by rw [hz1, hcs]; simp; omega)
      refine ⟨_, _, _, _, hr, rfl, ⟨by simp [hxl]; omega, .inr ⟨g, cap, _, rfl, hbg, setRow_heap w g cur _ E _ hg, hroom, hcm, ?_, ?_⟩⟩, .inl ⟨rfl, ⟨rfl, rfl, rfl, by simp, fun k _ hk => setRow_other w g k _ (fun e => hk (by simp [Value.ownBlock, e]))⟩⟩⟩
      · simp only [List.size_toArray, List.length_append, List.length_take, List.length_drop, Array.length_toList, hz1, hcs]
        simp
        omega
      · rw [hz1, htake]
        exact List.take_left' (by simp [hxl]; omega)
    · have holds : ∀ j u, xs[j]? = some u → w.cell? ((⟨g, 0, none⟩ : Addr).add j) = some u := World.ownsRow.cells hown (g := g) rfl
      have hr := run_append_grow (P := Tryd.prog) w T ty E i _ ht hi hz0 ⟨g, 0, none⟩ m cap xs (by rw [hz1]; exact hxl) holds ⟨b, 0, none⟩ 1 1 [.int .i64 y0, .int .i64 y1] (by rw [hz1]; rfl) hys (by omega) (by omega) (by
        rw [hz2]
        exact growslice_fits (by omega) (by
          calc (m + 1) * 16 ≤ 1000000 * 16 := Nat.mul_le_mul_right _ hlen
            _ ≤ _ := by decide))
      exact ⟨_, _, _, _, hr, rfl, big cap (by omega), .inr ⟨rfl, grw _⟩⟩

/-- append(s, struct) in the text's order. -/
theorem wpl_app2 {T E : TypeId} (tc : TwoInts T E) {w : World} {ops : Array Oper} {rest : List Oper} {o : Oper} {a : Act} {Q : Exit → Act → World → Prop} (hgd : o.guard = none) (s x : Operand)
    (ho : o.op = .call { callee := .builtin .append, args := #[s, x], argTypes := #[T, T] })
    (B : Nat) (v : Value) (m : Nat) (xs : List Value) (y0 y1 : Int) (b : Nat) (hown : w.ownsRow B E 2 v m xs) (hs : a.eval s = v) (hx : a.eval x = .slice (some ⟨b, 0, none⟩) 1 1) (hb : b = w.heap.size)
    (hlen : m < 1000000) (hB : B ≤ w.heap.size)
    (h : ∀ g c w', w'.ownsRow B E 2 (.slice (some ⟨g, 0, none⟩) (m + 1) c) (m + 1) (xs ++ [.int .i64 y0, .int .i64 y1]) → ((v.ownBlock = some g ∧ w.grownBy w' v.ownBlock) ∨ (w.heap.size ≤ g ∧ w.grownBy w' none)) → wpList Tryd.prog ops Q rest (a.put o.dst (.slice (some ⟨g, 0, none⟩) (m + 1) c)) w') :
    wpList Tryd.prog ops Q (o :: rest) a (w.alloc (.cells #[.int .i64 y0, .int .i64 y1] E)) := by
  subst hb
  refine wpList_plain hgd fun K hK => ?_
  have hcells : ∀ (j : Nat) (u : Value), ([Value.int .i64 y0, .int .i64 y1] : List Value)[j]? = some u → (w.alloc (.cells #[.int .i64 y0, .int .i64 y1] E)).cell? ((⟨w.heap.size, 0, none⟩ : Addr).add j) = some u := by
    intro j u hj
    have hn := heap_alloc_new w (.cells #[.int .i64 y0, .int .i64 y1] E)
    match j, hj with
    | 0, hj => simp at hj; subst hj; simp only [World.cell?, Addr.add, if_true]; rw [hn]; rfl
    | 1, hj => simp at hj; subst hj; simp only [World.cell?, Addr.add, show ¬ (1 = 0) by decide, if_false]; rw [hn]; rfl
    | j + 2, hj => simp at hj
  obtain ⟨g, n', c', w', hr, rfl, h2, h3⟩ := run_app2 tc (w.alloc (.cells #[.int .i64 y0, .int .i64 y1] E)) B o.type v m xs (World.ownsRow.alloc hown _) w.heap.size y0 y1 hcells hlen (by simp; omega)
  unfold Oper.wp execOp
  simp only [ho, resolve, invoke, builtin, Sem.run_bind, Sem.run_pure, Result.andThen_ok, List.map_toArray, List.map_cons, List.map_nil, hs, hx]
  rw [hr]
  have hal : ∀ row, w.grownBy (w.alloc (.cells #[.int .i64 y0, .int .i64 y1] E)) row := fun row => World.grownBy_alloc w _ row
  rcases h3 with ⟨hv, hg⟩ | ⟨hk, hg⟩
  · exact hK _ _ (h g c' w' h2 (.inl ⟨hv, (hal v.ownBlock).trans hg⟩))
  · exact hK _ _ (h g c' w' h2 (.inr ⟨by rw [hk]; simp, (hal none).trans hg⟩))

/-- The cells of such a row. -/
def flat2 (l : List (Int × Int)) : List Value := l.flatMap fun p => [.int .i64 p.1, .int .i64 p.2]
theorem flat2_snoc (l : List (Int × Int)) (a b : Int) : flat2 (l ++ [(a, b)]) = flat2 l ++ [.int .i64 a, .int .i64 b] := by simp [flat2]
theorem flat2_get (l : List (Int × Int)) (s : Nat) (h : s < l.length) : (flat2 l)[s * 2]? = some (.int .i64 l[s].1) ∧ (flat2 l)[s * 2 + 1]? = some (.int .i64 l[s].2) := by
  induction l generalizing s with
  | nil => simp at h
  | cons p l ih =>
    cases s with
    | zero => exact ⟨rfl, rfl⟩
    | succ s =>
      have := ih s (by simpa using h)
      rw [show (s + 1) * 2 = s * 2 + 1 + 1 by omega]
      simpa [flat2] using this

end Go.Proofs.YtilpckngghffoaaDoor

namespace Go.Proofs.YtilpckngghffoaaDoor
open Go.RowKit
set_option maxRecDepth 100000

/-- What is told so far: the first k lists, and j of the next. -/
def BackTo (G : List (List Int)) (k j : Nat) (F : Nat → List Int) : Prop :=
  ∀ t, t < G.length → ((F t).length ≤ arrowsTo G k + j ∧ ∀ y : Int, y ∈ F t ↔ ∃ v : Nat, y = v ∧ (v < k ∧ (t : Int) ∈ G.getD v [] ∨ v = k ∧ (t : Int) ∈ (G.getD k []).take j))
theorem BackTo.zero (G : List (List Int)) : BackTo G 0 0 (fun _ => []) := by
  intro t _
  refine ⟨Nat.zero_le _, fun y => ⟨fun h => (by cases h), fun ⟨v, _, h⟩ => ?_⟩⟩
  rcases h with ⟨h, _⟩ | ⟨_, h⟩
  · omega
  · simp at h
theorem BackTo.next {G : List (List Int)} {k : Nat} {F : Nat → List Int} (h : BackTo G k (G.getD k []).length F) : BackTo G (k + 1) 0 F := by
  intro t ht
  obtain ⟨h1, h2⟩ := h t ht
  refine ⟨by simpa [arrowsTo] using h1, fun y => ?_⟩
  rw [h2 y]
  constructor
  · rintro ⟨v, hv, h⟩
    refine ⟨v, hv, .inl ?_⟩
    rcases h with ⟨a, b⟩ | ⟨rfl, b⟩
    · exact ⟨by omega, b⟩
    · rw [List.take_length] at b; exact ⟨by omega, b⟩
  · rintro ⟨v, hv, h⟩
    rcases h with ⟨a, b⟩ | ⟨_, b⟩
    · refine ⟨v, hv, ?_⟩
      by_cases e : v = k
      · subst e; exact .inr ⟨rfl, by rw [List.take_length]; exact b⟩
      · exact .inl ⟨by omega, b⟩
    · simp at b
theorem BackTo.add {G : List (List Int)} {k j u : Nat} {F : Nat → List Int} (h : BackTo G k j F) (hj : (G.getD k [])[j]? = some (u : Int)) : BackTo G k (j + 1) (updN F u (F u ++ [(k : Int)])) := by
  have hjl : j < (G.getD k []).length := by
    by_cases q : j < (G.getD k []).length
    · exact q
    · rw [List.getElem?_eq_none (by omega)] at hj; cases hj
  have htk : (G.getD k []).take (j + 1) = (G.getD k []).take j ++ [(u : Int)] := by
    rw [List.take_add_one, hj]; rfl
  intro t ht
  obtain ⟨h1, h2⟩ := h t ht
  by_cases e : t = u
  · subst e
    rw [updN_same]
    refine ⟨by rw [List.length_append]; simp only [List.length_cons, List.length_nil]; omega, fun y => ?_⟩
    rw [List.mem_append, h2 y, htk]
    simp only [List.mem_singleton, List.mem_append]
    constructor
    · rintro (⟨v, hv, h⟩ | rfl)
      · refine ⟨v, hv, ?_⟩
        rcases h with h | ⟨a, b⟩
        · exact .inl h
        · exact .inr ⟨a, .inl b⟩
      · exact ⟨k, rfl, .inr ⟨rfl, .inr (by simp)⟩⟩
    · rintro ⟨v, hv, h⟩
      rcases h with h | ⟨a, b | b⟩
      · exact .inl ⟨v, hv, .inl h⟩
      · exact .inl ⟨v, hv, .inr ⟨a, b⟩⟩
      · right; rw [hv, a]
  · rw [updN_other _ _ _ e]
    refine ⟨by omega, fun y => ?_⟩
    rw [h2 y, htk]
    simp only [List.mem_append, List.mem_singleton]
    constructor
    · rintro ⟨v, hv, h⟩
      refine ⟨v, hv, ?_⟩
      rcases h with h | ⟨a, b⟩
      · exact .inl h
      · exact .inr ⟨a, .inl b⟩
    · rintro ⟨v, hv, h⟩
      refine ⟨v, hv, ?_⟩
      rcases h with h | ⟨a, b | b⟩
      · exact .inl h
      · exact .inr ⟨a, b⟩
      · exact absurd (by omega) e
end Go.Proofs.YtilpckngghffoaaDoor

namespace Go.Proofs.YtilpckngghffoaaDoor
open Go.RowKit
set_option maxRecDepth 100000

/-- A node's first arrows: where to, and what is told. -/
def arrL (K N : Nat) (T : List Int) (u n : Nat) : List (Int × Int) := (List.range n).map fun s => ((toN K N u s : Int), labN K T u s)
theorem arrL_len (K N : Nat) (T : List Int) (u n : Nat) : (arrL K N T u n).length = n := by simp [arrL]
theorem arrL_succ (K N : Nat) (T : List Int) (u n : Nat) : arrL K N T u (n + 1) = arrL K N T u n ++ [((toN K N u n : Int), labN K T u n)] := by simp [arrL, List.range_succ]
/-- While they are written: all of the first k nodes, and the next node's first j. -/
def arrTo (K N : Nat) (T : List Int) (k j : Nat) (u : Nat) : List (Int × Int) := if u < k then arrL K N T u K else if u = k then arrL K N T u j else []
theorem arrTo_zero (K N : Nat) (T : List Int) : arrTo K N T 0 0 = fun _ => [] := by
  funext u; unfold arrTo
  rw [if_neg (by omega)]
  split
  · simp [arrL]
  · rfl
theorem arrTo_next (K N : Nat) (T : List Int) (k : Nat) : arrTo K N T k K = arrTo K N T (k + 1) 0 := by
  funext u; unfold arrTo
  by_cases h : u < k
  · rw [if_pos h, if_pos (by omega)]
  · rw [if_neg h]
    by_cases e : u = k
    · rw [if_pos e, if_pos (by omega)]
    · rw [if_neg e, if_neg (by omega)]
      split
      · simp [arrL]
      · rfl
theorem arrTo_at (K N : Nat) (T : List Int) (k j : Nat) : arrTo K N T k j k = arrL K N T k j := by unfold arrTo; rw [if_neg (by omega), if_pos rfl]
theorem arrTo_step (K N : Nat) (T : List Int) (k j : Nat) : updN (arrTo K N T k j) k (arrL K N T k (j + 1)) = arrTo K N T k (j + 1) := by
  funext u
  by_cases e : u = k
  · subst e; rw [updN_same, arrTo_at]
  · rw [updN_other _ _ _ e]; unfold arrTo
    by_cases h : u < k
    · rw [if_pos h, if_pos h]
    · rw [if_neg h, if_neg h, if_neg e, if_neg e]

theorem twoArrow : TwoInts 63 65 := twoInts_mk (by kernel_rfl) (by kernel_rfl)
theorem oneArrows : OneCell 61 63 (.slice none 0 0) 24 := ⟨by kernel_rfl, by kernel_rfl, rfl, by decide, fun _ => by kernel_rfl⟩
/-- What the names name: the outer row, the nodes' arrows. -/
structure AN (f : Names) (ov : Value) (vals : List Value) (n : Nat) (F : Nat → List (Int × Int)) : Prop where
  outer : f (1, 0) = some (rowV 63 ov vals)
  len : vals.length = n
  rows : ∀ u, u < n → f (2, u) = some ⟨65, 2, vAt vals u, (F u).length, flat2 (F u)⟩
section
variable {B : Nat} {w : World} {f : Names} {ov : Value} {vals : List Value} {n : Nat} {F : Nat → List (Int × Int)}
def nils2 (n : Nat) : Names := fun i => if i.1 = 2 ∧ i.2 < n then some ⟨65, 2, .slice none 0 0, 0, []⟩ else none
theorem rows_nils2 (B : Nat) (w : World) (n : Nat) : Rows B w (nils2 n) := by
  refine ⟨fun i r hi => ?_, fun i j r s hi _ _ => ?_⟩
  · unfold nils2 at hi
    split at hi
    · injection hi with hi; subst hi; exact World.ownsRow_nil w B _ 2
    · cases hi
  · left
    unfold nils2 at hi
    split at hi
    · injection hi with hi; subst hi; rfl
    · cases hi
theorem AN.made {w1 : World} (n : Nat) (hb : Below w.heap.size w w1) (hB : B ≤ w.heap.size) (ho : OwnV 63 w.heap.size w1 ov (List.replicate n (.slice none 0 0))) :
    ∃ f, Rows B w1 f ∧ AN f ov (List.replicate n (.slice none 0 0)) n (fun _ => []) := by
  refine ⟨_, (rows_nils2 B w n).add (i := (1, 0)) (r' := rowV 63 ov (List.replicate n (.slice none 0 0))) hb (ho.mono hB) (fun k hk => (ho.lt k hk).1), ⟨upd_same _ _ _, by simp, fun u hu => ?_⟩⟩
  rw [upd_ne _ _ (by simp)]
  show nils2 n (2, u) = _
  unfold nils2
  rw [if_pos ⟨rfl, hu⟩]
  simp [vAt, List.getD, hu, flat2]
/-- out[u] = append(out[u], arrow). -/
theorem AN.app (h : AN f ov vals n F) (hr : Rows B w f) {w1 : World} {u g c : Nat} (hu : u < n) (x y : Int)
    (ho : w1.ownsRow B 65 2 (.slice (some ⟨g, 0, none⟩) ((F u).length + 1) c) ((F u).length + 1) (flat2 (F u) ++ [.int .i64 x, .int .i64 y]))
    (hal : ((vAt vals u).ownBlock = some g ∧ w.grownBy w1 (vAt vals u).ownBlock) ∨ (w.heap.size ≤ g ∧ w.grownBy w1 none)) :
    w1.cell? (valAt ov u) = some (vAt vals u) ∧ w1.frozen? (valAt ov u) = false ∧ B ≤ (valAt ov u).block ∧
    ∃ f' vals', Rows B (w1.setCell (valAt ov u) (.slice (some ⟨g, 0, none⟩) ((F u).length + 1) c)) f' ∧ AN f' ov vals' n (updN F u (F u ++ [(x, y)])) := by
  have hrow := h.rows u hu
  have hg : w.grownBy w1 (vAt vals u).ownBlock := grown_via (hal.imp (·.2) (·.2))
  have hob : (Value.slice (some ⟨g, 0, none⟩) ((F u).length + 1) c).ownBlock = (vAt vals u).ownBlock ∨ ∃ k, (Value.slice (some ⟨g, 0, none⟩) ((F u).length + 1) c).ownBlock = some k ∧ w.heap.size ≤ k := by
    rcases hal with ⟨q, _⟩ | ⟨q, _⟩
    · exact .inl q.symm
    · exact .inr ⟨g, rfl, q⟩
  have h1 := hr.grown (r' := ⟨65, 2, .slice (some ⟨g, 0, none⟩) ((F u).length + 1) c, (F u).length + 1, flat2 (F u) ++ [Value.int .i64 x, Value.int .i64 y]⟩) hrow hg (show Row.own B w1 ⟨_, _, _, _, _⟩ from ho) hob
  have ho' : upd f (2, u) (some ⟨65, 2, .slice (some ⟨g, 0, none⟩) ((F u).length + 1) c, (F u).length + 1, flat2 (F u) ++ [Value.int .i64 x, Value.int .i64 y]⟩) (1, 0) = some (rowV 63 ov vals) := by rw [upd_ne _ _ (by simp)]; exact h.outer
  have hl : u < vals.length := by rw [h.len]; exact hu
  have hO := h1.ownV ho'
  refine ⟨hO.at.cellV u hl, hO.frz u hl, (hO.blkB u hl).2, _, _, h1.setV ho' u hl _, ⟨upd_same _ _ _, by simpa using h.len, fun t ht => ?_⟩⟩
  rw [upd_ne _ _ (by simp)]
  by_cases e : t = u
  · subst e
    rw [upd_same, vAt_set_same hl, updN_same, flat2_snoc]; simp
  · rw [upd_ne _ _ (by simpa using e), vAt_set_ne e, updN_other _ _ _ e]
    exact h.rows t ht
end
/-- v reads each node's arrows. -/
def ArrowsAt (w : World) (v : Value) (K N : Nat) (T : List Int) : Prop :=
  ∃ vs, ValsAt w v vs ∧ vs.length = N ∧ ∀ u, u < N → ∃ g c, vAt vs u = .slice (some ⟨g, 0, none⟩) K c ∧ K ≤ c ∧ ∀ s, s < K → w.cell? ⟨g, s * 2, none⟩ = some (.int .i64 (toN K N u s)) ∧ w.cell? ⟨g, s * 2 + 1, none⟩ = some (.int .i64 (labN K T u s))
theorem ArrowsAt.below {w w' : World} {v : Value} {K N : Nat} {T : List Int} (h : ArrowsAt w v K N T) (hb : Below w.heap.size w w') : ArrowsAt w' v K N T := by
  obtain ⟨vs, h1, h2, h3⟩ := h
  refine ⟨vs, h1.below hb, h2, fun u hu => ?_⟩
  obtain ⟨g, c, e, hc, h4⟩ := h3 u hu
  exact ⟨g, c, e, hc, fun s hs => ⟨cell_keep hb (h4 s hs).1, cell_keep hb (h4 s hs).2⟩⟩
theorem AN.reads {B : Nat} {w : World} {f : Names} {ov : Value} {vals : List Value} {K N : Nat} {T : List Int} (hK : 1 ≤ K) (h : AN f ov vals N (arrTo K N T N 0)) (hr : Rows B w f) : ArrowsAt w ov K N T := by
  refine ⟨vals, (hr.ownV h.outer).at, h.len, fun u hu => ?_⟩
  have hrow := h.rows u hu
  have hF : arrTo K N T N 0 u = arrL K N T u K := by unfold arrTo; rw [if_pos hu]
  rw [hF, arrL_len] at hrow
  obtain ⟨g, c, e, hc⟩ := row_shape (hr.1 _ _ hrow) hK
  refine ⟨g, c, e, hc, fun s hs => ?_⟩
  have c0 := hr.cell hrow (g := g) (cap := c) e (s * 2) (by simp; omega)
  have c1 := hr.cell hrow (g := g) (cap := c) e (s * 2 + 1) (by simp; omega)
  have := flat2_get (arrL K N T u K) s (by rw [arrL_len]; exact hs)
  have ea : (arrL K N T u K)[s]'(by rw [arrL_len]; exact hs) = ((toN K N u s : Int), labN K T u s) := by simp [arrL]
  rw [ea] at this
  exact ⟨c0.trans this.1, c1.trans this.2⟩

set_option maxHeartbeats 2000000 in
theorem arrows_any (r : Nat → Addr) (K R : Nat) (va : Option Addr) (vn vc : Nat) (T : List Int) (w : World) (hg : Glob r w) (h : IntsAt w (.slice va vn vc) T) (hok : RuleOk K R T) (hl : T.length ≤ 256) :
    Calls Tryd.prog 28 #[.agg #[.int .i64 K, .int .i64 R, .slice va vn vc]] w (Ret1 (fun x w' => ArrowsAt w' x K (T.length / K) T) w) := by
  have b0 := belowAlloc w (.cells #[.int .i64 K, .int .i64 R, .slice va vn vc] 24)
  have q : Box3 (w.alloc (.cells #[.int .i64 K, .int .i64 R, .slice va vn vc] 24)) w.heap.size (.int .i64 K) (.int .i64 R) (.slice va vn vc) := by simp [Box3, go_sem]
  have hk1 := hok.k1
  have hk4 := hok.k4
  have hN0 : T.length / K ≤ 256 := Nat.le_trans (Nat.div_le_self _ _) hl
  have hEdge := fun (u s : Nat) (w' : World) (hgl : Glob r w') (hT : IntsAt w' (.slice va vn vc) T) (hu : u < T.length / K) (hs : s < K) => over_Edge r K R va vn vc T u s w' hgl hT hok hl hu hs
  have hNodes := fun (w' : World) (hgl : Glob r w') (hT : IntsAt w' (.slice va vn vc) T) => over_Nodes r K R va vn vc T w' hgl hT hok hl
  generalize T.length / K = N at *
  replace hEdge := Lib.hid hEdge
  replace hNodes := Lib.hid hNodes
  replace hg := Lib.hid (hg.below b0)
  replace h := Lib.hid (h.below b0)
  replace hok := Lib.hid hok
  go_enter Tryd.func28, Tryd.ntmps28
  go_wp2_with fail
  refine (hNodes.out _ hg.out h.out).mono ?_
  rintro e w1 ⟨x, y, rfl, b1, rfl, rfl⟩
  have q1 := q.below b1
  have b01 := Below.step b0 b1
  have hg1 := hg.out.below b1
  have hT1 := h.out.below b1
  clear q
  go_wp2_with fail
  obtain ⟨ov, w2, mk, ho, hb2⟩ := run_makeW oneArrows (N : Int) N w1 rfl (by omega)
  obtain ⟨f1, hr1, h1⟩ := AN.made N hb2 (Nat.le_refl _) ho
  obtain ⟨oa, on, oc, rfl⟩ := ho.shape
  have lo := fun w' => (ho.at).len oneArrows 3 w'
  rw [List.length_replicate] at lo
  rw [mk]
  simp only [Result.andThen]
  rw [← arrTo_zero K N T] at h1
  replace hr1 := Lib.hid hr1
  replace ho := Lib.hid ho
  replace q1 := Lib.hid q1
  replace hg1 := Lib.hid hg1
  replace hT1 := Lib.hid hT1
  clear mk
  go_wp2_with fail
  clear lo
  go_loopw [20] (fun kv wr => ∃ (k : Nat) (f : Names) (vals : List Value), k ≤ N ∧ kv = .int .i64 k ∧ Rows w1.heap.size wr f ∧ Below w1.heap.size w1 wr ∧ AN f (.slice oa on oc) vals N (arrTo K N T k 0)) (fun kv _ => N - (intOf kv).toNat)
  case atStart => exact ⟨0, f1, _, by omega, rfl, hr1.out, hb2, h1⟩
  case round =>
    clear h1 ho hr1 hb2
    obtain ⟨k, f2, vals, hk, rfl, hr2, b2, h2⟩ := hrel
    obtain ⟨wo, rfl⟩ : ∃ wo : World, wo = wr := ⟨_, rfl⟩
    by_cases hlt : k < N
    · have z0 := (q1.out.below b2).1.1
      replace hr2 := Lib.hid hr2
      go_wp2_with fail
      clear z0
      go_loopw [25] (fun jv wr => ∃ (j : Nat) (f : Names) (vals : List Value), j ≤ K ∧ jv = .int .i64 j ∧ Rows w1.heap.size wr f ∧ Below w1.heap.size w1 wr ∧ AN f (.slice oa on oc) vals N (arrTo K N T k j)) (fun jv _ => K - (intOf jv).toNat)
      case atStart => exact ⟨0, f2, vals, by omega, rfl, hr2.out, b2, h2⟩
      case round =>
        clear hr2 h2 b2
        obtain ⟨j, f3, vals, hj, rfl, hr3, b3, h3⟩ := hrel
        obtain ⟨wo, rfl⟩ : ∃ wo : World, wo = wr := ⟨_, rfl⟩
        by_cases hjl : j < K
        · obtain ⟨z0, z1, z2⟩ := (q1.out.below b3).1
          replace hr3 := Lib.hid hr3
          go_wp2_with fail
          refine (hEdge.out k j _ (hg1.out.below b3) (hT1.out.below b3) hlt hjl).mono ?_
          rintro e w4 ⟨x, y, z, rfl, b4, rfl, rfl, rfl⟩
          have hr4 := hr3.out.below b4
          have b34 := Below.trans b3 (b4.mono b3.size)
          clear z0 z1 z2
          have hOV := (hr4.ownV h3.outer).at
          have iO := fun w' => hOV.idx oneArrows k (by rw [h3.len]; exact hlt) w'
          have cO := hOV.cellV k (by rw [h3.len]; exact hlt)
          have hT := hr4.1 _ _ (h3.rows k hlt)
          have hB4 : w1.heap.size ≤ w4.heap.size := b34.size
          have happ := fun (w5 : World) (g c : Nat) => h3.app hr4 (w1 := w5) (g := g) (c := c) hlt (toN K N k j) (labN K T k j)
          rw [arrTo_at, ← arrL_succ, arrTo_step] at happ
          rw [arrTo_at] at hT
          unfold Row.own at hT
          simp only [arrL_len] at hT
          generalize vAt vals k = tv at *
          generalize valAt (.slice oa on oc) k = ua at *
          obtain ⟨X, hX⟩ : ∃ X, toN K N k j = X := ⟨_, rfl⟩
          obtain ⟨Y, hY⟩ : ∃ Y, labN K T k j = Y := ⟨_, rfl⟩
          rw [hX, hY] at happ ⊢
          replace happ := Lib.hid happ
          replace hr4 := Lib.hid hr4
          replace hOV := Lib.hid hOV
          replace hX := Lib.hid hX
          replace hY := Lib.hid hY
          go_wp2_with (at_builtin; go_loud (refine wpl_app2 twoArrow rfl _ _ rfl w1.heap.size tv j (flat2 (arrL K N T k j)) X Y _ hT rfl rfl (by simp) (by omega) hB4 ?_))
          intro g c w7 ho7 hal7
          obtain ⟨y1, y2, y3, f8, vals8, hr8, h8⟩ := happ.out w7 g c (by rw [arrL_len]; exact ho7) hal7
          rw [arrL_len] at hr8
          replace hr8 := Lib.hid hr8
          replace ho7 := Lib.hid ho7
          have b7 : Below w1.heap.size w4 w7 := by
            rcases hal7 with ⟨hv, hgr⟩ | ⟨_, hgr⟩
            · exact (Below.refl _ _).grown hgr hB4 (fun m hm => (World.ownsRow.lt hT m hm).1)
            · exact (Below.refl _ _).grown hgr hB4 (fun m hm => by cases hm)
          clear hal7 hT cO
          go_wp2
          go_roundw
          case measure => simp [intOf]; omega
          case rel => exact ⟨j + 1, f8, vals8, by omega, by go_num, hr8.out, (b34.trans b7).setCell y3 _, h8⟩
        · obtain rfl : j = K := by omega
          rw [arrTo_next] at h3
          replace hr3 := Lib.hid hr3
          go_wp2
          go_roundw
          case measure => simp [intOf]; omega
          case rel => exact ⟨k + 1, f3, vals, by omega, by go_num, hr3.out, b3, h3⟩
    · obtain rfl : k = N := by omega
      have hA := h2.reads hk1 hr2
      replace hA := Lib.hid hA
      replace hr2 := Lib.hid hr2
      have bE := Below.step b01 b2
      go_wp2
      go_ret
      exact ⟨_, rfl, bE, hA.out⟩
end Go.Proofs.YtilpckngghffoaaDoor

namespace Go.Proofs.YtilpckngghffoaaDoor

/-- Of the first m places those that are the first or differ from the place before. -/
def ded (zs : List Int) : Nat → List Int
  | 0 => []
  | m + 1 => ded zs m ++ if m = 0 ∨ zs.getD m 0 ≠ zs.getD (m - 1) 0 then [zs.getD m 0] else []
theorem ded_len (zs : List Int) : ∀ m, (ded zs m).length ≤ m
  | 0 => Nat.le_refl _
  | m + 1 => by
    have := ded_len zs m
    rw [ded, List.length_append]
    split <;> simp <;> omega
theorem sorted_getD {zs : List Int} (h : zs.Pairwise (· ≤ ·)) {i j : Nat} (hij : i ≤ j) (hj : j < zs.length) : zs.getD i 0 ≤ zs.getD j 0 := by
  simp only [List.getD_eq_getElem?_getD, List.getElem?_eq_getElem hj, List.getElem?_eq_getElem (show i < zs.length by omega), Option.getD_some]
  by_cases e : i = j
  · subst e; exact Int.le_refl _
  · exact List.pairwise_iff_getElem.1 h i j (by omega) hj (by omega)
theorem ded_spec {zs : List Int} (h : zs.Pairwise (· ≤ ·)) : ∀ m, m ≤ zs.length → (ded zs m).Pairwise (· < ·) ∧ (∀ x, x ∈ ded zs m ↔ x ∈ zs.take m)
  | 0, _ => by simp [ded]
  | m + 1, hm => by
    obtain ⟨h1, h2⟩ := ded_spec h m (by omega)
    have ht : zs.take (m + 1) = zs.take m ++ [zs.getD m 0] := by
      rw [List.take_add_one, List.getElem?_eq_getElem (show m < zs.length by omega)]
      simp [List.getD, show m < zs.length by omega]
    have top : ∀ x ∈ zs.take m, m ≠ 0 ∧ x ≤ zs.getD (m - 1) 0 := fun x hx => by
      obtain ⟨i, hi, e⟩ := List.mem_iff_getElem.1 hx
      have hi' : i < m := by rw [List.length_take] at hi; omega
      have := sorted_getD h (show i ≤ m - 1 by omega) (by omega)
      rw [List.getElem_take] at e
      rw [List.getD_eq_getElem?_getD, List.getElem?_eq_getElem (show i < zs.length by omega), Option.getD_some, e] at this
      exact ⟨by omega, this⟩
    rw [ded, ht]
    by_cases c : m = 0 ∨ zs.getD m 0 ≠ zs.getD (m - 1) 0
    · rw [if_pos c]
      refine ⟨List.pairwise_append.2 ⟨h1, by simp, fun a ha b hb => ?_⟩, fun x => by simp [h2]⟩
      rw [List.mem_singleton] at hb
      subst hb
      obtain ⟨t1, t2⟩ := top a ((h2 a).1 ha)
      have := sorted_getD h (show m - 1 ≤ m by omega) (by omega)
      rcases c with c | c <;> omega
    · rw [if_neg c, List.append_nil]
      refine ⟨h1, fun x => ?_⟩
      rw [h2, List.mem_append, List.mem_singleton]
      constructor
      · exact .inl
      · rintro (q | q)
        · exact q
        · have c2 : m ≠ 0 ∧ zs.getD m 0 = zs.getD (m - 1) 0 := by
            refine ⟨fun e => c (.inl e), ?_⟩
            apply Classical.byContradiction
            intro e; exact c (.inr e)
          rw [q, c2.2, List.mem_iff_getElem]
          refine ⟨m - 1, by rw [List.length_take]; omega, ?_⟩
          rw [List.getElem_take]
          simp [List.getD, show m - 1 < zs.length by omega]
theorem sorted_eqI : ∀ {L M : List Int}, L.Pairwise (· < ·) → M.Pairwise (· < ·) → (∀ v, v ∈ L ↔ v ∈ M) → L = M
  | [], [], _, _, _ => rfl
  | [], b :: M, _, _, h => absurd ((h b).2 List.mem_cons_self) (by simp)
  | a :: L, [], _, _, h => absurd ((h a).1 List.mem_cons_self) (by simp)
  | a :: L, b :: M, hL, hM, h => by
    obtain ⟨a1, a2⟩ := List.pairwise_cons.1 hL
    obtain ⟨b1, b2⟩ := List.pairwise_cons.1 hM
    have hab : a = b := by
      rcases List.mem_cons.1 ((h a).1 List.mem_cons_self) with e | e
      · exact e
      · rcases List.mem_cons.1 ((h b).2 List.mem_cons_self) with e2 | e2
        · exact e2.symm
        · have := b1 a e; have := a1 b e2; omega
    subst hab
    rw [sorted_eqI a2 b2 fun v => ?_]
    have := h v
    simp only [List.mem_cons] at this
    constructor
    · intro hv
      rcases this.1 (.inr hv) with e | e
      · subst e; exact absurd (a1 v hv) (Int.lt_irrefl _)
      · exact e
    · intro hv
      rcases this.2 (.inr hv) with e | e
      · subst e; exact absurd (b1 v hv) (Int.lt_irrefl _)
      · exact e
/-- Sorted, the doubles gone: the ascending list of what leads there. -/
theorem ded_pair {K N : Nat} {T : List Int} (hN : 0 < N) {p : Nat} {zs : List Int} (hs : zs.Pairwise (· ≤ ·)) (hm : ∀ x, x ∈ zs ↔ x ∈ (rawP K N T (p / N) (p % N) K).map fun (n : Nat) => (n : Int)) :
    ded zs zs.length = (pairL K N T p).map fun (n : Nat) => (n : Int) := by
  obtain ⟨h1, h2⟩ := ded_spec hs zs.length (Nat.le_refl _)
  refine sorted_eqI h1 (List.pairwise_map.2 ((pairL_sorted K N T p).imp fun h => by omega)) fun v => ?_
  rw [h2, List.take_length, hm]
  simp only [List.mem_map]
  constructor
  · rintro ⟨q, hq, rfl⟩; exact ⟨q, (mem_pairL hN).2 (mem_rawP.1 hq), rfl⟩
  · rintro ⟨q, hq, rfl⟩; exact ⟨q, mem_rawP.2 ((mem_pairL hN).1 hq), rfl⟩
end Go.Proofs.YtilpckngghffoaaDoor

namespace Go.Proofs.YtilpckngghffoaaDoor
open Go.RowKit Go.Shelf
set_option maxRecDepth 100000

def Tryd.laysCompact_ren : Go.Shelf.Ren := ⟨fun | 20 => 30 | n => n, fun | 22 => 22 | 3 => 3 | 4 => 4 | 0 => 0 | n => n, fun | n => n⟩
theorem Tryd.laysCompact : Go.Proofs.Lays2.n20 Tryd.prog Tryd.laysCompact_ren := {
  mixed := by kernel_rfl
  f20 := Tryd.func30.trans (congrArg some (by kernel_rfl))
  t0 := Tryd.underlying0
  a0 := Tryd.isAgg0
  z0 := Tryd.sizeOf0
  v0 := Tryd.zeroValue0
  t3 := Tryd.underlying3
  a3 := Tryd.isAgg3
  z3 := Tryd.sizeOf3
  v3 := Tryd.zeroValue3
  t4 := Tryd.underlying4
  a4 := Tryd.isAgg4
  z4 := Tryd.sizeOf4
  v4 := Tryd.zeroValue4
  t22 := Tryd.underlying22
  a22 := Tryd.isAgg22
  z22 := Tryd.sizeOf22
  v22 := Tryd.zeroValue22
  i3 := by kernel_rfl }

theorem compact_ded (zs : List Int) : Lib.compact zs = ded zs zs.length := by
  have : ∀ m, m ≤ zs.length → Lib.compactUpTo zs.toArray m = ded zs m := by
    intro m
    induction m with
    | zero => intro _; rfl
    | succ m ih =>
      intro hm
      rw [Lib.compactUpTo_succ, ih (by omega), ded]
      have e1 : zs.toArray[m]! = zs.getD m 0 := by
        rw [getElem!_pos zs.toArray m (by simp; omega)]; simp [List.getD, show m < zs.length by omega]
      have e2 : zs.toArray[m - 1]! = zs.getD (m - 1) 0 := by
        rw [getElem!_pos zs.toArray (m - 1) (by simp; omega)]; simp [List.getD, show m - 1 < zs.length by omega]
      unfold Lib.keeps
      rw [e1, e2]
      by_cases c : m = 0 ∨ zs.getD m 0 ≠ zs.getD (m - 1) 0
      · rw [if_pos c, if_pos (by simpa using c)]
      · rw [if_neg c, if_neg (by simpa using c)]
  exact this _ (Nat.le_refl _)
/-- One's own slice, cut at its front. -/
theorem OwnI.cutTo {B : Nat} {w : World} {a : Option Addr} {n c : Nat} {xs : List Int} (h : OwnI B w (.slice a n c) xs) (m : Nat) (hm : m ≤ xs.length) : OwnI B w (.slice a m c) (xs.take m) := by
  rcases h.2 with ⟨e, e2⟩ | ⟨g, cap, cur, e, hB, hg, hn, hcm, hs, ht⟩
  · injection e with e1 e3 e4
    subst e1 e4
    obtain rfl := List.length_eq_zero_iff.1 e2
    obtain rfl : m = 0 := by simpa using hm
    exact OwnI.nil B w
  · injection e with e1 e3 e4
    subst e1 e4
    have hl : (xs.take m).length = m := by simp; omega
    refine ⟨by simp, .inr ⟨g, c, cur, by rw [hl], hB, hg, by rw [hl]; omega, hcm, hs, ?_⟩⟩
    rw [hl, List.map_take, ← ht, List.take_take]
    congr 1
    omega
/-- slices.Compact at a list of one's own. -/
theorem compact_own (B : Nat) (v : Value) (xs : List Int) (w : World) (h : OwnI B w v xs) (hl : xs.length ≤ 9223372036854775807) :
    Calls Tryd.prog 30 #[v] w fun e w' => ∃ x, e = .returned x ∧ x.ownBlock = v.ownBlock ∧ OwnI B w' x (ded xs xs.length) ∧ Below B w w' := by
  rcases h.2 with ⟨rfl, hn⟩ | ⟨g, cap, cur, rfl, hb, hg, hn, hm, hs, ht⟩
  · obtain rfl := List.length_eq_zero_iff.1 hn
    refine Calls.mono (Any.slices_Compact_int_empty Tryd.laysCompact none 0 w) ?_
    rintro e w' ⟨rfl, rfl⟩
    exact ⟨_, rfl, rfl, h, Below.refl _ _⟩
  · refine Calls.mono (Any.slices_Compact_int_cells Tryd.laysCompact g 0 xs.length cap xs w (Nat.le_refl _) hl hn (fun j hj => ?_) (fun j hj => ?_)) ?_
    · have := h.at.cellD j hj
      rw [valAt_row] at this
      simpa using this
    · have := h.frz j hj
      rw [valAt_row] at this
      simpa using this
    · rintro e w' ⟨rfl, q, rfl⟩
      rw [List.take_length, compact_ded]
      have hd := ded_len xs xs.length
      have hL : (ded xs xs.length ++ List.replicate (xs.length - (ded xs xs.length).length) (0 : Int)).length = xs.length := by simp; omega
      have := setCells_own (w0 := w) (ded xs xs.length ++ List.replicate (xs.length - (ded xs xs.length).length) 0) 0 xs (w.drewN q) rfl (by rw [hL]; omega) (h.drewN q) (below_drewN (Below.refl _ _) q)
      rw [hL, List.take_zero, List.nil_append, Nat.zero_add, List.drop_length, List.append_nil] at this
      have ho := this.1.cutTo (ded xs xs.length).length (by rw [hL]; exact hd)
      rw [List.take_left'  rfl] at ho
      exact ⟨_, rfl, rfl, ho, this.2⟩
end Go.Proofs.YtilpckngghffoaaDoor
