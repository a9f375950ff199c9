/-
  Walk: forms.made, with a function that holds two things.
  Walk: forms.made at a function that has captured one variable.
  Walks: forms.behind, forms.check, forms.wrong, forms.Compose.
  Walks: slices.Reverse (its contract off the shelf), word.Back.
  edenraw.Err in memory; walks: edenraw.Root, New, Under, (Err).Bad.
  Walks: edenref03.Bad, edenref04.Power, Digits, Check.
  Walks: package additive.
  Walks: edenref18.Fault.
  Walk: edenraw.Under at an error.
  Walks: errors.Is and errors.As at a chain of Faults; the model's entries for internal/reflectlite at this program's types (after the kit's worked example Toyas).
  The model's entries for internal/reflectlite at a *api.Fault and at the address of a variable of that type (after the kit's worked example Toyas).
  Walk: errors.As at a Fault (after the kit's worked example Toyas).
  Walk: edenraw.Is at an error that is what it must be.
  Plain law of AddParts: a table is a sum just if each window is the sum of two.
  Plain mathematics of AddSums: a product may be turned; the factors of a sum at one symbol alone; factors taken modulo k.
  Plain mathematics: the reference's sums, window by window; what it tells by the factors; its products.
  Walk: edenref18.Sum.
  Walks: forms.Mirror and the function that it hands to forms.made.
  Walks: slices.Values, its iterator, slices.AppendSeq, slices.Collect, slices.Sorted over it (after the kit's worked examples GgSlicesIterAtTheDump and GgPosAtTheDump).
  Walks: slices.Sort (its contract off the shelf), slices.Sorted over slices.Values.
  A law for a region that draws its order: the operations of its head in an order of our own, each load under a fact on the world that the head keeps; then the forced tail, one behind the other.
  Walks: slices.Index, forms.Rename and the function that it hands to forms.made.
  Plain mathematics: twins of a rule with the radius 0, how short twins are at least, and the determined result of twins.Finite.
-/
import Derived.Test.YthnkdiejmclmkaaDoorMTf2
import Derived.Ground.NamesProg
import Derived.Shelf.Slices.Cells
import Derived.Deep.RegionLawGrows
import Derived.Deep.RegionHeld3
import Derived.LaidEql
import Derived.Stop.Asserts
import Derived.RowKitTokens
import Derived.Deep.LoopGhost
import Derived.RangeFuncBox
import Derived.RangeFuncLeaves
import Derived.Shelf.Abstract
import Derived.OwnWalkIn
import Derived.TacticsInMore
import Derived.LoopNIn
import Derived.LoopIn
import Derived.Maps.AppendAt
import Derived.Ground.SlgmProg
import Derived.Shelf.SlGeneric
import Derived.Shelf.SortM.Plain
import Derived.Shelf.SortM.SortNone
import Derived.Lib.SlKeysI
import Derived.StillTail
namespace Go.Proofs.YthnkdiejmclmkaaDoor
open Go.RowKit
set_option maxRecDepth 100000

/-- The table of a function of windows. -/
def madeP (K n : Nat) (s : List Int → Int) (m : Nat) : List Int := (List.range m).map fun x => s (digs K n x)
theorem madeP_length (K n : Nat) (s : List Int → Int) (m : Nat) : (madeP K n s m).length = m := by simp [madeP]

theorem madeP_set (K n : Nat) (s : List Int → Int) (m P : Nat) (h : m < P) : (madeP K n s m ++ List.replicate (P - m) (0 : Int)).set m (s (digs K n m)) = madeP K n s (m + 1) ++ List.replicate (P - (m + 1)) 0 := by
  rw [List.set_append_right _ _ (by rw [madeP_length]; exact Nat.le_refl _), madeP_length, Nat.sub_self, show P - m = (P - (m + 1)) + 1 by omega, List.replicate_succ, List.set_cons_zero, madeP, madeP, List.range_succ, List.map_append, List.append_assoc]
  rfl

set_option maxHeartbeats 800000 in
theorem made_two0 (K R F : Nat) (c1 c2 : Value) (s : List Int → Int) (w : World) (hk1 : 1 ≤ K) (hk4 : K ≤ 4) (hR : R ≤ 3)
    (eg : ∀ args w, (callFunc F args).run Tryd.prog w = .ok (.enter F args) w)
    (hF : ∀ (v : Value) (ys : List Int) (w' : World), Below w.heap.size w w' → IntsAt w' v ys → Syms K ys → ys.length = 2 * R + 1 → Calls Tryd.prog F #[v, c1, c2] w' (Ret1 (fun x _ => x = .int .i64 (s ys)) w')) :
    Calls Tryd.prog 35 #[.int .i64 K, .int .i64 R, .func (.func F) #[] #[c1, c2]] w (Ret1 (fun x w' => ∃ a n c, x = .agg #[.int .i64 K, .int .i64 R, .slice a n c] ∧ OwnI w.heap.size w' (.slice a n c) (madeP K (2 * R + 1) s (pw K (2 * R + 1)))) w) := by
  have hpl := pw_le hk1 hk4 (i := 2 * R + 1) (by omega)
  replace hF := Lib.hid hF
  go_enter Tryd.func35, Tryd.ntmps35
  go_wp2_with fail
  refine (size_ok K R _ hk1 hk4 hR).mono ?_
  rintro e w' ⟨rfl, rfl⟩
  go_wp2_with fail
  have hb0 := belowAlloc w (.cells #[.int .i64 0, .int .i64 0, .slice none 0 0] 24)
  obtain ⟨tv, w1, hmk, ho1, hb1⟩ := run_makeI ((pw K (2 * R + 1) : Nat) : Int) (pw K (2 * R + 1)) (w.alloc (.cells #[.int .i64 0, .int .i64 0, .slice none 0 0] 24)) rfl (by omega)
  obtain ⟨ta, tn, tc, rfl⟩ := ho1.at.shape
  rw [hmk]
  simp only [Result.andThen]
  clear hmk
  generalize hN : 2 * R + 1 = N at *
  go_wp2_with fail
  obtain ⟨wv, w2, hmk2, ho2, hb2⟩ := run_makeI (2 * (R : Int) + 1) N (w1.alloc (.cells #[.int .i64 K, .int .i64 R, .slice ta tn tc] 24)) (by omega) (by omega)
  obtain ⟨wa, wn, wc, rfl⟩ := ho2.at.shape
  rw [hmk2]
  simp only [Result.andThen]
  clear hmk2
  obtain ⟨z0, z1, z2, -, -, -⟩ := cells3 hb2
  have lt := (ho1.at.len)
  rw [List.length_replicate] at lt
  have hN7 : N ≤ 7 := by omega
  replace hN := Lib.hid hN
  have ltb : ∀ k, (Value.slice ta tn tc).ownBlock = some k → k < w1.heap.size := fun k hk => (ho1.lt k hk).2
  have lwn := ho2.at.len
  rw [List.length_replicate] at lwn
  have ho1' := Lib.hid ((ho1.alloc (.cells #[.int .i64 K, .int .i64 R, .slice ta tn tc] 24)).below hb2)
  have zz := Lib.hid (And.intro z0 (And.intro z1 z2))
  have hbw := Lib.hid (hb1.trans ((Below.step (belowAlloc w1 (.cells #[.int .i64 K, .int .i64 R, .slice ta tn tc] 24)) hb2).mono hb1.size))
  replace ho2 := Lib.hid ho2
  replace ltb := Lib.hid ltb
  have hsz1 := hb1.size
  simp at hsz1
  have hM : pw K N = pw K N := rfl
  clear hM
  go_wp2
  go_loopw [32] (fun i wr => ∃ m : Nat, m ≤ pw K N ∧ i = .int .i64 m ∧ OwnI (w.heap.size + 1) wr (.slice ta tn tc) (madeP K N s m ++ List.replicate (pw K N - m) 0) ∧ (∃ p : List Int, p.length = N ∧ OwnI (w1.heap.size + 1) wr (.slice wa wn wc) p) ∧
      (wr.cell? ⟨w1.heap.size, 0, none⟩ = some (.int .i64 K) ∧ wr.cell? ⟨w1.heap.size, 1, none⟩ = some (.int .i64 R) ∧ wr.cell? ⟨w1.heap.size, 2, none⟩ = some (.slice ta tn tc)) ∧
      Below (w.heap.size + 1) (w.alloc (.cells #[.int .i64 0, .int .i64 0, .slice none 0 0] 24)) wr) (fun i _ => pw K N - (intOf i).toNat)
  case atStart => exact ⟨0, by omega, rfl, by simpa [madeP] using ho1'.out, ⟨List.replicate N 0, by simp, by simpa using ho2.out⟩, zz.out, by simpa using hbw.out⟩
  case round =>
    obtain ⟨m, hm, rfl, hT, ⟨p, hp, hP⟩, hz, hbO⟩ := hrel
    obtain ⟨wo, rfl⟩ : ∃ wo : World, wo = wr := ⟨_, rfl⟩
    replace hz := Lib.hid hz
    replace hT := Lib.hid hT
    by_cases hml : m < pw K N
    · have hsz2 : w1.heap.size < wo.heap.size := World.block_lt_of_cell? _ _ hz.out.1
      have hK0 : ((K : Int) == 0) = false := by rw [beq_eq_false_iff_ne]; omega
      have hK1 : ¬ (K : Int) = 0 := by omega
      have hK2 : (0 : Int) < K := by omega
      go_wp2
      go_loopw [12, 38] (fun x i wr => ∃ j : Nat, j ≤ N ∧ i = .int .i64 j ∧ x = .int .i64 (m / pw K j : Nat) ∧ OwnI (w1.heap.size + 1) wr (.slice wa wn wc) (p.take (N - j) ++ (digs K N m).drop (N - j)) ∧ Below (w1.heap.size + 1) wo wr) (fun _ i _ => N - (intOf i).toNat)
      case atStart => exact ⟨0, by omega, rfl, by simp [pw], by rw [Nat.sub_zero, List.drop_of_length_le (by rw [digs_length]; exact Nat.le_refl _), List.append_nil, List.take_of_length_le (by omega)]; exact hP, Below.refl _ _⟩
      case round =>
        obtain ⟨j, hj, rfl, rfl, hO, hbI⟩ := hrel
        obtain ⟨wi, rfl⟩ : ∃ wi : World, wi = wr := ⟨_, rfl⟩
        by_cases hjl : j < N
        · have hXl : (p.take (N - j) ++ (digs K N m).drop (N - j)).length = N := by simp [digs_length]; omega
          have i1 : ∀ w', (Instr.indexAt 22 (.slice wa wn wc) (.int .i64 ((N : Int) - 1 - (j : Int)))).run Tryd.prog w' = .ok (.pointer (some (valAt (.slice wa wn wc) (N - 1 - j)))) w' := by
            intro w'
            have := hO.at.idxI ((N : Int) - 1 - (j : Int)) (by omega) (by rw [hXl]; omega) w'
            rwa [show ((N : Int) - 1 - (j : Int)).toNat = N - 1 - j by omega] at this
          have c1 := hO.at.cellD (N - 1 - j) (by rw [hXl]; omega)
          have f1 := hO.frz (N - 1 - j) (by rw [hXl]; omega)
          have hS := hO.set (N - 1 - j) (by rw [hXl]; omega) ((m / pw K j % K : Nat) : Int)
          have hbS := hO.setBelow hbI (N - 1 - j) (by rw [hXl]; omega) (.int .i64 ((m / pw K j % K : Nat) : Int))
          rw [digs_fill K N m j hjl p hp] at hS
          replace hS := Lib.hid hS
          replace hbS := Lib.hid hbS
          have hqd : m / pw K j / K = m / pw K (j + 1) := by rw [Nat.div_div_eq_div_mul, ← pw_succ]
          replace hqd := Lib.hid hqd
          have hql : m / pw K j ≤ 16384 := Nat.le_trans (Nat.div_le_self _ _) (by omega)
          generalize (p.take (N - j) ++ (digs K N m).drop (N - j)).getD (N - 1 - j) 0 = y at c1
          clear hXl hO
          generalize m / pw K j = q at *
          rw [Int.natCast_emod] at hS hbS
          have hd0 : 0 ≤ (q : Int) / (K : Int) := Int.ediv_nonneg (by omega) (by omega)
          have hd1 : (q : Int) / (K : Int) ≤ 16384 := by
            have h1 : q / K ≤ q := Nat.div_le_self _ _
            have h2 : q / K ≤ 16384 := by omega
            exact_mod_cast h2
          have hdw : IntKind.i64.wrap ((q : Int) / (K : Int)) = (q : Int) / (K : Int) := wrapK (by omega) (by omega)
          go_wp2
          go_roundw
          case rel => exact ⟨j + 1, by omega, by go_num, by rw [← hqd.out]; simp, hS.out, hbS.out⟩
          case measure => simp [intOf]; omega
        · have hjN : j = N := by omega
          subst hjN
          rw [Nat.sub_self, List.take_zero, List.drop_zero, List.nil_append] at hO
          have hbW : Below w.heap.size w wi := ((belowAlloc w _).trans (hbO.mono (by omega))).trans (hbI.mono (by omega))
          have hz2 := hbI.cell (p := ⟨w1.heap.size, 2, none⟩) (by simp)
          have hTl : m < (madeP K j s m ++ List.replicate (pw K j - m) (0 : Int)).length := by simp [madeP_length]; omega
          have hTi := hT.out.belowB hbI (fun k hk => by have := ltb.out k hk; omega)
          have i2 := hTi.at.idx m hTl
          have c2 := hTi.at.cellD m hTl
          have f2 := hTi.frz m hTl
          have b2 := hTi.at.blk m hTl
          have z2i := hz2.trans hz.out.2.2
          have zbi : (⟨w1.heap.size, 2, none⟩ : Addr).block < wi.heap.size := World.block_lt_of_cell? _ _ z2i
          generalize (madeP K j s m ++ List.replicate (pw K j - m) (0 : Int)).getD m 0 = o at c2
          replace hTi := Lib.hid hTi
          replace hO := Lib.hid hO
          replace hbW := Lib.hid hbW
          replace hTl := Lib.hid hTl
          clear hz2
          have hvb : (valAt (.slice ta tn tc) m).block ≠ w1.heap.size := by
            have := ltb.out _ (hT.out.toV.blkB m (by simpa using hTl.out)).1
            omega
          have hdl : m + 1 ≤ pw K j := hml
          go_wp2
          go_region_held3 (fun w' => w'.cell? ⟨w1.heap.size, 2, none⟩ = some (.slice ta tn tc)) (go_keep)
            (first | (refine (hF.out _ (digs K j m) _ (by first | exact hbW.out.drew | exact hbW.out) (by first | exact hO.out.at.drew | exact hO.out.at) (digs_syms hk1 _ _) (by rw [digs_length])).mono ?_; rintro e w5 ⟨x5, rfl, hb5, rfl⟩; have y1 := (hb5.cell zbi).trans z2i; have y2 := (hb5.cell b2).trans c2; have y3 := (hb5.frozen b2).trans f2; have bb : Below wi.heap.size wi w5 := ((Below.refl _ _).drew).trans hb5))
          have hT5 := (hTi.out.drew.below hb5).set m hTl.out (s (digs K j m))
          rw [madeP_set K j s m _ hml] at hT5
          have hO5 := (hO.out.drew.below hb5).setOther (hTi.out.drew.below hb5) (by
            intro e
            have e1 := (hT.out.toV.blkB m (by simpa using hTl.out)).1
            have e2 := (hO.out.lt _ (e.trans e1)).1
            have e3 := ltb.out _ e1
            omega) m hTl.out (.int .i64 (s (digs K j m)))
          have hB5 := ((hbO.trans (hbI.mono (by omega))).trans (bb.mono (by omega))).setCell ((hTi.out.blkB m hTl.out)) (.int .i64 (s (digs K j m)))
          have x0 := (World.cell?_setCell_far w5 (valAt (.slice ta tn tc) m) ⟨w1.heap.size, 0, none⟩ (.int .i64 (s (digs K j m))) hvb).trans (((bb.cell (p := ⟨w1.heap.size, 0, none⟩) zbi)).trans ((hbI.cell (p := ⟨w1.heap.size, 0, none⟩) (by simp)).trans hz.out.1))
          have x1 := (World.cell?_setCell_far w5 (valAt (.slice ta tn tc) m) ⟨w1.heap.size, 1, none⟩ (.int .i64 (s (digs K j m))) hvb).trans (((bb.cell (p := ⟨w1.heap.size, 1, none⟩) zbi)).trans ((hbI.cell (p := ⟨w1.heap.size, 1, none⟩) (by simp)).trans hz.out.2.1))
          have x2 := (World.cell?_setCell_far w5 (valAt (.slice ta tn tc) m) ⟨w1.heap.size, 2, none⟩ (.int .i64 (s (digs K j m))) hvb).trans y1
          have xx := Lib.hid (And.intro x0 (And.intro x1 x2))
          clear x0 x1 x2
          replace hT5 := Lib.hid hT5
          replace hO5 := Lib.hid hO5
          replace hB5 := Lib.hid hB5
          go_wp2
          go_roundw
          case rel => exact ⟨m + 1, by omega, by go_num, hT5.out, ⟨digs K j m, digs_length .., hO5.out⟩, xx.out, hB5.out⟩
          case measure => simp [intOf]; omega
    · obtain rfl : m = pw K N := by omega
      rw [Nat.sub_self, List.replicate_zero, List.append_nil] at hT
      obtain ⟨z0, z1, z2⟩ := hz.out
      obtain ⟨y0, y1, y2, f0, f1, f2⟩ := cells3 (w := w) (show Below (w.alloc (.cells #[.int .i64 0, .int .i64 0, .slice none 0 0] 24)).heap.size _ wo by simpa using hbO)
      replace hbO := Lib.hid hbO
      go_wp2
      refine bodyPost_ret (v := .agg #[.int .i64 K, .int .i64 R, .slice ta tn tc]) (by simp [results, Tryd.results35, go_sem, y0, y1, y2]) rfl ⟨_, rfl, ?_, ta, tn, tc, rfl, ?_⟩
      · exact (((belowAlloc w _).trans (hbO.out.mono (by omega))).setCell (by simp) _).setCell (by simp) _ |>.setCell (by simp) _
      · rw [hN.out]; exact (((hT.out.setBelowBase (a := ⟨w.heap.size, 0, none⟩) (by simp) _).setBelowBase (a := ⟨w.heap.size, 1, none⟩) (by simp) _).setBelowBase (a := ⟨w.heap.size, 2, none⟩) (by simp) _).mono (Nat.le_succ _)

theorem made_two (K R F : Nat) (c1 c2 : Value) (s : List Int → Int) (w : World) (hk1 : 1 ≤ K) (hk4 : K ≤ 4) (hR : R ≤ 3) (Ri : Int) (hRi : Ri = R)
    (eg : ∀ args w, (callFunc F args).run Tryd.prog w = .ok (.enter F args) w)
    (hF : ∀ (v : Value) (ys : List Int) (w' : World), Below w.heap.size w w' → IntsAt w' v ys → Syms K ys → ys.length = 2 * R + 1 → Calls Tryd.prog F #[v, c1, c2] w' (Ret1 (fun x _ => x = .int .i64 (s ys)) w')) :
    Calls Tryd.prog 35 #[.int .i64 K, .int .i64 Ri, .func (.func F) #[] #[c1, c2]] w (Ret1 (fun x w' => ∃ a n c, x = .agg #[.int .i64 K, .int .i64 R, .slice a n c] ∧ OwnI w.heap.size w' (.slice a n c) (madeP K (2 * R + 1) s (pw K (2 * R + 1)))) w) := by
  subst hRi
  exact made_two0 K R F c1 c2 s w hk1 hk4 hR eg hF
end Go.Proofs.YthnkdiejmclmkaaDoor

namespace Go.Proofs.YthnkdiejmclmkaaDoor
open Go.RowKit
set_option maxRecDepth 100000

set_option maxHeartbeats 800000 in
theorem made_one0 (K R F : Nat) (c1 : Value) (s : List Int → Int) (w : World) (hk1 : 1 ≤ K) (hk4 : K ≤ 4) (hR : R ≤ 3)
    (eg : ∀ args w, (callFunc F args).run Tryd.prog w = .ok (.enter F args) w)
    (hF : ∀ (v : Value) (ys : List Int) (w' : World), Below w.heap.size w w' → IntsAt w' v ys → Syms K ys → ys.length = 2 * R + 1 → Calls Tryd.prog F #[v, c1] w' (Ret1 (fun x _ => x = .int .i64 (s ys)) w')) :
    Calls Tryd.prog 35 #[.int .i64 K, .int .i64 R, .func (.func F) #[] #[c1]] w (Ret1 (fun x w' => ∃ a n c, x = .agg #[.int .i64 K, .int .i64 R, .slice a n c] ∧ OwnI w.heap.size w' (.slice a n c) (madeP K (2 * R + 1) s (pw K (2 * R + 1)))) w) := by
  have hpl := pw_le hk1 hk4 (i := 2 * R + 1) (by omega)
  replace hF := Lib.hid hF
  go_enter Tryd.func35, Tryd.ntmps35
  go_wp2_with fail
  refine (size_ok K R _ hk1 hk4 hR).mono ?_
  rintro e w' ⟨rfl, rfl⟩
  go_wp2_with fail
  have hb0 := belowAlloc w (.cells #[.int .i64 0, .int .i64 0, .slice none 0 0] 24)
  obtain ⟨tv, w1, hmk, ho1, hb1⟩ := run_makeI ((pw K (2 * R + 1) : Nat) : Int) (pw K (2 * R + 1)) (w.alloc (.cells #[.int .i64 0, .int .i64 0, .slice none 0 0] 24)) rfl (by omega)
  obtain ⟨ta, tn, tc, rfl⟩ := ho1.at.shape
  rw [hmk]
  simp only [Result.andThen]
  clear hmk
  generalize hN : 2 * R + 1 = N at *
  go_wp2_with fail
  obtain ⟨wv, w2, hmk2, ho2, hb2⟩ := run_makeI (2 * (R : Int) + 1) N (w1.alloc (.cells #[.int .i64 K, .int .i64 R, .slice ta tn tc] 24)) (by omega) (by omega)
  obtain ⟨wa, wn, wc, rfl⟩ := ho2.at.shape
  rw [hmk2]
  simp only [Result.andThen]
  clear hmk2
  obtain ⟨z0, z1, z2, -, -, -⟩ := cells3 hb2
  have lt := (ho1.at.len)
  rw [List.length_replicate] at lt
  have hN7 : N ≤ 7 := by omega
  replace hN := Lib.hid hN
  have ltb : ∀ k, (Value.slice ta tn tc).ownBlock = some k → k < w1.heap.size := fun k hk => (ho1.lt k hk).2
  have lwn := ho2.at.len
  rw [List.length_replicate] at lwn
  have ho1' := Lib.hid ((ho1.alloc (.cells #[.int .i64 K, .int .i64 R, .slice ta tn tc] 24)).below hb2)
  have zz := Lib.hid (And.intro z0 (And.intro z1 z2))
  have hbw := Lib.hid (hb1.trans ((Below.step (belowAlloc w1 (.cells #[.int .i64 K, .int .i64 R, .slice ta tn tc] 24)) hb2).mono hb1.size))
  replace ho2 := Lib.hid ho2
  replace ltb := Lib.hid ltb
  have hsz1 := hb1.size
  simp at hsz1
  have hM : pw K N = pw K N := rfl
  clear hM
  go_wp2
  go_loopw [32] (fun i wr => ∃ m : Nat, m ≤ pw K N ∧ i = .int .i64 m ∧ OwnI (w.heap.size + 1) wr (.slice ta tn tc) (madeP K N s m ++ List.replicate (pw K N - m) 0) ∧ (∃ p : List Int, p.length = N ∧ OwnI (w1.heap.size + 1) wr (.slice wa wn wc) p) ∧
      (wr.cell? ⟨w1.heap.size, 0, none⟩ = some (.int .i64 K) ∧ wr.cell? ⟨w1.heap.size, 1, none⟩ = some (.int .i64 R) ∧ wr.cell? ⟨w1.heap.size, 2, none⟩ = some (.slice ta tn tc)) ∧
      Below (w.heap.size + 1) (w.alloc (.cells #[.int .i64 0, .int .i64 0, .slice none 0 0] 24)) wr) (fun i _ => pw K N - (intOf i).toNat)
  case atStart => exact ⟨0, by omega, rfl, by simpa [madeP] using ho1'.out, ⟨List.replicate N 0, by simp, by simpa using ho2.out⟩, zz.out, by simpa using hbw.out⟩
  case round =>
    obtain ⟨m, hm, rfl, hT, ⟨p, hp, hP⟩, hz, hbO⟩ := hrel
    obtain ⟨wo, rfl⟩ : ∃ wo : World, wo = wr := ⟨_, rfl⟩
    replace hz := Lib.hid hz
    replace hT := Lib.hid hT
    by_cases hml : m < pw K N
    · have hsz2 : w1.heap.size < wo.heap.size := World.block_lt_of_cell? _ _ hz.out.1
      have hK0 : ((K : Int) == 0) = false := by rw [beq_eq_false_iff_ne]; omega
      have hK1 : ¬ (K : Int) = 0 := by omega
      have hK2 : (0 : Int) < K := by omega
      go_wp2
      go_loopw [12, 38] (fun x i wr => ∃ j : Nat, j ≤ N ∧ i = .int .i64 j ∧ x = .int .i64 (m / pw K j : Nat) ∧ OwnI (w1.heap.size + 1) wr (.slice wa wn wc) (p.take (N - j) ++ (digs K N m).drop (N - j)) ∧ Below (w1.heap.size + 1) wo wr) (fun _ i _ => N - (intOf i).toNat)
      case atStart => exact ⟨0, by omega, rfl, by simp [pw], by rw [Nat.sub_zero, List.drop_of_length_le (by rw [digs_length]; exact Nat.le_refl _), List.append_nil, List.take_of_length_le (by omega)]; exact hP, Below.refl _ _⟩
      case round =>
        obtain ⟨j, hj, rfl, rfl, hO, hbI⟩ := hrel
        obtain ⟨wi, rfl⟩ : ∃ wi : World, wi = wr := ⟨_, rfl⟩
        by_cases hjl : j < N
        · have hXl : (p.take (N - j) ++ (digs K N m).drop (N - j)).length = N := by simp [digs_length]; omega
          have i1 : ∀ w', (Instr.indexAt 22 (.slice wa wn wc) (.int .i64 ((N : Int) - 1 - (j : Int)))).run Tryd.prog w' = .ok (.pointer (some (valAt (.slice wa wn wc) (N - 1 - j)))) w' := by
            intro w'
            have := hO.at.idxI ((N : Int) - 1 - (j : Int)) (by omega) (by rw [hXl]; omega) w'
            rwa [show ((N : Int) - 1 - (j : Int)).toNat = N - 1 - j by omega] at this
          have c1 := hO.at.cellD (N - 1 - j) (by rw [hXl]; omega)
          have f1 := hO.frz (N - 1 - j) (by rw [hXl]; omega)
          have hS := hO.set (N - 1 - j) (by rw [hXl]; omega) ((m / pw K j % K : Nat) : Int)
          have hbS := hO.setBelow hbI (N - 1 - j) (by rw [hXl]; omega) (.int .i64 ((m / pw K j % K : Nat) : Int))
          rw [digs_fill K N m j hjl p hp] at hS
          replace hS := Lib.hid hS
          replace hbS := Lib.hid hbS
          have hqd : m / pw K j / K = m / pw K (j + 1) := by rw [Nat.div_div_eq_div_mul, ← pw_succ]
          replace hqd := Lib.hid hqd
          have hql : m / pw K j ≤ 16384 := Nat.le_trans (Nat.div_le_self _ _) (by omega)
          generalize (p.take (N - j) ++ (digs K N m).drop (N - j)).getD (N - 1 - j) 0 = y at c1
          clear hXl hO
          generalize m / pw K j = q at *
          rw [Int.natCast_emod] at hS hbS
          have hd0 : 0 ≤ (q : Int) / (K : Int) := Int.ediv_nonneg (by omega) (by omega)
          have hd1 : (q : Int) / (K : Int) ≤ 16384 := by
            have h1 : q / K ≤ q := Nat.div_le_self _ _
            have h2 : q / K ≤ 16384 := by omega
            exact_mod_cast h2
          have hdw : IntKind.i64.wrap ((q : Int) / (K : Int)) = (q : Int) / (K : Int) := wrapK (by omega) (by omega)
          go_wp2
          go_roundw
          case rel => exact ⟨j + 1, by omega, by go_num, by rw [← hqd.out]; simp, hS.out, hbS.out⟩
          case measure => simp [intOf]; omega
        · have hjN : j = N := by omega
          subst hjN
          rw [Nat.sub_self, List.take_zero, List.drop_zero, List.nil_append] at hO
          have hbW : Below w.heap.size w wi := ((belowAlloc w _).trans (hbO.mono (by omega))).trans (hbI.mono (by omega))
          have hz2 := hbI.cell (p := ⟨w1.heap.size, 2, none⟩) (by simp)
          have hTl : m < (madeP K j s m ++ List.replicate (pw K j - m) (0 : Int)).length := by simp [madeP_length]; omega
          have hTi := hT.out.belowB hbI (fun k hk => by have := ltb.out k hk; omega)
          have i2 := hTi.at.idx m hTl
          have c2 := hTi.at.cellD m hTl
          have f2 := hTi.frz m hTl
          have b2 := hTi.at.blk m hTl
          have z2i := hz2.trans hz.out.2.2
          have zbi : (⟨w1.heap.size, 2, none⟩ : Addr).block < wi.heap.size := World.block_lt_of_cell? _ _ z2i
          generalize (madeP K j s m ++ List.replicate (pw K j - m) (0 : Int)).getD m 0 = o at c2
          replace hTi := Lib.hid hTi
          replace hO := Lib.hid hO
          replace hbW := Lib.hid hbW
          replace hTl := Lib.hid hTl
          clear hz2
          have hvb : (valAt (.slice ta tn tc) m).block ≠ w1.heap.size := by
            have := ltb.out _ (hT.out.toV.blkB m (by simpa using hTl.out)).1
            omega
          have hdl : m + 1 ≤ pw K j := hml
          go_wp2
          go_region_held3 (fun w' => w'.cell? ⟨w1.heap.size, 2, none⟩ = some (.slice ta tn tc)) (go_keep)
            (first | (refine (hF.out _ (digs K j m) _ (by first | exact hbW.out.drew | exact hbW.out) (by first | exact hO.out.at.drew | exact hO.out.at) (digs_syms hk1 _ _) (by rw [digs_length])).mono ?_; rintro e w5 ⟨x5, rfl, hb5, rfl⟩; have y1 := (hb5.cell zbi).trans z2i; have y2 := (hb5.cell b2).trans c2; have y3 := (hb5.frozen b2).trans f2; have bb : Below wi.heap.size wi w5 := ((Below.refl _ _).drew).trans hb5))
          have hT5 := (hTi.out.drew.below hb5).set m hTl.out (s (digs K j m))
          rw [madeP_set K j s m _ hml] at hT5
          have hO5 := (hO.out.drew.below hb5).setOther (hTi.out.drew.below hb5) (by
            intro e
            have e1 := (hT.out.toV.blkB m (by simpa using hTl.out)).1
            have e2 := (hO.out.lt _ (e.trans e1)).1
            have e3 := ltb.out _ e1
            omega) m hTl.out (.int .i64 (s (digs K j m)))
          have hB5 := ((hbO.trans (hbI.mono (by omega))).trans (bb.mono (by omega))).setCell ((hTi.out.blkB m hTl.out)) (.int .i64 (s (digs K j m)))
          have x0 := (World.cell?_setCell_far w5 (valAt (.slice ta tn tc) m) ⟨w1.heap.size, 0, none⟩ (.int .i64 (s (digs K j m))) hvb).trans (((bb.cell (p := ⟨w1.heap.size, 0, none⟩) zbi)).trans ((hbI.cell (p := ⟨w1.heap.size, 0, none⟩) (by simp)).trans hz.out.1))
          have x1 := (World.cell?_setCell_far w5 (valAt (.slice ta tn tc) m) ⟨w1.heap.size, 1, none⟩ (.int .i64 (s (digs K j m))) hvb).trans (((bb.cell (p := ⟨w1.heap.size, 1, none⟩) zbi)).trans ((hbI.cell (p := ⟨w1.heap.size, 1, none⟩) (by simp)).trans hz.out.2.1))
          have x2 := (World.cell?_setCell_far w5 (valAt (.slice ta tn tc) m) ⟨w1.heap.size, 2, none⟩ (.int .i64 (s (digs K j m))) hvb).trans y1
          have xx := Lib.hid (And.intro x0 (And.intro x1 x2))
          clear x0 x1 x2
          replace hT5 := Lib.hid hT5
          replace hO5 := Lib.hid hO5
          replace hB5 := Lib.hid hB5
          go_wp2
          go_roundw
          case rel => exact ⟨m + 1, by omega, by go_num, hT5.out, ⟨digs K j m, digs_length .., hO5.out⟩, xx.out, hB5.out⟩
          case measure => simp [intOf]; omega
    · obtain rfl : m = pw K N := by omega
      rw [Nat.sub_self, List.replicate_zero, List.append_nil] at hT
      obtain ⟨z0, z1, z2⟩ := hz.out
      obtain ⟨y0, y1, y2, f0, f1, f2⟩ := cells3 (w := w) (show Below (w.alloc (.cells #[.int .i64 0, .int .i64 0, .slice none 0 0] 24)).heap.size _ wo by simpa using hbO)
      replace hbO := Lib.hid hbO
      go_wp2
      refine bodyPost_ret (v := .agg #[.int .i64 K, .int .i64 R, .slice ta tn tc]) (by simp [results, Tryd.results35, go_sem, y0, y1, y2]) rfl ⟨_, rfl, ?_, ta, tn, tc, rfl, ?_⟩
      · exact (((belowAlloc w _).trans (hbO.out.mono (by omega))).setCell (by simp) _).setCell (by simp) _ |>.setCell (by simp) _
      · rw [hN.out]; exact (((hT.out.setBelowBase (a := ⟨w.heap.size, 0, none⟩) (by simp) _).setBelowBase (a := ⟨w.heap.size, 1, none⟩) (by simp) _).setBelowBase (a := ⟨w.heap.size, 2, none⟩) (by simp) _).mono (Nat.le_succ _)

theorem made_one (K R F : Nat) (c1 : Value) (s : List Int → Int) (w : World) (hk1 : 1 ≤ K) (hk4 : K ≤ 4) (hR : R ≤ 3) (Ri : Int) (hRi : Ri = R)
    (eg : ∀ args w, (callFunc F args).run Tryd.prog w = .ok (.enter F args) w)
    (hF : ∀ (v : Value) (ys : List Int) (w' : World), Below w.heap.size w w' → IntsAt w' v ys → Syms K ys → ys.length = 2 * R + 1 → Calls Tryd.prog F #[v, c1] w' (Ret1 (fun x _ => x = .int .i64 (s ys)) w')) :
    Calls Tryd.prog 35 #[.int .i64 K, .int .i64 Ri, .func (.func F) #[] #[c1]] w (Ret1 (fun x w' => ∃ a n c, x = .agg #[.int .i64 K, .int .i64 R, .slice a n c] ∧ OwnI w.heap.size w' (.slice a n c) (madeP K (2 * R + 1) s (pw K (2 * R + 1)))) w) := by
  subst hRi
  exact made_one0 K R F c1 s w hk1 hk4 hR eg hF
end Go.Proofs.YthnkdiejmclmkaaDoor

namespace Go.Proofs.YthnkdiejmclmkaaDoor
open Go.RowKit
set_option maxRecDepth 100000

abbrev zR : Value := .agg #[.int .i64 0, .int .i64 0, .slice none 0 0]
def sForms : ByteArray := ⟨#[102, 111, 114, 109, 115]⟩
theorem madeP_behind (K R1 : Nat) (T1 : List Int) (R2 : Nat) (T2 : List Int) :
    madeP K (2 * (R1 + R2) + 1) (fun ys => T1.getD (numW K (imgP K R2 T2 ys)) 0) (pw K (2 * (R1 + R2) + 1)) = behindT K R1 T1 R2 T2 := rfl

theorem eg_behind1 (args : Array Value) (w : World) : (callFunc 98 args).run Tryd.prog w = .ok (.enter 98 args) w := by kernel_rfl

set_option maxHeartbeats 800000 in
theorem behind_any (K R1 R2 : Nat) (va : Option Addr) (vn vc : Nat) (T1 : List Int) (ua : Option Addr) (un uc : Nat) (T2 : List Int) (w : World)
    (h1 : IntsAt w (.slice va vn vc) T1) (hr1 : RuleOk K R1 T1) (h2 : IntsAt w (.slice ua un uc) T2) (hr2 : RuleOk K R2 T2) (hR : R1 + R2 ≤ 3) :
    Calls Tryd.prog 74 #[.agg #[.int .i64 K, .int .i64 R1, .slice va vn vc], .agg #[.int .i64 K, .int .i64 R2, .slice ua un uc]] w
      (Ret1 (fun x w' => ∃ a n c, x = .agg #[.int .i64 K, .int .i64 ((R1 + R2 : Nat) : Int), .slice a n c] ∧ OwnI w.heap.size w' (.slice a n c) (behindT K R1 T1 R2 T2)) w) := by
  have hk1 := hr1.k1
  have hk4 := hr1.k4
  have b0 := belowAlloc w (.cells #[.int .i64 K, .int .i64 R1, .slice va vn vc] 24)
  have b1 := Below.step (Below.step b0 (belowAlloc _ (.cells #[.int .i64 K, .int .i64 R2, .slice ua un uc] 24))) (belowAlloc _ (.cells #[.int .i64 0, .int .i64 0, .slice none 0 0] 24))
  replace h1 := Lib.hid (h1.below b1)
  replace h2 := Lib.hid (h2.below b1)
  replace hr1 := Lib.hid hr1
  replace hr2 := Lib.hid hr2
  go_enter Tryd.func74, Tryd.ntmps74
  go_wp2_with fail
  refine (made_two K (R1 + R2) 98 _ _ (fun ys => T1.getD (numW K (imgP K R2 T2 ys)) 0) _ hk1 hk4 hR _ (by omega) eg_behind1 ?_).mono ?_
  · intro v ys w' hb hv hy hyl
    obtain ⟨x0, x1, x2⟩ := keep3 (n := w.heap.size + 1) (a := .int .i64 K) (b := .int .i64 R2) (c := .slice ua un uc) hb ⟨by simp [go_sem], by simp [go_sem], by simp [go_sem]⟩
    obtain ⟨y0, y1, y2⟩ := keep3 (n := w.heap.size) (a := .int .i64 K) (b := .int .i64 R1) (c := .slice va vn vc) hb ⟨by simp [go_sem], by simp [go_sem], by simp [go_sem]⟩
    exact behind1_any K R1 R2 va vn vc T1 ua un uc T2 _ _ v ys w' (h1.out.below hb) hr1.out (h2.out.below hb) hr2.out hv hy hyl x0 x1 x2 y0 y1 y2
  · rintro e w1 ⟨x, rfl, hb, a, n, c, rfl, ho⟩
    rw [madeP_behind] at ho
    replace ho := Lib.hid ho
    obtain ⟨y0, y1, y2, f0, f1, f2⟩ := cells3 hb
    rw [show ((w.alloc (.cells #[.int .i64 K, .int .i64 R1, .slice va vn vc] 24)).alloc (.cells #[.int .i64 K, .int .i64 R2, .slice ua un uc] 24)).heap.size = w.heap.size + 1 + 1 by simp] at y0 y1 y2 f0 f1 f2
    go_wp2
    refine bodyPost_ret (v := .agg #[.int .i64 K, .int .i64 ((R1 + R2 : Nat) : Int), .slice a n c]) (by simp [results, Tryd.results74, go_sem, y0, y1, y2]) rfl ⟨_, rfl, ?_, a, n, c, rfl, ?_⟩
    · exact (((Below.step b1 hb).setCell (by simp; omega) _).setCell (by simp; omega) _).setCell (by simp; omega) _
    · exact (((ho.out.setBelowBase (a := ⟨w.heap.size + 1 + 1, 0, none⟩) (by simp) _).setBelowBase (a := ⟨w.heap.size + 1 + 1, 1, none⟩) (by simp) _).setBelowBase (a := ⟨w.heap.size + 1 + 1, 2, none⟩) (by simp) _).mono (by simp; omega)

theorem forms_wrong (r : Nat → Addr) (at_ n : Int) (w : World) (hg : Glob r w) (h1 : 1 ≤ n) (h2 : n ≤ 11) :
    Calls Tryd.prog 44 #[.int .i64 at_, .int .i64 n] w (Ret1 (fun v w' => ErrIs r w' (fresh sForms at_ n) v) w) := by
  go_enter Tryd.func44, Tryd.ntmps44
  go_wp2_with fail
  refine (new_any r _ at_ n w hg h1 h2).mono ?_
  rintro e w' ⟨v, rfl, hb, he⟩
  go_wp2
  go_ret
  exact ⟨_, rfl, hb, he⟩

theorem forms_check (r : Nat → Addr) (at_ : Int) (k R : Int) (va : Option Addr) (vn vc : Nat) (xs : List Int) (w : World) (hg : Glob r w) (h : IntsAt w (.slice va vn vc) xs) :
    Calls Tryd.prog 34 #[.int .i64 at_, .agg #[.int .i64 k, .int .i64 R, .slice va vn vc]] w (Ret1 (fun x w' => ErrIs r w' (under sForms at_ (checkP k R xs)) x) w) := by
  have hb0 := belowAlloc w (.cells #[.int .i64 k, .int .i64 R, .slice va vn vc] 24)
  replace hg := Lib.hid (hg.below hb0)
  replace h := Lib.hid (h.below hb0)
  go_enter Tryd.func34, Tryd.ntmps34
  go_wp2_with fail
  refine (check_any r k R _ xs _ hg.out h.out).mono ?_
  rintro e w1 ⟨x, rfl, hb, he⟩
  go_wp2_with fail
  refine (under_any r _ _ _ _ _ he).mono ?_
  rintro e w2 ⟨x, rfl, hb', he⟩
  go_wp2
  go_ret
  exact ⟨_, rfl, Below.step hb0 (Below.step hb hb'), he⟩

/-- forms.Compose's fault. -/
def composeP (k R : Int) (T : List Int) (k' R' : Int) (T' : List Int) : PErr :=
  match checkP k R T with
  | some t => under sForms 0 (some t)
  | none => match checkP k' R' T' with
    | some t => under sForms 1 (some t)
    | none => if k ≠ k' then fresh sForms 1 3 else if 3 < R + R' then fresh sForms 0 4 else none


/-- Two rules boxed, and a result's variable: their cells stay. -/
theorem cells9 {w w1 : World} {x0 x1 x2 x3 x4 x5 x6 x7 x8 : Value} {T1 T2 T3 : TypeId} (hb : Below (((w.alloc (.cells #[x0, x1, x2] T1)).alloc (.cells #[x3, x4, x5] T2)).alloc (.cells #[x6, x7, x8] T3)).heap.size (((w.alloc (.cells #[x0, x1, x2] T1)).alloc (.cells #[x3, x4, x5] T2)).alloc (.cells #[x6, x7, x8] T3)) w1) :
    (w1.cell? ⟨w.heap.size, 0, none⟩ = some x0 ∧ w1.cell? ⟨w.heap.size, 1, none⟩ = some x1 ∧ w1.cell? ⟨w.heap.size, 2, none⟩ = some x2) ∧
    (w1.cell? ⟨w.heap.size + 1, 0, none⟩ = some x3 ∧ w1.cell? ⟨w.heap.size + 1, 1, none⟩ = some x4 ∧ w1.cell? ⟨w.heap.size + 1, 2, none⟩ = some x5) ∧
    (w1.cell? ⟨w.heap.size + 1 + 1, 0, none⟩ = some x6 ∧ w1.cell? ⟨w.heap.size + 1 + 1, 1, none⟩ = some x7 ∧ w1.cell? ⟨w.heap.size + 1 + 1, 2, none⟩ = some x8) ∧
    (w1.frozen? ⟨w.heap.size + 1 + 1, 0, none⟩ = false ∧ w1.frozen? ⟨w.heap.size + 1 + 1, 1, none⟩ = false ∧ w1.frozen? ⟨w.heap.size + 1 + 1, 2, none⟩ = false) := by
  refine ⟨keep3 (n := w.heap.size) hb ⟨by simp [go_sem], by simp [go_sem], by simp [go_sem]⟩, keep3 (n := w.heap.size + 1) hb ⟨by simp [go_sem], by simp [go_sem], by simp [go_sem]⟩, ?_⟩
  have := cells3 hb
  rw [show ((w.alloc (.cells #[x0, x1, x2] T1)).alloc (.cells #[x3, x4, x5] T2)).heap.size = w.heap.size + 1 + 1 by simp] at this
  exact ⟨⟨this.1, this.2.1, this.2.2.1⟩, this.2.2.2⟩

set_option maxHeartbeats 800000 in
theorem compose_bad1 (r : Nat → Addr) (k R : Int) (va : Option Addr) (vn vc : Nat) (T : List Int) (k' R' : Int) (ua : Option Addr) (un uc : Nat) (t : Int × List (ByteArray × Int)) (w : World) (hg : Glob r w)
    (h : IntsAt w (.slice va vn vc) T) (hc : checkP k R T = some t) :
    Calls Tryd.prog 29 #[.agg #[.int .i64 k, .int .i64 R, .slice va vn vc], .agg #[.int .i64 k', .int .i64 R', .slice ua un uc]] w (Ret2 (fun x y w' => x = zR ∧ ErrIs r w' (under sForms 0 (some t)) y) w) := by
  replace hc := Lib.hid hc
  have b1 := Below.step (Below.step (belowAlloc w (.cells #[.int .i64 k, .int .i64 R, .slice va vn vc] 24)) (belowAlloc _ (.cells #[.int .i64 k', .int .i64 R', .slice ua un uc] 24))) (belowAlloc _ (.cells #[.int .i64 0, .int .i64 0, .slice none 0 0] 24))
  replace hg := Lib.hid (hg.below b1)
  replace h := Lib.hid (h.below b1)
  go_enter Tryd.func29, Tryd.ntmps29
  go_wp2_with fail
  refine (forms_check r _ k R va vn vc T _ hg.out h.out).mono ?_
  rintro e w1 ⟨x, rfl, hb, he⟩
  rw [hc.out] at he
  obtain ⟨T1, a1, rfl⟩ := ErrIs.some_shape he
  replace he := Lib.hid he
  obtain ⟨-, -, ⟨y0, y1, y2⟩, f0, f1, f2⟩ := cells9 hb
  go_wp2
  rw [setCell_self3 y0 y1 y2]
  exact bodyPost_ret (v := .tuple #[zR, .iface T1 (.pointer (some a1))]) (by simp [results, Tryd.results29, go_sem, y0, y1, y2]) rfl ⟨_, _, rfl, Below.step b1 hb, rfl, he.out⟩

set_option maxHeartbeats 800000 in
theorem compose_bad2 (r : Nat → Addr) (k R : Int) (va : Option Addr) (vn vc : Nat) (T : List Int) (k' R' : Int) (ua : Option Addr) (un uc : Nat) (T' : List Int) (t : Int × List (ByteArray × Int)) (w : World) (hg : Glob r w)
    (h : IntsAt w (.slice va vn vc) T) (h' : IntsAt w (.slice ua un uc) T') (hc : checkP k R T = none) (hc' : checkP k' R' T' = some t) :
    Calls Tryd.prog 29 #[.agg #[.int .i64 k, .int .i64 R, .slice va vn vc], .agg #[.int .i64 k', .int .i64 R', .slice ua un uc]] w (Ret2 (fun x y w' => x = zR ∧ ErrIs r w' (under sForms 1 (some t)) y) w) := by
  replace hc := Lib.hid hc
  replace hc' := Lib.hid hc'
  have b1 := Below.step (Below.step (belowAlloc w (.cells #[.int .i64 k, .int .i64 R, .slice va vn vc] 24)) (belowAlloc _ (.cells #[.int .i64 k', .int .i64 R', .slice ua un uc] 24))) (belowAlloc _ (.cells #[.int .i64 0, .int .i64 0, .slice none 0 0] 24))
  replace hg := Lib.hid (hg.below b1)
  replace h := Lib.hid (h.below b1)
  replace h' := Lib.hid (h'.below b1)
  go_enter Tryd.func29, Tryd.ntmps29
  go_wp2_with fail
  refine (forms_check r _ k R va vn vc T _ hg.out h.out).mono ?_
  rintro e w1 ⟨x, rfl, hb, he⟩
  rw [hc.out] at he
  obtain rfl := ErrIs.none_eq he
  clear he
  obtain ⟨⟨x0, x1, x2⟩, ⟨z0, z1, z2⟩, ⟨y0, y1, y2⟩, f0, f1, f2⟩ := cells9 hb
  go_wp2_with fail
  refine (forms_check r _ k' R' ua un uc T' _ (hg.out.below hb) (h'.out.below hb)).mono ?_
  rintro e w2 ⟨x, rfl, hb', he⟩
  rw [hc'.out] at he
  clear x0 x1 x2 z0 z1 z2 y0 y1 y2 f0 f1 f2
  obtain ⟨-, -, ⟨y0, y1, y2⟩, f0, f1, f2⟩ := cells9 (Below.step hb hb')
  obtain ⟨T1, a1, rfl⟩ := ErrIs.some_shape he
  replace he := Lib.hid he
  go_wp2
  rw [setCell_self3 y0 y1 y2]
  exact bodyPost_ret (v := .tuple #[zR, .iface T1 (.pointer (some a1))]) (by simp [results, Tryd.results29, go_sem, y0, y1, y2]) rfl ⟨_, _, rfl, Below.step b1 (Below.step hb hb'), rfl, he.out⟩

set_option maxHeartbeats 800000 in
theorem compose_bad3 (r : Nat → Addr) (k R : Int) (va : Option Addr) (vn vc : Nat) (T : List Int) (k' R' : Int) (ua : Option Addr) (un uc : Nat) (T' : List Int) (w : World) (hg : Glob r w)
    (h : IntsAt w (.slice va vn vc) T) (h' : IntsAt w (.slice ua un uc) T') (hc : checkP k R T = none) (hc' : checkP k' R' T' = none) (hk : k ≠ k') :
    Calls Tryd.prog 29 #[.agg #[.int .i64 k, .int .i64 R, .slice va vn vc], .agg #[.int .i64 k', .int .i64 R', .slice ua un uc]] w (Ret2 (fun x y w' => x = zR ∧ ErrIs r w' (fresh sForms 1 3) y) w) := by
  replace hc := Lib.hid hc
  replace hc' := Lib.hid hc'
  have hkb : (k != k') = true := by rw [bne_iff_ne]; exact hk
  clear hk
  have b1 := Below.step (Below.step (belowAlloc w (.cells #[.int .i64 k, .int .i64 R, .slice va vn vc] 24)) (belowAlloc _ (.cells #[.int .i64 k', .int .i64 R', .slice ua un uc] 24))) (belowAlloc _ (.cells #[.int .i64 0, .int .i64 0, .slice none 0 0] 24))
  replace hg := Lib.hid (hg.below b1)
  replace h := Lib.hid (h.below b1)
  replace h' := Lib.hid (h'.below b1)
  go_enter Tryd.func29, Tryd.ntmps29
  go_wp2_with fail
  refine (forms_check r _ k R va vn vc T _ hg.out h.out).mono ?_
  rintro e w1 ⟨x, rfl, hb, he⟩
  rw [hc.out] at he
  obtain rfl := ErrIs.none_eq he
  clear he
  obtain ⟨⟨x0, x1, x2⟩, ⟨z0, z1, z2⟩, ⟨y0, y1, y2⟩, f0, f1, f2⟩ := cells9 hb
  go_wp2_with fail
  refine (forms_check r _ k' R' ua un uc T' _ (hg.out.below hb) (h'.out.below hb)).mono ?_
  rintro e w2 ⟨x, rfl, hb', he⟩
  rw [hc'.out] at he
  obtain rfl := ErrIs.none_eq he
  clear x0 x1 x2 z0 z1 z2 y0 y1 y2 f0 f1 f2 he
  obtain ⟨⟨x0, x1, x2⟩, ⟨z0, z1, z2⟩, ⟨y0, y1, y2⟩, f0, f1, f2⟩ := cells9 (Below.step hb hb')
  go_wp2_with fail
  refine (forms_wrong r _ _ _ ((hg.out.below hb).below hb') (by decide) (by decide)).mono ?_
  rintro e w3 ⟨x, rfl, hb3, he⟩
  clear x0 x1 x2 z0 z1 z2 y0 y1 y2 f0 f1 f2
  obtain ⟨-, -, ⟨y0, y1, y2⟩, f0, f1, f2⟩ := cells9 (Below.step (Below.step hb hb') hb3)
  obtain ⟨T1, a1, rfl⟩ := ErrIs.some_shape he
  replace he := Lib.hid he
  go_wp2
  rw [setCell_self3 y0 y1 y2]
  exact bodyPost_ret (v := .tuple #[zR, .iface T1 (.pointer (some a1))]) (by simp [results, Tryd.results29, go_sem, y0, y1, y2]) rfl ⟨_, _, rfl, Below.step b1 (Below.step (Below.step hb hb') hb3), rfl, he.out⟩

set_option maxHeartbeats 800000 in
theorem compose_bad4 (r : Nat → Addr) (K Q Q' : Nat) (va : Option Addr) (vn vc : Nat) (T : List Int) (ua : Option Addr) (un uc : Nat) (T' : List Int) (w : World) (hg : Glob r w)
    (h : IntsAt w (.slice va vn vc) T) (h' : IntsAt w (.slice ua un uc) T') (hc : RuleOk K Q T) (hc' : RuleOk K Q' T') (hR : 3 < Q + Q') :
    Calls Tryd.prog 29 #[.agg #[.int .i64 K, .int .i64 Q, .slice va vn vc], .agg #[.int .i64 K, .int .i64 Q', .slice ua un uc]] w (Ret2 (fun x y w' => x = zR ∧ ErrIs r w' (fresh sForms 0 4) y) w) := by
  have hq := hc.r3
  have hq' := hc'.r3
  have hRi : (3 : Int) < (Q : Int) + (Q' : Int) := by omega
  replace hc := hc.check
  replace hc' := hc'.check
  obtain ⟨k, hk⟩ : ∃ k : Int, k = K := ⟨_, rfl⟩
  obtain ⟨R, hr⟩ : ∃ k : Int, k = Q := ⟨_, rfl⟩
  obtain ⟨R', hr'⟩ : ∃ k : Int, k = Q' := ⟨_, rfl⟩
  have hr0 : 0 ≤ R := by omega
  have hr3 : R ≤ 3 := by omega
  have hr0' : 0 ≤ R' := by omega
  have hr3' : R' ≤ 3 := by omega
  rw [← hk, ← hr] at hc
  rw [← hk, ← hr'] at hc'
  rw [← hr, ← hr'] at hRi
  rw [← hk, ← hr, ← hr']
  clear hk hr hr'
  replace hc := Lib.hid hc
  replace hc' := Lib.hid hc'
  have hkb : (k != k) = false := by simp
  have b1 := Below.step (Below.step (belowAlloc w (.cells #[.int .i64 k, .int .i64 R, .slice va vn vc] 24)) (belowAlloc _ (.cells #[.int .i64 k, .int .i64 R', .slice ua un uc] 24))) (belowAlloc _ (.cells #[.int .i64 0, .int .i64 0, .slice none 0 0] 24))
  replace hg := Lib.hid (hg.below b1)
  replace h := Lib.hid (h.below b1)
  replace h' := Lib.hid (h'.below b1)
  go_enter Tryd.func29, Tryd.ntmps29
  go_wp2_with fail
  refine (forms_check r _ k R va vn vc T _ hg.out h.out).mono ?_
  rintro e w1 ⟨x, rfl, hb, he⟩
  rw [hc.out] at he
  obtain rfl := ErrIs.none_eq he
  clear he
  obtain ⟨⟨x0, x1, x2⟩, ⟨z0, z1, z2⟩, ⟨y0, y1, y2⟩, f0, f1, f2⟩ := cells9 hb
  go_wp2_with fail
  refine (forms_check r _ k R' ua un uc T' _ (hg.out.below hb) (h'.out.below hb)).mono ?_
  rintro e w2 ⟨x, rfl, hb', he⟩
  rw [hc'.out] at he
  obtain rfl := ErrIs.none_eq he
  clear x0 x1 x2 z0 z1 z2 y0 y1 y2 f0 f1 f2 he
  obtain ⟨⟨x0, x1, x2⟩, ⟨z0, z1, z2⟩, ⟨y0, y1, y2⟩, f0, f1, f2⟩ := cells9 (Below.step hb hb')
  go_wp2_with fail
  refine (forms_wrong r _ _ _ ((hg.out.below hb).below hb') (by decide) (by decide)).mono ?_
  rintro e w3 ⟨x, rfl, hb3, he⟩
  clear x0 x1 x2 z0 z1 z2 y0 y1 y2 f0 f1 f2
  obtain ⟨-, -, ⟨y0, y1, y2⟩, f0, f1, f2⟩ := cells9 (Below.step (Below.step hb hb') hb3)
  obtain ⟨T1, a1, rfl⟩ := ErrIs.some_shape he
  replace he := Lib.hid he
  go_wp2
  rw [setCell_self3 y0 y1 y2]
  exact bodyPost_ret (v := .tuple #[zR, .iface T1 (.pointer (some a1))]) (by simp [results, Tryd.results29, go_sem, y0, y1, y2]) rfl ⟨_, _, rfl, Below.step b1 (Below.step (Below.step hb hb') hb3), rfl, he.out⟩

set_option maxHeartbeats 800000 in
theorem compose_ok (r : Nat → Addr) (K Q Q' : Nat) (va : Option Addr) (vn vc : Nat) (T : List Int) (ua : Option Addr) (un uc : Nat) (T' : List Int) (w : World) (hg : Glob r w)
    (h : IntsAt w (.slice va vn vc) T) (h' : IntsAt w (.slice ua un uc) T') (hc : RuleOk K Q T) (hc' : RuleOk K Q' T') (hR : Q + Q' ≤ 3) :
    Calls Tryd.prog 29 #[.agg #[.int .i64 K, .int .i64 Q, .slice va vn vc], .agg #[.int .i64 K, .int .i64 Q', .slice ua un uc]] w (Ret2 (fun x y w' => y = .nilIface ∧ ∃ a n c, x = .agg #[.int .i64 K, .int .i64 ((Q + Q' : Nat) : Int), .slice a n c] ∧ OwnI w.heap.size w' (.slice a n c) (behindT K Q T Q' T')) w) := by
  have b1 := Below.step (Below.step (belowAlloc w (.cells #[.int .i64 K, .int .i64 Q, .slice va vn vc] 24)) (belowAlloc _ (.cells #[.int .i64 K, .int .i64 Q', .slice ua un uc] 24))) (belowAlloc _ (.cells #[.int .i64 0, .int .i64 0, .slice none 0 0] 24))
  have hRi : (Q : Int) + (Q' : Int) ≤ 3 := by omega
  have hkb : ((K : Int) != (K : Int)) = false := by simp
  have d1 := Lib.hid hc.check
  have d2 := Lib.hid hc'.check
  replace hc := Lib.hid hc
  replace hc' := Lib.hid hc'
  replace hg := Lib.hid (hg.below b1)
  replace h := Lib.hid (h.below b1)
  replace h' := Lib.hid (h'.below b1)
  go_enter Tryd.func29, Tryd.ntmps29
  go_wp2_with fail
  refine (forms_check r _ K Q va vn vc T _ hg.out h.out).mono ?_
  rintro e w1 ⟨x, rfl, hb, he⟩
  rw [d1.out] at he
  obtain rfl := ErrIs.none_eq he
  clear he
  obtain ⟨⟨x0, x1, x2⟩, ⟨z0, z1, z2⟩, ⟨y0, y1, y2⟩, f0, f1, f2⟩ := cells9 hb
  go_wp2_with fail
  refine (forms_check r _ K Q' ua un uc T' _ (hg.out.below hb) (h'.out.below hb)).mono ?_
  rintro e w2 ⟨x, rfl, hb', he⟩
  rw [d2.out] at he
  obtain rfl := ErrIs.none_eq he
  clear x0 x1 x2 z0 z1 z2 y0 y1 y2 f0 f1 f2 he
  have hb2 := Below.step hb hb'
  obtain ⟨⟨x0, x1, x2⟩, ⟨z0, z1, z2⟩, ⟨y0, y1, y2⟩, f0, f1, f2⟩ := cells9 hb2
  go_wp2_with fail
  refine (behind_any K Q Q' va vn vc T ua un uc T' _ (h.out.below hb2) hc.out (h'.out.below hb2) hc'.out hR).mono ?_
  rintro e w3 ⟨x, rfl, hb3, a, n, c, rfl, ho⟩
  clear x0 x1 x2 z0 z1 z2 y0 y1 y2 f0 f1 f2
  obtain ⟨-, -, ⟨y0, y1, y2⟩, f0, f1, f2⟩ := cells9 (Below.step hb2 hb3)
  have hsz := hb2.size
  simp at hsz
  replace ho := Lib.hid ho
  go_wp2
  refine bodyPost_ret (v := .tuple #[.agg #[.int .i64 K, .int .i64 ((Q + Q' : Nat) : Int), .slice a n c], .nilIface]) (by simp [results, Tryd.results29, go_sem, y0, y1, y2]) rfl ⟨_, _, rfl, ?_, rfl, a, n, c, rfl, ?_⟩
  · exact (((Below.step b1 (Below.step hb2 hb3)).setCell (by simp; omega) _).setCell (by simp; omega) _).setCell (by simp; omega) _
  · exact (((ho.out.setBelowBase (a := ⟨w.heap.size + 1 + 1, 0, none⟩) (by simp; omega) _).setBelowBase (a := ⟨w.heap.size + 1 + 1, 1, none⟩) (by simp; omega) _).setBelowBase (a := ⟨w.heap.size + 1 + 1, 2, none⟩) (by simp; omega) _).mono (by omega)

/-- forms.Compose at all rules. -/
theorem compose_any (r : Nat → Addr) (k R : Int) (va : Option Addr) (vn vc : Nat) (T : List Int) (k' R' : Int) (ua : Option Addr) (un uc : Nat) (T' : List Int) (w : World) (hg : Glob r w)
    (h : IntsAt w (.slice va vn vc) T) (h' : IntsAt w (.slice ua un uc) T') :
    Calls Tryd.prog 29 #[.agg #[.int .i64 k, .int .i64 R, .slice va vn vc], .agg #[.int .i64 k', .int .i64 R', .slice ua un uc]] w (Ret2 (fun x y w' => ErrIs r w' (composeP k R T k' R' T') y ∧ (composeP k R T k' R' T' ≠ none → x = zR) ∧
      (composeP k R T k' R' T' = none → ∃ a n c, x = .agg #[.int .i64 k, .int .i64 (R + R'), .slice a n c] ∧ OwnI w.heap.size w' (.slice a n c) (behindT k.toNat R.toNat T R'.toNat T'))) w) := by
  cases hc : checkP k R T with
  | some t =>
    have e : composeP k R T k' R' T' = under sForms 0 (some t) := by simp [composeP, hc]
    refine (compose_bad1 r k R va vn vc T k' R' ua un uc t w hg h hc).mono ?_
    rintro _ w' ⟨x, y, he, hb, hx, hy⟩
    exact ⟨x, y, he, hb, by rw [e]; exact hy, fun _ => hx, (fun q => by rw [e] at q; cases q)⟩
  | none =>
    cases hc' : checkP k' R' T' with
    | some t =>
      have e : composeP k R T k' R' T' = under sForms 1 (some t) := by simp [composeP, hc, hc']
      refine (compose_bad2 r k R va vn vc T k' R' ua un uc T' t w hg h h' hc hc').mono ?_
      rintro _ w' ⟨x, y, he, hb, hx, hy⟩
      exact ⟨x, y, he, hb, by rw [e]; exact hy, fun _ => hx, (fun q => by rw [e] at q; cases q)⟩
    | none =>
      by_cases hk : k = k'
      case neg =>
        have e : composeP k R T k' R' T' = fresh sForms 1 3 := by simp [composeP, hc, hc', hk]
        refine (compose_bad3 r k R va vn vc T k' R' ua un uc T' w hg h h' hc hc' hk).mono ?_
        rintro _ w' ⟨x, y, he, hb, hx, hy⟩
        exact ⟨x, y, he, hb, by rw [e]; exact hy, fun _ => hx, (fun q => by rw [e] at q; cases q)⟩
      subst hk
      obtain ⟨K, Q, rfl, rfl, hok⟩ := checkP_none hc
      obtain ⟨K', Q', hK, rfl, hok'⟩ := checkP_none hc'
      obtain rfl : K = K' := by omega
      by_cases hR : Q + Q' ≤ 3
      · have e : composeP K Q T K Q' T' = none := by
          simp only [composeP, hc, hc']
          rw [if_neg (by simp), if_neg (by omega)]
        refine (compose_ok r K Q Q' va vn vc T ua un uc T' w hg h h' hok hok' hR).mono ?_
        rintro _ w' ⟨x, y, he, hb, hy, a, n, c, hx, ho⟩
        exact ⟨x, y, he, hb, by rw [e]; exact hy, fun q => absurd e q, fun _ => ⟨a, n, c, by rw [hx]; simp, by simpa using ho⟩⟩
      · have e : composeP K Q T K Q' T' = fresh sForms 0 4 := by
          simp only [composeP, hc, hc']
          rw [if_neg (by simp), if_pos (by omega)]
        refine (compose_bad4 r K Q Q' va vn vc T ua un uc T' w hg h h' hok hok' (by omega)).mono ?_
        rintro _ w' ⟨x, y, he, hb, hx, hy⟩
        exact ⟨x, y, he, hb, by rw [e]; exact hy, fun _ => hx, (fun q => by rw [e] at q; cases q)⟩
end Go.Proofs.YthnkdiejmclmkaaDoor

namespace Go.Proofs.YthnkdiejmclmkaaDoor
open Go.RowKit Go.Shelf
set_option maxRecDepth 100000

def Tryd.laysRev_ren : Go.Shelf.Ren := ⟨fun | 112 => 38 | n => n, fun | 28 => 22 | 3 => 3 | 4 => 4 | 0 => 0 | n => n, fun | n => n⟩
theorem Tryd.laysRev : Go.Proofs.Lays.n112 Tryd.prog Tryd.laysRev_ren := {
  mixed := by kernel_rfl
  f112 := Tryd.func38.trans (congrArg some (by kernel_rfl))
  t0 := Tryd.underlying0
  a0 := Tryd.isAgg0
  z0 := Tryd.sizeOf0
  v0 := Tryd.zeroValue0
  t3 := Tryd.underlying3
  a3 := Tryd.isAgg3
  z3 := Tryd.sizeOf3
  v3 := Tryd.zeroValue3
  t4 := Tryd.underlying4
  a4 := Tryd.isAgg4
  z4 := Tryd.sizeOf4
  v4 := Tryd.zeroValue4
  t28 := Tryd.underlying22
  a28 := Tryd.isAgg22
  z28 := Tryd.sizeOf22
  v28 := Tryd.zeroValue22 }

theorem setCells_own {B g n cap : Nat} {w0 : World} : ∀ (zs : List Int) (o : Nat) (xs : List Int) (w : World), xs.length = n → o + zs.length ≤ n → OwnI B w (.slice (some ⟨g, 0, none⟩) n cap) xs → Below B w0 w →
    OwnI B (w.setCells g o (zs.map (Value.int .i64))) (.slice (some ⟨g, 0, none⟩) n cap) (xs.take o ++ zs ++ xs.drop (o + zs.length)) ∧ Below B w0 (w.setCells g o (zs.map (Value.int .i64)))
  | [], o, xs, w, _, _, h, hb => ⟨by simpa [World.setCells] using h, hb⟩
  | z :: r, o, xs, w, hn, ho, h, hb => by
    have hol : o < xs.length := by simp at ho; omega
    have h1 := h.set o hol z
    have h2 := h.setBelow hb o hol (.int .i64 z)
    rw [valAt_row] at h1 h2
    have ih := setCells_own r (o + 1) (xs.set o z) _ (by simpa using hn) (by simp at ho; omega) h1 h2
    have e : (xs.set o z).take (o + 1) ++ r ++ (xs.set o z).drop (o + 1 + r.length) = xs.take o ++ (z :: r) ++ xs.drop (o + (z :: r).length) := by
      rw [List.take_set, List.drop_set_of_lt (by omega)]
      rw [show (xs.take (o + 1)).set o z = xs.take o ++ [z] by rw [take_snoc xs o hol, List.set_append_right _ _ (by simp; omega)]; simp [show o - min o xs.length = 0 by omega]]
      simp [show o + 1 + r.length = o + (r.length + 1) by omega]
    rw [e] at ih
    exact ih

/-- slices.Reverse at a list of one's own. -/
theorem reverse_own (B : Nat) (v : Value) (xs : List Int) (w : World) (h : OwnI B w v xs) (hl : xs.length ≤ 9223372036854775807) :
    Calls Tryd.prog 38 #[v] w fun e w' => e = .returned (.tuple #[]) ∧ OwnI B w' v xs.reverse ∧ Below B w w' := by
  rcases h.2 with ⟨rfl, hn⟩ | ⟨g, cap, cur, rfl, hb, hg, hn, hm, hs, ht⟩
  · obtain rfl := List.length_eq_zero_iff.1 hn
    refine Calls.mono (Any.slices_Reverse_int_empty Tryd.laysRev none 0 w) ?_
    rintro e w' ⟨rfl, rfl⟩
    exact ⟨rfl, h, Below.refl _ _⟩
  · refine Calls.mono (Any.slices_Reverse_int_cells Tryd.laysRev g 0 xs.length cap xs w (Nat.le_refl _) hl (fun j hj => ?_) (fun j hj => ?_)) ?_
    · have := h.at.cellD j hj
      rw [valAt_row] at this
      simpa using this
    · have := h.frz j hj
      rw [valAt_row] at this
      simpa using this
    · rintro e w' ⟨rfl, q, rfl⟩
      rw [List.take_length]
      have := setCells_own (w0 := w) xs.reverse 0 xs (w.drewN q) rfl (by simp) (h.drewN q) (below_drewN (Below.refl _ _) q)
      simp at this
      simpa using ⟨this.1, this.2⟩

end Go.Proofs.YthnkdiejmclmkaaDoor

namespace Go.Proofs.YthnkdiejmclmkaaDoor
open Go.RowKit
set_option maxRecDepth 100000

/-- What an edenraw.Err is in memory. -/
def EAt (w : World) (t : PErr) (v : Value) : Prop :=
  match t with
  | none => v = .agg #[.int .i64 0, .slice none 0 0, .slice none 0 0]
  | some (n, l) => ∃ a1 n1 c1 a2 n2 c2, v = .agg #[.int .i64 n, .slice a1 n1 c1, .slice a2 n2 c2] ∧ ValsAt w (.slice a1 n1 c1) (l.map fun x => Value.string x.1) ∧ IntsAt w (.slice a2 n2 c2) (l.map (·.2))

theorem EAt.below {w w' : World} {t : PErr} {v : Value} (h : EAt w t v) (hb : Below w.heap.size w w') : EAt w' t v := by
  match t, h with
  | none, h => exact h
  | some (n, l), ⟨a1, n1, c1, a2, n2, c2, e, h1, h2⟩ => exact ⟨a1, n1, c1, a2, n2, c2, e, h1.below hb, h2.below hb⟩

/-- An edenraw.Err whose lists this call made, from block B on. -/
def EOwn (B : Nat) (w : World) (t : PErr) (v : Value) : Prop :=
  match t with
  | none => v = .agg #[.int .i64 0, .slice none 0 0, .slice none 0 0]
  | some (n, l) => ∃ a1 n1 c1 a2 n2 c2, v = .agg #[.int .i64 n, .slice a1 n1 c1, .slice a2 n2 c2] ∧ OwnV 9 B w (.slice a1 n1 c1) (l.map fun x => Value.string x.1) ∧ OwnV 3 B w (.slice a2 n2 c2) ((l.map (·.2)).map (Value.int .i64))

theorem OwnV.setBelowBase {E : TypeId} {B : Nat} {w : World} {v : Value} {vs : List Value} (h : OwnV E B w v vs) {a : Addr} (ha : a.block < B) (u : Value) : OwnV E B (w.setCell a u) v vs := ownsRow_setCell_below h ha u
theorem EOwn.at {B : Nat} {w : World} {t : PErr} {v : Value} (h : EOwn B w t v) : EAt w t v := by
  match t, h with
  | none, h => exact h
  | some (n, l), ⟨a1, n1, c1, a2, n2, c2, e, h1, h2⟩ => exact ⟨a1, n1, c1, a2, n2, c2, e, h1.at, OwnI.at (OwnV.toI h2)⟩
theorem EOwn.mono {B B' : Nat} {w : World} {t : PErr} {v : Value} (h : EOwn B w t v) (hB : B' ≤ B) : EOwn B' w t v := by
  match t, h with
  | none, h => exact h
  | some (n, l), ⟨a1, n1, c1, a2, n2, c2, e, h1, h2⟩ => exact ⟨a1, n1, c1, a2, n2, c2, e, h1.mono hB, h2.mono hB⟩
theorem EOwn.below {B : Nat} {w w' : World} {t : PErr} {v : Value} (h : EOwn B w t v) (hb : Below w.heap.size w w') : EOwn B w' t v := by
  match t, h with
  | none, h => exact h
  | some (n, l), ⟨a1, n1, c1, a2, n2, c2, e, h1, h2⟩ => exact ⟨a1, n1, c1, a2, n2, c2, e, h1.below hb, h2.below hb⟩
theorem EOwn.set {B : Nat} {w : World} {t : PErr} {v : Value} (h : EOwn B w t v) {a : Addr} (ha : a.block < B) (u : Value) : EOwn B (w.setCell a u) t v := by
  match t, h with
  | none, h => exact h
  | some (n, l), ⟨a1, n1, c1, a2, n2, c2, e, h1, h2⟩ => exact ⟨a1, n1, c1, a2, n2, c2, e, h1.setBelowBase ha u, h2.setBelowBase ha u⟩
theorem EOwn.set3 {B b : Nat} {w : World} {t : PErr} {v : Value} (h : EOwn B w t v) (hb : b < B) (x y z : Value) : EOwn B (((w.setCell ⟨b, 0, none⟩ x).setCell ⟨b, 1, none⟩ y).setCell ⟨b, 2, none⟩ z) t v :=
  ((h.set (a := ⟨b, 0, none⟩) hb x).set (a := ⟨b, 1, none⟩) hb y).set (a := ⟨b, 2, none⟩) hb z
theorem Below.set3 {B b : Nat} {w0 w : World} (h : Below B w0 w) (hb : B ≤ b) (x y z : Value) : Below B w0 (((w.setCell ⟨b, 0, none⟩ x).setCell ⟨b, 1, none⟩ y).setCell ⟨b, 2, none⟩ z) :=
  ((h.setCell (p := ⟨b, 0, none⟩) hb x).setCell (p := ⟨b, 1, none⟩) hb y).setCell (p := ⟨b, 2, none⟩) hb z
theorem OwnV.lit {E : TypeId} (B : Nat) (w : World) (hB : B ≤ w.heap.size) (x : Value) : OwnV E B (w.alloc (.cells #[x] E)) (.slice (some ⟨w.heap.size, 0, none⟩) 1 1) [x] :=
  World.ownsRow_lit (base := B) (e := E) (size := 1) w #[x] 1 hB (by unfold maxLen; omega) rfl

theorem EAt.shape {w : World} {t : PErr} {v : Value} (h : EAt w t v) : ∃ n a1 n1 c1 a2 n2 c2, v = .agg #[.int .i64 n, .slice a1 n1 c1, .slice a2 n2 c2] := by
  match t, h with
  | none, h => exact ⟨0, none, 0, 0, none, 0, 0, h⟩
  | some (n, l), ⟨a1, n1, c1, a2, n2, c2, e, _⟩ => exact ⟨n, a1, n1, c1, a2, n2, c2, e⟩

abbrev zErr : Value := .agg #[.int .i64 0, .slice none 0 0, .slice none 0 0]
theorem EAt.none (w : World) : EAt w none zErr := rfl

theorem vals1 {w : World} {b : Nat} {u : Value} (h : w.cell? ⟨b, 0, none⟩ = some u) : ValsAt w (.slice (some ⟨b, 0, none⟩) 1 1) [u] :=
  ⟨some ⟨b, 0, none⟩, 1, rfl, by simp, by unfold maxLen; omega, (fun e => by cases e), fun i hi => by
    obtain rfl : i = 0 := by simpa using hi
    rw [valAt_row]; simpa using h⟩
theorem ints1 {w : World} {b : Nat} {x : Int} (h : w.cell? ⟨b, 0, none⟩ = some (.int .i64 x)) : IntsAt w (.slice (some ⟨b, 0, none⟩) 1 1) [x] :=
  ⟨some ⟨b, 0, none⟩, 1, rfl, by simp, by unfold maxLen; omega, (fun e => by cases e), fun i hi => by
    obtain rfl : i = 0 := by simpa using hi
    rw [valAt_row]; simpa using h⟩

theorem ValsAt.alloc {w : World} {v : Value} {vs : List Value} (h : ValsAt w v vs) (o : Obj) : ValsAt (w.alloc o) v vs := h.below ((Below.refl _ _).alloc (Nat.le_refl _) _)
theorem ValsAt.drew {w : World} {v : Value} {vs : List Value} (h : ValsAt w v vs) : ValsAt w.drew v vs := h
theorem ValsAt.split {w : World} {v : Value} {vs : List Value} (h : ValsAt w v vs) : (v = .slice none 0 0 ∧ vs = []) ∨ ∃ p cap, v = .slice (some p) vs.length cap ∧ ∀ j u, vs[j]? = some u → w.cell? (p.add j) = some u := by
  obtain ⟨a, cap, rfl, h1, h2, h3, h4⟩ := h
  cases a with
  | none =>
    obtain rfl := h3 rfl
    obtain rfl := List.length_eq_zero_iff.1 (show vs.length = 0 by omega)
    exact .inl ⟨rfl, rfl⟩
  | some p =>
    refine .inr ⟨p, cap, rfl, fun j u hj => ?_⟩
    have hjl : j < vs.length := (List.getElem?_eq_some_iff.1 hj).1
    have := h4 j hjl
    simp only [valAt] at this
    rw [this, ← hj]; simp [hjl]
theorem IntsAt.alloc {w : World} {v : Value} {xs : List Int} (h : IntsAt w v xs) (o : Obj) : IntsAt (w.alloc o) v xs := h.below ((Below.refl _ _).alloc (Nat.le_refl _) _)

/-- append([]T{x}, ys...) in a region that draws. -/
theorem step_under {T E : TypeId} {z : Value} {bytes : Nat} (oc : OneCell T E z bytes) {ops : Array Oper} {o : Oper} {a : Act} {w : World} {K : Act → World → Prop} {Q : Exit → Act → World → Prop} {Ep : Prop}
    (hg : o.guard = none) (s x : Operand) (hop : o.op = Op.call { callee := Callee.builtin Builtin.append, args := #[s, x], argTypes := #[T, T] })
    (b : Nat) (x0 : Value) (hs : a.eval s = .slice (some ⟨b, 0, none⟩) 1 1) (hb : w.cell? ⟨b, 0, none⟩ = some x0)
    (u : Value) (ys : List Value) (hx : a.eval x = u) (hu : ValsAt w u ys) (h0 : 0 < ys.length) (hl : ys.length ≤ 1000) (h1 : ∀ u ∈ ys, u.oneCell' = true)
    (hK : ∀ v' w', OwnV E w.heap.size w' v' (x0 :: ys) → Below w.heap.size w w' → K (a.put o.dst v') w') :
    if Region.wanted o (yielded ops a.tmps) = true then Oper.wp Tryd.prog o a w K Q else Ep := by
  obtain ⟨i, hi, hz0, hz1, hz2⟩ := info_parts oc.hi
  rcases hu.split with ⟨_, rfl⟩ | ⟨p, cap, rfl, hc⟩
  · simp at h0
  · have hb' := oc.hb
    refine step_append_grows hg s x T hop E i z 1 bytes oc.ht hi hz0 hz1 hz2 (by rw [oc.hz]; rfl) (by decide) (some ⟨b, 0, none⟩) 1 1 [x0] hs (fun h => by cases h) rfl
      (fun b' hb2 j u hj => by
        obtain rfl := Option.some.inj hb2
        obtain ⟨hj1, hj2⟩ := List.getElem?_eq_some_iff.1 hj
        obtain rfl : j = 0 := by simpa using hj1
        simp at hj2; subst hj2
        exact hb) p ys.length cap ys hx (by simp) hc h1 (by omega) (by unfold maxLen; omega) (by
          calc (1 + ys.length) * bytes ≤ 1001 * 32 := Nat.mul_le_mul (by omega) hb'
            _ ≤ _ := by decide) ?_
    intro v' w' hown hgr
    have hv : OwnV E w.heap.size w' v' (x0 :: ys) := by
      unfold OwnV
      rw [show (x0 :: ys).length = 1 + ys.length by simp; omega]
      exact hown
    exact hK v' w' hv ((Below.refl _ _).grown hgr (Nat.le_refl _) (by intro k hk; cases hk))

end Go.Proofs.YthnkdiejmclmkaaDoor

namespace Go.Proofs.YthnkdiejmclmkaaDoor
open Go.RowKit
set_option maxRecDepth 100000

theorem EOwn.shape {B : Nat} {w : World} {t : PErr} {v : Value} (h : EOwn B w t v) : ∃ n a1 n1 c1 a2 n2 c2, v = .agg #[.int .i64 n, .slice a1 n1 c1, .slice a2 n2 c2] := h.at.shape

/-- Two boxes of three cells: they stay. -/
theorem cells6 {w w1 : World} {x0 x1 x2 x3 x4 x5 : Value} {T1 T2 : TypeId} (hb : Below ((w.alloc (.cells #[x0, x1, x2] T1)).alloc (.cells #[x3, x4, x5] T2)).heap.size ((w.alloc (.cells #[x0, x1, x2] T1)).alloc (.cells #[x3, x4, x5] T2)) w1) :
    (w1.cell? ⟨w.heap.size, 0, none⟩ = some x0 ∧ w1.cell? ⟨w.heap.size, 1, none⟩ = some x1 ∧ w1.cell? ⟨w.heap.size, 2, none⟩ = some x2) ∧
    (w1.cell? ⟨w.heap.size + 1, 0, none⟩ = some x3 ∧ w1.cell? ⟨w.heap.size + 1, 1, none⟩ = some x4 ∧ w1.cell? ⟨w.heap.size + 1, 2, none⟩ = some x5) ∧
    (w1.frozen? ⟨w.heap.size + 1, 0, none⟩ = false ∧ w1.frozen? ⟨w.heap.size + 1, 1, none⟩ = false ∧ w1.frozen? ⟨w.heap.size + 1, 2, none⟩ = false) := by
  refine ⟨keep3 (n := w.heap.size) hb ⟨by simp [go_sem], by simp [go_sem], by simp [go_sem]⟩, ?_⟩
  have := cells3 hb
  rw [show (w.alloc (.cells #[x0, x1, x2] T1)).heap.size = w.heap.size + 1 by simp] at this
  exact ⟨⟨this.1, this.2.1, this.2.2.1⟩, this.2.2.2⟩

theorem undraw {w w1 : World} {n : Nat} (h : Below (w.drewN n).heap.size (w.drewN n) w1) : Below w.heap.size w w1 := (below_drewN (Below.refl w.heap.size w) n).trans h

theorem below_set3 {B b : Nat} {w0 w : World} (h : Below B w0 w) (hb : B ≤ b) (x y z : Value) : Below B w0 (((w.setCell ⟨b, 0, none⟩ x).setCell ⟨b, 1, none⟩ y).setCell ⟨b, 2, none⟩ z) :=
  ((h.setCell (p := ⟨b, 0, none⟩) hb x).setCell (p := ⟨b, 1, none⟩) hb y).setCell (p := ⟨b, 2, none⟩) hb z

end Go.Proofs.YthnkdiejmclmkaaDoor

namespace Go.Proofs.YthnkdiejmclmkaaDoor
open Go.RowKit
set_option maxRecDepth 100000

theorem mul3 {x s : Int} (hx : 0 ≤ x ∧ x < 4) (hs : 0 ≤ s ∧ s < 4) : 0 ≤ x * s ∧ x * s ≤ 9 := by
  obtain ⟨h1, h2⟩ := hx
  obtain ⟨h3, h4⟩ := hs
  have a : x = 0 ∨ x = 1 ∨ x = 2 ∨ x = 3 := by omega
  rcases a with rfl | rfl | rfl | rfl <;> omega

/-- The zero rule's value. -/
abbrev zRule : Value := .agg #[.int .i64 0, .int .i64 0, .slice none 0 0]

end Go.Proofs.YthnkdiejmclmkaaDoor

namespace Go.Proofs.YthnkdiejmclmkaaDoor
open Go.RowKit
set_option maxRecDepth 100000

end Go.Proofs.YthnkdiejmclmkaaDoor

namespace Go.Proofs.YthnkdiejmclmkaaDoor
open Go.RowKit
set_option maxRecDepth 100000

theorem ValsAt.shape {w : World} {v : Value} {vs : List Value} (h : ValsAt w v vs) : ∃ a n c, v = .slice a n c := by
  obtain ⟨a, cap, e, _⟩ := h; exact ⟨_, _, _, e⟩
theorem cell_keep {w w' : World} {b i : Nat} {x : Value} (hb : Below w.heap.size w w') (h : w.cell? ⟨b, i, none⟩ = some x) : w'.cell? ⟨b, i, none⟩ = some x :=
  (hb.cell (p := ⟨b, i, none⟩) (World.block_lt_of_cell? _ _ h)).trans h
theorem cell_alloc {w : World} {b i : Nat} {x : Value} (h : w.cell? ⟨b, i, none⟩ = some x) (o : Obj) : (w.alloc o).cell? ⟨b, i, none⟩ = some x := cell_keep ((Below.refl _ _).alloc (Nat.le_refl _) _) h
theorem cell_new {w : World} {b : Nat} {x : Value} {T : TypeId} (hb : b = w.heap.size) : (w.alloc (.cells #[x] T)).cell? ⟨b, 0, none⟩ = some x := by subst hb; simp
theorem cell_drew {w : World} {b i : Nat} {x : Value} (h : w.cell? ⟨b, i, none⟩ = some x) : w.drew.cell? ⟨b, i, none⟩ = some x := h

/-- Three cells of a variable of the call's own. -/
def Box3 (w : World) (b : Nat) (x0 x1 x2 : Value) : Prop := (w.cell? ⟨b, 0, none⟩ = some x0 ∧ w.cell? ⟨b, 1, none⟩ = some x1 ∧ w.cell? ⟨b, 2, none⟩ = some x2) ∧ w.frozen? ⟨b, 0, none⟩ = false ∧ w.frozen? ⟨b, 1, none⟩ = false ∧ w.frozen? ⟨b, 2, none⟩ = false
theorem Box3.below {w w' : World} {b : Nat} {x0 x1 x2 : Value} (h : Box3 w b x0 x1 x2) (hb : Below w.heap.size w w') : Box3 w' b x0 x1 x2 := by
  obtain ⟨⟨h0, h1, h2⟩, f0, f1, f2⟩ := h
  have hlt := World.block_lt_of_cell? _ _ h0
  exact ⟨⟨cell_keep hb h0, cell_keep hb h1, cell_keep hb h2⟩, (hb.frozen (p := ⟨b, 0, none⟩) hlt).trans f0, (hb.frozen (p := ⟨b, 1, none⟩) hlt).trans f1, (hb.frozen (p := ⟨b, 2, none⟩) hlt).trans f2⟩
theorem Box3.alloc {w : World} {b : Nat} {x0 x1 x2 : Value} (h : Box3 w b x0 x1 x2) (o : Obj) : Box3 (w.alloc o) b x0 x1 x2 := h.below ((Below.refl _ _).alloc (Nat.le_refl _) _)
theorem Box3.drew {w : World} {b : Nat} {x0 x1 x2 : Value} (h : Box3 w b x0 x1 x2) : Box3 w.drew b x0 x1 x2 := h
theorem OwnV.drew {E : TypeId} {B : Nat} {w : World} {v : Value} {vs : List Value} (h : OwnV E B w v vs) : OwnV E B w.drew v vs := h
theorem Below.allocL {w w' : World} (h : Below w.heap.size w w') (o : Obj) : Below w.heap.size w (w'.alloc o) := h.alloc h.size o
theorem Below.stepL {w1 w2 w3 : World} (h : Below w1.heap.size w1 w2) (k : Below w2.heap.size w2 w3) : Below w1.heap.size w1 w3 := h.trans (k.mono h.size)
theorem belowAlloc' (w : World) (o : Obj) : Below w.heap.size w (w.alloc o) := (Below.refl _ _).alloc (Nat.le_refl _) _
theorem Below.drewL {w w' : World} {n : Nat} (h : Below n w w') : Below n w w'.drew := h.drew

end Go.Proofs.YthnkdiejmclmkaaDoor

namespace Go.Proofs.YthnkdiejmclmkaaDoor
open Go.RowKit Go.Extern.Stop Go.Stop Go.Extern
set_option maxRecDepth 100000
namespace Errs

theorem comparableE (w : World) : ((ReflectliteType.method fun t => do Rtype.noPackHeld "Comparable" t; (fun a => Value.bool a.comparable) <$> typeInfo t) #[.agg #[.pointer (some ⟨12, 168, none⟩)]]).run Tryd.prog w = .ok (.bool true) w := by kernel_rfl
theorem compE : (Tryd.prog.info? 168).map (·.comparable) = some true := by kernel_rfl
theorem sizeE : (Tryd.prog.info? 185).map (·.size) = some 1 := by kernel_rfl
theorem uErr : Tryd.prog.underlying 27 = some (.interface #[("Error", 169)]) := by kernel_rfl
theorem uES : Tryd.prog.underlying 168 = some (.pointer 185) := by kernel_rfl
end Errs
end Go.Proofs.YthnkdiejmclmkaaDoor

namespace Go.Proofs.YthnkdiejmclmkaaDoor
open Go.RowKit Go.Extern.Stop Go.Stop Go.Extern
set_option maxRecDepth 100000
namespace Errs

/-! errors.As at a Fault: the target a *api.Fault variable. -/
theorem uF : Tryd.prog.underlying 104 = some (.pointer 106) := by kernel_rfl
theorem kindF (w : World) : ((ReflectliteType.abiMethod fun t => (fun a : Nat => Value.int IntKind.u8 (a : Int)) <$> Rtype.kind t) #[.pointer (some ⟨12, 104, none⟩)]).run Tryd.prog w = .ok (.int .u8 22) w := by kernel_rfl
theorem rlm (z : Sem Value) (f : TypeId → Addr → Nat → Nat → Sem Value) (v : Value) :
    ReflectliteValue.method z f #[v] = (do match ← ReflectliteValue.parts v with | none => z | some (t, a, fl) => f t a fl (fl % 32)) := rfl
theorem valueOfF (e : Addr) (w : World) : (ReflectliteValue.unpack (.iface 104 (.pointer (some e)))).run Tryd.prog w
    = .ok (.agg #[.pointer (some ⟨12, 104, none⟩), .pointer (some ⟨w.heap.size, 0, none⟩), .int .u64 150]) (w.alloc (.cells #[.pointer (some e)] 104)) := by kernel_rfl
theorem mkF (p : Addr) (w : World) : (ReflectliteValue.mk 104 p ReflectliteValue.flagAddr).run Tryd.prog w = .ok (.agg #[.pointer (some ⟨12, 104, none⟩), .pointer (some p), .int .u64 406]) w := by kernel_rfl
theorem rls (v x : Value) : ReflectliteValue.set #[v, x] = (do
    let (some (dst, a, fl), some (src, b, _)) := (← ReflectliteValue.parts v, ← ReflectliteValue.parts x)
      | unsupported (.noEntry "extern/(internal/reflectlite.Value).Set.zeroValue")
    if fl / ReflectliteValue.flagAddr % 2 == 0 then unsupported (.noEntry "extern/(internal/reflectlite.Value).Set.unaddressable")
    let val ← loadVar src b
    if ← Rtype.directlyAssignable dst src then storeVar dst a val
    else if ← Rtype.implements dst src then
      if (← Rtype.kind src) == 20 then
        match val with
        | .nilIface => unsupported (.noEntry "extern/reflectlite: a nil value of one interface type handed on as a value of another")
        | _ => storeVar dst a val
      else storeVar dst a (.iface src val)
    else panicString ("reflectlite.Set: value of type " ++ (← Rtype.spelt src) ++ " is not assignable to type " ++ (← Rtype.spelt dst))
    pure (.tuple #[])) := rfl
theorem partsFa (a : Addr) (w : World) : (ReflectliteValue.parts (.agg #[.pointer (some ⟨12, 104, none⟩), .pointer (some a), .int .u64 406])).run Tryd.prog w = .ok (some (104, a, 406)) w := by kernel_rfl
theorem partsF (a : Addr) (w : World) : (ReflectliteValue.parts (.agg #[.pointer (some ⟨12, 104, none⟩), .pointer (some a), .int .u64 150])).run Tryd.prog w = .ok (some (104, a, 150)) w := by kernel_rfl
theorem directF (w : World) : (Rtype.directlyAssignable 104 104).run Tryd.prog w = .ok true w := by kernel_rfl
theorem setF (ta b e : Addr) (old : Value) (W : World) (hb : W.cell? b = some (.pointer (some e))) (ht : W.cell? ta = some old) (hf : W.frozen? ta = false) :
    (ReflectliteValue.set #[.agg #[.pointer (some ⟨12, 104, none⟩), .pointer (some ta), .int .u64 406], .agg #[.pointer (some ⟨12, 104, none⟩), .pointer (some b), .int .u64 150]]).run Tryd.prog W
      = .ok (.tuple #[]) (W.setCell ta (.pointer (some e))) := by
  rw [rls]
  simp only [Sem.run_bind, partsFa, partsF, Result.andThen]
  simp [ReflectliteValue.flagAddr, loadVar, isAgg, underlying, hb, Result.andThen, directF, storeVar, Value.cells, storeCells, Addr.add]
  rw [run_store Tryd.prog W ta _ _ (by rfl)]
  simp [ht, hf]

end Errs
end Go.Proofs.YthnkdiejmclmkaaDoor

namespace Go.Proofs.YthnkdiejmclmkaaDoor
open Go.RowKit Go.Extern.Stop Go.Stop Go.Extern
set_option maxRecDepth 100000
namespace Errs
end Errs
end Go.Proofs.YthnkdiejmclmkaaDoor

namespace Go.Proofs.YthnkdiejmclmkaaDoor
open Go.RowKit
set_option maxRecDepth 100000

/-- An error's number and length are as every error's. -/
def PErr.Fine (t : PErr) : Prop := match t with | none => True | some (n, l) => 1 ≤ n ∧ n ≤ 11 ∧ l.length ≤ 1000

theorem takeD {P : Program} {ops : Array Oper} {Q : Exit → Act → World → Prop} {md : Region.Mode} {S : World → Prop} {i : Nat} {oi : Oper} {v : Value} {fuel : Nat} {listed : Array Bool} {a : Act} {w : World} (d : Option Tmp) (hi : ops[i]? = some oi) (hd : oi.dst = d)
    (hs : Region.noSelect ops = true) (hf : Region.free md ops listed i = true) (hr : (Region.ready md ops listed).contains i = true)
    (hQ : ∀ c a w, Q (.panic c) (a.put d v) w → Q (.panic c) a w) (hy : YieldsIf P ops S oi v a) (hS : S w)
    (h : wpAnyH P md ops Q S fuel (listed.setIfInBounds i true) (a.put d v) w) : wpAnyH P md ops Q S (fuel + 1) listed a w := by
  subst hd
  exact wpAnyH_take hi hs hf hr hQ hy hS h

theorem takeA {P : Program} {ops : Array Oper} {Q : Exit → Act → World → Prop} {md : Region.Mode} {i : Nat} {oi : Oper} {v : Value} {fuel : Nat} {listed : Array Bool} {a : Act} {w : World} (d : Option Tmp) (hi : ops[i]? = some oi) (hd : oi.dst = d)
    (hs : Region.noSelect ops = true) (hf : Region.free md ops listed i = true) (hr : (Region.ready md ops listed).contains i = true)
    (hQ : ∀ c a w, Q (.panic c) (a.put d v) w → Q (.panic c) a w) (hy : Yields P ops oi v a)
    (h : wpAny P md ops Q fuel (listed.setIfInBounds i true) (a.put d v) w) : wpAny P md ops Q (fuel + 1) listed a w := by
  subst hd
  exact wpAny_take hi hs hf hr hQ hy h

end Go.Proofs.YthnkdiejmclmkaaDoor

namespace Go.Proofs.YthnkdiejmclmkaaDoor

theorem sumRow_getD (K : Nat) (x y : Int) (s n : Nat) (h : n < s) : (sumRow K x y s).getD n 0 = (y + x * n) % K := by
  simp [sumRow, List.getD, h]

theorem sumStep_getD {K : Nat} (hK : 1 ≤ K) (x : Int) : ∀ (T : List Int) (i : Nat), i < T.length * K → (sumStep K x T).getD i 0 = (T.getD (i / K) 0 + x * (i % K : Nat)) % K
  | [], i, h => by simp at h
  | y :: T, i, h => by
    have e : sumStep K x (y :: T) = sumRow K x y K ++ sumStep K x T := rfl
    rw [e]
    by_cases hi : i < K
    · rw [show (sumRow K x y K ++ sumStep K x T).getD i 0 = (sumRow K x y K).getD i 0 by
        simp only [List.getD]; rw [List.getElem?_append_left (by rw [sumRow_length]; exact hi)]]
      rw [sumRow_getD K x y K i hi, Nat.div_eq_of_lt hi, Nat.mod_eq_of_lt hi]
      rfl
    · have hi' : i - K < T.length * K := by rw [List.length_cons, Nat.succ_mul] at h; omega
      rw [show (sumRow K x y K ++ sumStep K x T).getD i 0 = (sumStep K x T).getD (i - K) 0 by
        simp only [List.getD]; rw [List.getElem?_append_right (by rw [sumRow_length]; omega), sumRow_length]]
      rw [sumStep_getD hK x T (i - K) hi']
      have h1 : i / K = (i - K) / K + 1 := by
        rw [show i = (i - K) + K by omega, Nat.add_div_right _ (by omega), Nat.add_sub_cancel]
      have h2 : i % K = (i - K) % K := Nat.mod_eq_sub_mod (by omega)
      rw [h1, h2]
      simp [List.getD]

theorem sumT_snoc (K : Nat) (f : List Int) (x : Int) : sumT K (f ++ [x]) = sumStep K x (sumT K f) := sumTable_snoc ..

/-- An entry of a sum's table, by the window's last symbol. -/
theorem sumT_getD {K : Nat} (hK : 1 ≤ K) (f : List Int) (x : Int) (i : Nat) (h : i < pw K (f.length + 1)) :
    (sumT K (f ++ [x])).getD i 0 = ((sumT K f).getD (i / K) 0 + x * (i % K : Nat)) % K := by
  rw [sumT_snoc]
  refine sumStep_getD hK x _ i ?_
  rw [sumT_length, ← pw_succ]; exact h

theorem snoc_ind {P : List Int → Prop} (h0 : P []) (h1 : ∀ f x, P f → P (f ++ [x])) (f : List Int) : P f := by
  have : P f.reverse.reverse := by
    induction f.reverse with
    | nil => exact h0
    | cons x g ih => rw [List.reverse_cons]; exact h1 _ _ ih
  simpa using this

theorem sumT_zero {K : Nat} (hK : 1 ≤ K) (f : List Int) : (sumT K f).getD 0 0 = 0 := by
  refine snoc_ind (P := fun f => (sumT K f).getD 0 0 = 0) rfl (fun f x ih => ?_) f
  rw [sumT_getD hK f x 0 (pw_pos _ hK), Nat.zero_div, ih]
  simp

theorem emod_addMul {a b : Int} {K : Nat} : (a % K + b) % K = (a + b) % K := by simp [Int.add_emod]

theorem sumT_range {K : Nat} (hK : 1 ≤ K) (f : List Int) (i : Nat) : 0 ≤ (sumT K f).getD i 0 ∧ (sumT K f).getD i 0 < K := by
  by_cases h : i < (sumT K f).length
  · simp only [List.getD, List.getElem?_eq_getElem h, Option.getD_some]
    exact sumT_syms hK f _ (by simp)
  · simp only [List.getD, List.getElem?_eq_none (Nat.le_of_not_lt h), Option.getD_none]
    omega

/-- The windows with a single 1 tell the factors. -/
theorem sumT_pw {K : Nat} (hK : 1 < K) (f : List Int) : ∀ t, t < f.length → (sumT K f).getD (pw K t) 0 = f.getD (f.length - 1 - t) 0 % K := by
  refine snoc_ind (P := fun f => ∀ t, t < f.length → (sumT K f).getD (pw K t) 0 = f.getD (f.length - 1 - t) 0 % K) (by intro t h; simp at h) (fun f x ih => ?_) f
  intro t ht
  rw [List.length_append, List.length_singleton] at ht
  rw [sumT_getD (by omega) f x _ (pw_lt hK ht)]
  cases t with
  | zero =>
    rw [pw_zero, Nat.div_eq_of_lt hK, Nat.mod_eq_of_lt hK, sumT_zero (by omega)]
    simp [List.getD]
  | succ t =>
    rw [pw_succ, Nat.mul_div_cancel _ (by omega), Nat.mul_mod_left, ih t (by omega)]
    have : (f ++ [x]).getD ((f ++ [x]).length - 1 - (t + 1)) 0 = f.getD (f.length - 1 - t) 0 := by
      simp only [List.getD, List.length_append, List.length_singleton]
      rw [show f.length + 1 - 1 - (t + 1) = f.length - 1 - t by omega, List.getElem?_append_left (by omega)]
    rw [this]
    simp

/-- Window i is one with its first symbol less by one, and the window with a single 1 there. -/
theorem sumT_add {K : Nat} (hK : 1 < K) (f : List Int) : ∀ t x, x % K ≠ 0 → x * pw K t < pw K f.length →
    (sumT K f).getD (x * pw K t) 0 = ((sumT K f).getD (x * pw K t - pw K t) 0 + (sumT K f).getD (pw K t) 0) % K := by
  refine snoc_ind (P := fun f => ∀ t x, x % K ≠ 0 → x * pw K t < pw K f.length →
    (sumT K f).getD (x * pw K t) 0 = ((sumT K f).getD (x * pw K t - pw K t) 0 + (sumT K f).getD (pw K t) 0) % K) ?_ (fun f y ih => ?_) f
  · intro t x hx h
    have : x ≠ 0 := by intro e; subst e; simp at hx
    have h1 := pw_pos t (show 1 ≤ K by omega)
    have : 1 * 1 ≤ x * pw K t := Nat.mul_le_mul (by omega) h1
    simp only [List.length_nil, pw_zero] at h
    omega
  · intro t x hx h
    have hx0 : x ≠ 0 := by intro e; subst e; simp at hx
    rw [List.length_append, List.length_singleton] at h
    have hp := pw_pos t (show 1 ≤ K by omega)
    have hle : pw K t ≤ x * pw K t := Nat.le_mul_of_pos_left _ (by omega)
    rw [sumT_getD (by omega) f y _ h, sumT_getD (by omega) f y _ (show x * pw K t - pw K t < _ by omega), sumT_getD (by omega) f y _ (show pw K t < _ by omega)]
    cases t with
    | zero =>
      rw [pw_zero, Nat.mul_one]
      have h1 : (x - 1) / K = x / K ∧ (x - 1) % K = x % K - 1 := by
        have hd := Nat.div_add_mod x K
        have hl := Nat.mod_lt x (show 0 < K by omega)
        have e : x - 1 = (x % K - 1) + K * (x / K) := by omega
        rw [e, Nat.add_mul_div_left _ _ (by omega), Nat.add_mul_mod_self_left, Nat.div_eq_of_lt (by omega), Nat.mod_eq_of_lt (by omega)]
        omega
      rw [h1.1, h1.2, Nat.div_eq_of_lt hK, Nat.mod_eq_of_lt hK, sumT_zero (by omega)]
      rw [← Int.add_emod]
      congr 1
      have : ((x % K - 1 : Nat) : Int) = ((x % K : Nat) : Int) - 1 := by omega
      rw [this, Int.mul_sub]
      simp
      omega
    | succ t =>
      have hh : x * pw K t < pw K f.length := by
        rw [pw_succ, pw_succ, ← Nat.mul_assoc] at h
        exact Nat.lt_of_mul_lt_mul_right h
      have e := ih t x hx hh
      rw [pw_succ, ← Nat.mul_assoc, ← Nat.sub_mul, Nat.mul_div_cancel _ (by omega), Nat.mul_div_cancel _ (by omega), Nat.mul_div_cancel _ (by omega), Nat.mul_mod_left, Nat.mul_mod_left, Nat.mul_mod_left, e]
      simp

/-- What the law asks of window i; and that it does not hold. -/
def Good (K : Nat) (T : List Int) (i : Nat) : Prop := (i = 0 ∧ T.getD 0 0 = 0) ∨ ∃ t x, x * pw K t = i ∧ x % K ≠ 0 ∧ T.getD i 0 = (T.getD (i - pw K t) 0 + T.getD (pw K t) 0) % K
def Bad (K : Nat) (T : List Int) (i : Nat) : Prop := (i = 0 ∧ T.getD 0 0 ≠ 0) ∨ ∃ t x, x * pw K t = i ∧ x % K ≠ 0 ∧ T.getD i 0 ≠ (T.getD (i - pw K t) 0 + T.getD (pw K t) 0) % K

theorem not_sum_of_bad {K R : Nat} {T : List Int} (h : RuleOk K R T) (i : Nat) (hi : i < T.length) (hb : Bad K T i) : isSum K R T = false := by
  have hk := h.k1
  rw [isSum, decide_eq_false_iff_not]
  intro e
  have hlen : T.length = pw K (facs K R T).length := by rw [facs_length, h.len]
  rcases hb with ⟨_, h0⟩ | ⟨t, x, hx, hxK, hne⟩
  · apply h0
    rw [← e]; exact sumT_zero hk _
  · by_cases hK : 1 < K
    · apply hne
      rw [← e, ← hx]
      exact sumT_add hK _ t x hxK (by rw [hx, ← hlen]; exact hi)
    · have : K = 1 := by omega
      subst this
      simp [Nat.mod_one] at hxK

theorem facs_getD {K R : Nat} {T : List Int} (hK : 1 < K) (t : Nat) (ht : t < 2 * R + 1) : (facs K R T).getD (2 * R + 1 - 1 - t) 0 = T.getD (pw K t) 0 := by
  unfold facs facI
  rw [if_pos hK]
  simp only [facL, List.getD]
  rw [List.getElem?_map, List.getElem?_range (by omega)]
  simp only [Option.map_some, Option.getD_some]
  rw [if_pos (by omega)]
  rw [show 2 * R + 1 - 1 - (2 * R + 1 - 1 - t) = t by omega]

theorem sum_of_good {K R : Nat} {T : List Int} (h : RuleOk K R T) (hg : ∀ i, i < T.length → Good K T i) : isSum K R T = true := by
  have hk := h.k1
  rw [isSum, decide_eq_true_iff]
  have hlen : (sumT K (facs K R T)).length = T.length := by rw [sumT_length, facs_length, h.len]
  have rng : ∀ i, 0 ≤ T.getD i 0 ∧ T.getD i 0 < K := by
    intro i
    by_cases hi : i < T.length
    · simp only [List.getD, List.getElem?_eq_getElem hi, Option.getD_some]
      exact h.syms _ (by simp)
    · simp only [List.getD, List.getElem?_eq_none (Nat.le_of_not_lt hi), Option.getD_none]
      omega
  have hpow : 1 < K → ∀ t, t < 2 * R + 1 → (sumT K (facs K R T)).getD (pw K t) 0 = T.getD (pw K t) 0 := by
    intro hK t ht
    rw [sumT_pw hK _ t (by rw [facs_length]; exact ht), facs_length, facs_getD hK t ht]
    exact Int.emod_eq_of_lt (rng _).1 (rng _).2
  have key : ∀ n i, i < n → i < T.length → (sumT K (facs K R T)).getD i 0 = T.getD i 0 := by
    intro n
    induction n with
    | zero => intro i hi; omega
    | succ n ih =>
      intro i hin hi
      rcases hg i hi with ⟨rfl, h0⟩ | ⟨t, x, hx, hxK, he⟩
      · rw [h0]; exact sumT_zero hk _
      · by_cases hK : 1 < K
        · have hx0 : x ≠ 0 := by intro e; subst e; simp at hxK
          have hp := pw_pos t hk
          have hle : pw K t ≤ x * pw K t := Nat.le_mul_of_pos_left _ (by omega)
          have ht : t < 2 * R + 1 := by
            by_cases c : t < 2 * R + 1
            · exact c
            · have := pw_mono (i := 2 * R + 1) (j := t) hk (by omega)
              have := h.len
              omega
          have e1 := sumT_add hK (facs K R T) t x hxK (by rw [hx, facs_length, ← h.len]; exact hi)
          rw [hx] at e1
          rw [e1, he, ih (i - pw K t) (by omega) (by omega), hpow hK t ht]
        · have : K = 1 := by omega
          subst this
          simp [Nat.mod_one] at hxK
  refine List.ext_getElem hlen fun i h1 h2 => ?_
  have := key (i + 1) i (by omega) h2
  simpa [List.getD, h1, h2] using this

/-- The factors of a sum are those that it was made of. -/
theorem facs_sumT {K R : Nat} {f : List Int} (hK : 1 < K) (hl : f.length = 2 * R + 1) (hs : Syms K f) : facs K R (sumT K f) = f := by
  refine List.ext_getElem (by rw [facs_length, hl]) fun i h1 h2 => ?_
  have hi : i < 2 * R + 1 := by omega
  have e1 := facs_getD (K := K) (R := R) (T := sumT K f) hK (2 * R + 1 - 1 - i) (by omega)
  rw [show 2 * R + 1 - 1 - (2 * R + 1 - 1 - i) = i by omega, sumT_pw hK f _ (by omega), hl] at e1
  rw [show 2 * R + 1 - 1 - (2 * R + 1 - 1 - i) = i by omega] at e1
  have hb := hs.getD (by omega) i
  rw [Int.emod_eq_of_lt hb.1 hb.2] at e1
  simpa [List.getD, h1, h2] using e1
theorem isSum_sumT {K R : Nat} {f : List Int} (hK : 1 < K) (hl : f.length = 2 * R + 1) (hs : Syms K f) : isSum K R (sumT K f) = true := by
  rw [isSum, facs_sumT hK hl hs]; simp

theorem mulAll_one {K : Nat} {a : List Int} (hs : Syms K a) : ∀ i, i ≤ a.length → mulAll K a [1] i = a.take i ++ List.replicate (a.length - i) 0
  | 0, _ => by simp [mulAll]
  | i + 1, h => by
    rw [mulAll, mulAll_one hs i (by omega)]
    have hi : i < a.length := by omega
    have hx := hs (a[i]) (by simp)
    have hl : (a.take i).length = i := by simp; omega
    show addAt K (a.take i ++ List.replicate (a.length - i) 0) (i + 0) (a.getD i 0 * 1) = _
    have e : a.getD i 0 = a[i] := by simp [List.getD, hi]
    have hrep : List.replicate (a.length - i) (0 : Int) = 0 :: List.replicate (a.length - (i + 1)) 0 := by
      rw [show a.length - i = (a.length - (i + 1)) + 1 by omega, List.replicate_succ]
    have hg : (a.take i ++ List.replicate (a.length - i) (0 : Int)).getD (i + 0) 0 = 0 := by
      rw [hrep]
      simp only [List.getD, Nat.add_zero]
      rw [List.getElem?_append_right (by omega), hl]
      simp
    rw [addAt, hg, e, Int.mul_one, Int.zero_add, Int.emod_eq_of_lt hx.1 hx.2, hrep, List.take_succ_eq_append_getElem hi]
    rw [List.set_append_right _ _ (by omega), hl]
    simp only [Nat.add_zero, Nat.sub_self, List.set_cons_zero, List.append_assoc, List.singleton_append]
theorem mulL_one {K : Nat} {a : List Int} (hs : Syms K a) : mulL K a [1] = a := by
  rw [mulL, mulAll_one hs _ (Nat.le_refl _)]; simp

theorem makeP_none {k R : Int} {f : List Int} (h : makeP k R f = none) : ∃ K Q : Nat, k = K ∧ R = Q ∧ 1 ≤ K ∧ K ≤ 4 ∧ Q ≤ 3 ∧ f.length = 2 * Q + 1 ∧ Syms K f := by
  unfold makeP at h
  by_cases h1 : k < 1 ∨ 4 < k ∨ R < 0 ∨ 3 < R
  · rw [if_pos h1] at h; cases h
  rw [if_neg h1] at h
  by_cases h2 : (f.length : Int) ≠ 2 * R + 1
  · rw [if_pos h2] at h; cases h
  rw [if_neg h2] at h
  refine ⟨k.toNat, R.toNat, by omega, by omega, by omega, by omega, by omega, by omega, ?_⟩
  rw [show ((k.toNat : Nat) : Int) = k by omega]
  exact numP_none h
theorem oddP_mk {Q : Nat} (h : Q ≤ 3) : oddP (2 * Q + 1) = true := by
  simp [oddP]; omega
theorem factP_of {K : Nat} {f : List Int} (h1 : 1 ≤ K) (h4 : K ≤ 4) (ho : oddP f.length = true) (hs : Syms K f) : factP K f = none := by
  rw [factP, if_neg (by omega), ho, if_neg (by decide), hs.num]
theorem mulP_one {K : Nat} {f : List Int} (h1 : 1 < K) (h4 : K ≤ 4) (ho : oddP f.length = true) (hs : Syms K f) : mulP K f [1] = none := by
  have h1' : Syms K [1] := by intro x hx; simp at hx; omega
  simp only [mulP, factP_of (by omega) h4 ho hs, h1'.num, List.length_singleton, Nat.add_sub_cancel, ho]
  decide
end Go.Proofs.YthnkdiejmclmkaaDoor

namespace Go.Proofs.YthnkdiejmclmkaaDoor

theorem Sm_add (f g : Nat → Int) (n : Nat) : Sm (fun i => f i + g i) n = Sm f n + Sm g n := by
  induction n with
  | zero => rfl
  | succ n ih => rw [Sm, Sm, Sm, ih]; omega
theorem Sm_swap (f : Nat → Nat → Int) (n m : Nat) : Sm (fun i => Sm (f i) m) n = Sm (fun j => Sm (fun i => f i j) n) m := by
  induction n with
  | zero => rw [Sm, Sm_zero]; intro _ _; rfl
  | succ n ih => rw [Sm, ih, ← Sm_add]; exact Sm_congr _ fun i _ => rfl
theorem Sm_mulL (c : Int) (f : Nat → Int) (n : Nat) : Sm (fun i => c * f i) n = c * Sm f n := by
  induction n with
  | zero => simp [Sm]
  | succ n ih => rw [Sm, Sm, ih, Int.mul_add]
theorem Sm_delta (f : Nat → Int) (p n : Nat) : Sm (fun i => f i * (if i = p then 1 else 0)) n = if p < n then f p else 0 := by
  induction n with
  | zero => simp [Sm]
  | succ n ih =>
    rw [Sm, ih]
    by_cases e : n = p
    · subst e; simp
    · rw [if_neg e]
      by_cases c : p < n
      · rw [if_pos c, if_pos (by omega)]; omega
      · rw [if_neg c, if_neg (by omega)]; omega

theorem mulL_at (K : Nat) (hK : 1 ≤ K) (a b : List Int) (hb : 1 ≤ b.length) (p : Nat) (hp : p < a.length + b.length - 1) :
    (mulL K a b).getD p 0 = Sm (fun i => Sm (fun j => a.getD i 0 * b.getD j 0 * (if i + j = p then 1 else 0)) b.length) a.length % K := by
  have h := mulAll_sum K a b (fun t => if t = p then 1 else 0) hb a.length (Nat.le_refl _)
  rw [Sm_delta (fun t => (mulAll K a b a.length).getD t 0) p, if_pos hp] at h
  have hr := (mulAll_syms hK a b a.length).getD (by omega) p
  rw [Int.emod_eq_of_lt hr.1 hr.2] at h
  rw [mulL, h]
  congr 1
  refine Sm_congr _ fun i _ => ?_
  rw [← Sm_mulL]
  refine Sm_congr _ fun j _ => ?_
  rw [Int.mul_assoc]

/-- A product may be turned. -/
theorem mulL_comm (K : Nat) (hK : 1 ≤ K) (a b : List Int) (ha : 1 ≤ a.length) (hb : 1 ≤ b.length) : mulL K a b = mulL K b a := by
  have l1 := mulL_length K a b
  have l2 := mulL_length K b a
  refine List.ext_getElem (by omega) fun p h1 h2 => ?_
  have e1 := mulL_at K hK a b hb p (by omega)
  have e2 := mulL_at K hK b a ha p (by omega)
  rw [Sm_swap] at e2
  have : (mulL K a b).getD p 0 = (mulL K b a).getD p 0 := by
    rw [e1, e2]
    congr 1
    refine Sm_congr _ fun i _ => Sm_congr _ fun j _ => ?_
    rw [Int.mul_comm (a.getD i 0), Nat.add_comm]
  simpa [List.getD, h1, h2] using this

theorem facs_sumT1 {K R : Nat} {f : List Int} (hK : 1 ≤ K) (hl : f.length = 2 * R + 1) (hs : Syms K f) : facs K R (sumT K f) = f := by
  by_cases h : 1 < K
  · exact facs_sumT h hl hs
  · obtain rfl : K = 1 := by omega
    have e : f = List.replicate (2 * R + 1) 0 := List.eq_replicate_iff.2 ⟨hl, fun x hx => by have := hs x hx; omega⟩
    simp only [facs, facI, Nat.lt_irrefl, if_false]
    exact e.symm
theorem isSum_sumT1 {K R : Nat} {f : List Int} (hK : 1 ≤ K) (hl : f.length = 2 * R + 1) (hs : Syms K f) : isSum K R (sumT K f) = true := by
  rw [isSum, facs_sumT1 hK hl hs]; simp

/-- Factors taken modulo k. -/
def modL (K : Nat) (f : List Int) (n : Nat) : List Int := (f.take n).map (· % (K : Int))
theorem modL_length (K : Nat) (f : List Int) (n : Nat) (h : n ≤ f.length) : (modL K f n).length = n := by simp [modL]; omega
theorem modL_syms {K : Nat} (hK : 1 ≤ K) (f : List Int) (n : Nat) : Syms K (modL K f n) := by
  intro x hx
  obtain ⟨y, _, rfl⟩ := List.mem_map.1 hx
  exact ⟨Int.emod_nonneg _ (by omega), Int.emod_lt_of_pos _ (by omega)⟩
theorem modL_succ (K : Nat) (f : List Int) (j : Nat) (h : j < f.length) : modL K f (j + 1) = modL K f j ++ [f[j] % (K : Int)] := by
  rw [modL, modL, take_snoc f j h, List.map_append]; rfl
/-- Being filled. -/
def modF (K : Nat) (f : List Int) (n j : Nat) : List Int := modL K f j ++ List.replicate (n - j) 0
theorem modF_length (K : Nat) (f : List Int) (n j : Nat) (hn : n ≤ f.length) (h : j ≤ n) : (modF K f n j).length = n := by
  rw [modF, List.length_append, modL_length K f j (by omega), List.length_replicate]; omega
theorem modF_set (K : Nat) (f : List Int) (n j : Nat) (hn : n ≤ f.length) (h : j < n) : (modF K f n j).set j (f[j]'(by omega) % (K : Int)) = modF K f n (j + 1) := by
  have hl := modL_length K f j (by omega)
  rw [modF, List.set_append_right _ _ (by omega), hl, Nat.sub_self, show n - j = (n - (j + 1)) + 1 by omega, List.replicate_succ, List.set_cons_zero, modF, modL_succ K f j (by omega), List.append_assoc]
  rfl
theorem tmod_twice {x : Int} {K : Nat} (hK : 1 ≤ K) : (x.tmod K + K).tmod K = x % K ∧ -4 * (K : Int) ≤ x.tmod K ∧ x.tmod K < K := by
  have h1 : -(K : Int) < x.tmod K := by have := Int.lt_tmod_of_pos x (show (0 : Int) < K by omega); omega
  have h2 : x.tmod K < K := Int.tmod_lt_of_pos x (by omega)
  refine ⟨?_, by omega, h2⟩
  rw [Int.tmod_eq_emod_of_nonneg (by omega)]
  have h3 := Int.mul_tdiv_add_tmod x K
  have h4 : x.tmod K = x - K * x.tdiv K := by omega
  rw [h4, show x - (K : Int) * x.tdiv K + K = x + K * (1 - x.tdiv K) by rw [Int.mul_sub]; omega, Int.add_mul_emod_self_left]
end Go.Proofs.YthnkdiejmclmkaaDoor

namespace Go.Proofs.YthnkdiejmclmkaaDoor

/-- The reference's symbol of window i. -/
def sumR (K : Nat) (f : List Int) (i : Nat) : Int := Sm (fun j => f.getD j 0 * (digs K f.length i).getD j 0) f.length % K
theorem sumT_range_eq {K : Nat} (hK : 1 ≤ K) (f : List Int) : sumT K f = (List.range (pw K f.length)).map (sumR K f) := by
  refine List.ext_getElem (by simp [sumT_length]) fun i h1 h2 => ?_
  have hi : i < pw K f.length := by rw [← sumT_length]; exact h1
  have h := sumT_at K f (digs K f.length i) (digs_length ..).symm (digs_syms hK _ _)
  rw [numW_digs hK _ _ hi] at h
  simp only [List.getElem_map, List.getElem_range]
  rw [sumR, ← h]
  simp [List.getD, h1]
theorem Sm_bound {K : Nat} (h4 : K ≤ 4) (u v : Nat → Int) (hu : ∀ j, 0 ≤ u j ∧ u j < K) (hv : ∀ j, 0 ≤ v j ∧ v j < K) (n : Nat) : 0 ≤ Sm (fun j => u j * v j) n ∧ Sm (fun j => u j * v j) n ≤ 9 * n := by
  induction n with
  | zero => simp [Sm]
  | succ n ih =>
    rw [Sm]
    have h1 := hu n
    have h2 := hv n
    have h3 : 0 ≤ u n * v n := Int.mul_nonneg h1.1 h2.1
    have h5 : u n * v n ≤ 3 * 3 := Int.mul_le_mul (by omega) (by omega) h2.1 (by omega)
    omega
theorem prod_bound {K : Nat} (h4 : K ≤ 4) {x y : Int} (hx : 0 ≤ x ∧ x < K) (hy : 0 ≤ y ∧ y < K) : 0 ≤ x * y ∧ x * y ≤ 9 := by
  have h5 : x * y ≤ 3 * 3 := Int.mul_le_mul (by omega) (by omega) hy.1 (by omega)
  exact ⟨Int.mul_nonneg hx.1 hy.1, by omega⟩

/-- What the reference tells of a sum: has every word a preimage? -/
def ontoR (k : Int) (f : List Int) : Bool := !((decide (k = 2 ∨ k = 4) && f.all fun x => x % 2 == 0) || (decide (k = 3) && f.all fun x => x % 3 == 0))
theorem cnt_zero (p : Int) (f : List Int) : mayOnto (cnt p f) = !(f.all fun x => x % p == 0) := by
  unfold mayOnto cnt
  induction f with
  | nil => rfl
  | cons x f ih =>
    rw [List.countP_cons, List.all_cons]
    by_cases h : x % p = 0
    · simp [h, ← ih]
    · have : (x % p == 0) = false := by simpa using h
      simp [h, this]
theorem ontoR_eq {k : Int} {f : List Int} : ontoR k f = wholeP mayOnto k f := by
  unfold ontoR wholeP primesP
  by_cases h : k = 2 ∨ k = 4
  · have h3 : ¬ k = 3 := by omega
    rw [if_pos h]
    simp [h, h3, cnt_zero]
  · rw [if_neg h]
    by_cases h3 : k = 3
    · rw [if_pos h3]
      simp [h3, cnt_zero]
    · rw [if_neg h3]
      simp [h, h3]

def allD (d : Nat) (f : List Int) : Bool := f.all fun x => x % (d : Int) == 0
theorem allD_snoc (d : Nat) (f : List Int) (x : Int) : allD d (f ++ [x]) = (allD d f && (x % (d : Int) == 0)) := by simp [allD]
theorem allD_four {f : List Int} (h : allD 4 f = true) : allD 2 f = true := by
  simp only [allD, List.all_eq_true, beq_iff_eq] at *
  intro x hx
  have := h x hx
  omega
theorem ontoR_false {K d : Nat} {f : List Int} (h4 : K ≤ 4) (h2 : 2 ≤ d) (hd : d ≤ K) (hk : K % d = 0) (ha : allD d f = true) : ontoR K f = false := by
  have hc : (K = 2 ∧ d = 2) ∨ (K = 3 ∧ d = 3) ∨ (K = 4 ∧ d = 2) ∨ (K = 4 ∧ d = 4) := by
    have hKc : K = 2 ∨ K = 3 ∨ K = 4 := by omega
    have hdc : d = 2 ∨ d = 3 ∨ d = 4 := by omega
    rcases hKc with rfl | rfl | rfl <;> rcases hdc with rfl | rfl | rfl <;> simp_all
  rcases hc with ⟨rfl, rfl⟩ | ⟨rfl, rfl⟩ | ⟨rfl, rfl⟩ | ⟨rfl, rfl⟩
  · simp only [allD] at ha; simp [ontoR]; simpa using ha
  · simp only [allD] at ha; simp [ontoR]; simpa using ha
  · simp only [allD] at ha; simp [ontoR]; simpa using ha
  · have ha := allD_four ha; simp only [allD] at ha; simp [ontoR]; simpa using ha
theorem ontoR_true {K : Nat} {f : List Int} (h1 : 1 ≤ K) (h4 : K ≤ 4) (h : ∀ d, 2 ≤ d → d ≤ K → ¬ (K % d = 0 ∧ allD d f = true)) : ontoR K f = true := by
  have hc : K = 1 ∨ K = 2 ∨ K = 3 ∨ K = 4 := by omega
  rcases hc with rfl | rfl | rfl | rfl
  · simp [ontoR]
  · have := h 2 (by omega) (by omega)
    simp [allD] at this
    simpa [ontoR] using this
  · have := h 3 (by omega) (by omega)
    simp [allD] at this
    simpa [ontoR] using this
  · have := h 2 (by omega) (by omega)
    simp [allD] at this
    simpa [ontoR] using this
theorem oneR_false {K p : Nat} {f : List Int} (h4 : K ≤ 4) (h1 : 1 ≤ K) (hp : p = 2 ∨ p = 3) (hk : K % p = 0) (hn : cnt p f ≠ 1) : wholeP mayOne K f = false := by
  have hc : (p = 2 ∧ (K = 2 ∨ K = 4)) ∨ (p = 3 ∧ K = 3) := by
    have : K = 1 ∨ K = 2 ∨ K = 3 ∨ K = 4 := by omega
    rcases this with rfl | rfl | rfl | rfl <;> rcases hp with rfl | rfl <;> simp_all
  have hm : mayOne (cnt p f) = false := by simp [mayOne]; omega
  rcases hc with ⟨rfl, rfl | rfl⟩ | ⟨rfl, rfl⟩ <;> simpa [wholeP, primesP] using hm
theorem oneR_true {K : Nat} {f : List Int} (h4 : K ≤ 4) (h1 : 1 ≤ K) (h : ∀ p, p = 2 ∨ p = 3 → K % p = 0 → cnt p f = 1) : wholeP mayOne K f = true := by
  have : K = 1 ∨ K = 2 ∨ K = 3 ∨ K = 4 := by omega
  rcases this with rfl | rfl | rfl | rfl
  · simp [wholeP, primesP]
  · have := h 2 (.inl rfl) rfl; simp [wholeP, primesP, mayOne] at *; omega
  · have := h 3 (.inr rfl) rfl; simp [wholeP, primesP, mayOne] at *; omega
  · have := h 2 (.inl rfl) rfl; simp [wholeP, primesP, mayOne] at *; omega
end Go.Proofs.YthnkdiejmclmkaaDoor

namespace Go.Proofs.YthnkdiejmclmkaaDoor
open Go.RowKit
set_option maxRecDepth 100000

/-- append(s, y) onto a list of one's own, in a region that draws. -/
theorem step_app1 {ops : Array Oper} {o : Oper} {a : Act} {w : World} {K : Act → World → Prop} {Q : Exit → Act → World → Prop} {Ep : Prop} (hgd : o.guard = none) (s x : Operand)
    (ho : o.op = .call { callee := .builtin .append, args := #[s, x], argTypes := #[22, 22] })
    (B : Nat) (v : Value) (xs : List Int) (y : Int) (b : Nat) (hs : a.eval s = v) (hx : a.eval x = .slice (some ⟨b, 0, none⟩) 1 1) (hown : OwnI B w v xs) (hc : w.cell? ⟨b, 0, none⟩ = some (.int .i64 y))
    (hlen : xs.length < 4398046511104) (hB : B ≤ w.heap.size)
    (h : ∀ v' w', OwnI B w' v' (xs ++ [y]) → Below B w w' → K (a.put o.dst v') w') :
    if Region.wanted o (yielded ops a.tmps) = true then Oper.wp Tryd.prog o a w K Q else Ep := by
  have hw : Region.wanted o (yielded ops a.tmps) = true := by simp [Region.wanted, hgd]
  rw [if_pos hw]
  obtain ⟨v', w', hr, h2, h3⟩ := run_app oneInts w B o.type v _ hown.toV ⟨b, 0, none⟩ 1 [.int .i64 y] (by simp) (fun j u hj => by
    obtain ⟨hj1, hj2⟩ := List.getElem?_eq_some_iff.1 hj
    obtain rfl : j = 0 := by simpa using hj1
    simp at hj2; subst hj2
    exact hc) (by simp [Value.oneCell']) (by simp; omega) hB
  rw [show ([.int .i64 y] : List Value).length = 1 from rfl] at hr
  unfold Oper.wp
  simp [execOp, ho, resolve, invoke, builtin, hs, hx, hr, Result.andThen]
  have ho' : OwnI B w' v' (xs ++ [y]) := OwnV.toI (by simpa using h2)
  rcases h3 with ⟨_, hg⟩ | ⟨_, hg⟩
  · exact h v' w' ho' ((Below.refl _ _).grown hg hB (fun k hk => (hown.lt k hk).1))
  · exact h v' w' ho' ((Below.refl _ _).grown hg hB (by intro k hk; cases hk))

theorem Box3.belowB {B : Nat} {w w' : World} {b : Nat} {x0 x1 x2 : Value} (h : Box3 w b x0 x1 x2) (hb : Below B w w') (hlt : b < B) : Box3 w' b x0 x1 x2 := by
  obtain ⟨⟨h0, h1, h2⟩, f0, f1, f2⟩ := h
  exact ⟨⟨(hb.cell (p := ⟨b, 0, none⟩) hlt).trans h0, (hb.cell (p := ⟨b, 1, none⟩) hlt).trans h1, (hb.cell (p := ⟨b, 2, none⟩) hlt).trans h2⟩, (hb.frozen (p := ⟨b, 0, none⟩) hlt).trans f0, (hb.frozen (p := ⟨b, 1, none⟩) hlt).trans f1, (hb.frozen (p := ⟨b, 2, none⟩) hlt).trans f2⟩
theorem Box3.far {w : World} {b b' : Nat} {x0 x1 x2 : Value} (h : Box3 w b x0 x1 x2) (hne : b' ≠ b) (i : Nat) (u : Value) : Box3 (w.setCell ⟨b', i, none⟩ u) b x0 x1 x2 := by
  obtain ⟨⟨h0, h1, h2⟩, f0, f1, f2⟩ := h
  refine ⟨⟨?_, ?_, ?_⟩, ?_, ?_, ?_⟩
  · rw [World.cell?_setCell_far _ _ _ _ hne]; exact h0
  · rw [World.cell?_setCell_far _ _ _ _ hne]; exact h1
  · rw [World.cell?_setCell_far _ _ _ _ hne]; exact h2
  · simpa using f0
  · simpa using f1
  · simpa using f2
theorem Box3.set2 {w : World} {b : Nat} {x0 x1 x2 : Value} (h : Box3 w b x0 x1 x2) (u : Value) : Box3 (w.setCell ⟨b, 2, none⟩ u) b x0 x1 u := by
  obtain ⟨⟨h0, h1, h2⟩, f0, f1, f2⟩ := h
  refine ⟨⟨?_, ?_, World.cell?_setCell_same _ _ _ h2⟩, ?_, ?_, ?_⟩
  · rw [World.cell?_setCell_other _ _ _ _ (by simp)]; exact h0
  · rw [World.cell?_setCell_other _ _ _ _ (by simp)]; exact h1
  · simpa using f0
  · simpa using f1
  · simpa using f2

end Go.Proofs.YthnkdiejmclmkaaDoor

namespace Go.Proofs.YthnkdiejmclmkaaDoor
open Go.RowKit
set_option maxRecDepth 100000

theorem fmirror1_any (K R : Nat) (va : Option Addr) (vn vc : Nat) (T : List Int) (p : Nat) (v : Value) (ys : List Int) (w : World)
    (h : IntsAt w (.slice va vn vc) T) (hr : RuleOk K R T) (hv : IntsAt w v ys) (hy : Syms K ys) (hyl : ys.length = 2 * R + 1)
    (x0 : w.cell? ⟨p, 0, none⟩ = some (.int .i64 K)) (x1 : w.cell? ⟨p, 1, none⟩ = some (.int .i64 R)) (x2 : w.cell? ⟨p, 2, none⟩ = some (.slice va vn vc)) :
    Calls Tryd.prog 36 #[v, .pointer (some ⟨p, 0, none⟩)] w (Ret1 (fun x _ => x = .int .i64 (T.getD (numW K ys.reverse) 0)) w) := by
  have hR := hr.r3
  have hle : ys.length ≤ 7 := by omega
  replace h := Lib.hid h
  replace hv := Lib.hid hv
  replace hy := Lib.hid hy
  replace hyl := Lib.hid hyl
  replace hr := Lib.hid hr
  have yy := Lib.hid (And.intro x0 (And.intro x1 x2))
  clear x0 x1 x2
  generalize hY : T.getD (numW K ys.reverse) 0 = Y
  replace hY := Lib.hid hY
  go_enter Tryd.func36, Tryd.ntmps36
  go_wp2_with fail
  refine (clone_any v ys _ hv.out (by omega)).mono ?_
  rintro e w1 ⟨x, rfl, b1, ho⟩
  have s1 := b1.size
  go_wp2_with fail
  refine (reverse_own _ x ys _ ho (by omega)).mono ?_
  rintro e w2 ⟨rfl, ho2, b2⟩
  have b12 := b1.trans b2
  obtain ⟨y0, y1, y2⟩ := keep3 b12 yy.out
  replace ho2 := Lib.hid ho2
  go_wp2_with fail
  refine (symbol_any K R va vn vc T x _ _ (h.out.below b12) hr.out ho2.out.at (fun z hz => hy.out z (List.mem_reverse.1 hz)) (by rw [List.length_reverse]; exact hyl.out)).mono ?_
  rintro e w3 ⟨x, rfl, b3, rfl⟩
  rw [hY.out]
  go_wp2
  go_ret
  exact ⟨_, rfl, Below.step b12 b3, rfl⟩

theorem eg_fmirror1 (args : Array Value) (w : World) : (callFunc 36 args).run Tryd.prog w = .ok (.enter 36 args) w := by kernel_rfl

theorem madeP_mir {K n : Nat} {T : List Int} (h : T.length = pw K n) : madeP K n (fun ys => T.getD (numW K ys.reverse) 0) (pw K n) = mirT K n T := by
  rw [madeP, mirT, h]

theorem fmirror_bad (r : Nat → Addr) (k R : Int) (va : Option Addr) (vn vc : Nat) (T : List Int) (t : Int × List (ByteArray × Int)) (w : World) (hg : Glob r w) (h : IntsAt w (.slice va vn vc) T) (hc : checkP k R T = some t) :
    Calls Tryd.prog 11 #[.agg #[.int .i64 k, .int .i64 R, .slice va vn vc]] w (Ret2 (fun x y w' => x = zR ∧ ErrIs r w' (under sForms 0 (some t)) y) w) := by
  have b0 := Below.step (belowAlloc w (.cells #[.int .i64 k, .int .i64 R, .slice va vn vc] 24)) (belowAlloc _ (.cells #[.int .i64 0, .int .i64 0, .slice none 0 0] 24))
  have q2 : Box3 ((w.alloc (.cells #[.int .i64 k, .int .i64 R, .slice va vn vc] 24)).alloc (.cells #[.int .i64 0, .int .i64 0, .slice none 0 0] 24)) (w.heap.size + 1) (.int .i64 0) (.int .i64 0) (.slice none 0 0) := by simp [Box3, go_sem]
  replace hg := Lib.hid (hg.below b0)
  replace h := Lib.hid (h.below b0)
  replace hc := Lib.hid hc
  go_enter Tryd.func11, Tryd.ntmps11
  go_wp2_with fail
  refine (forms_check r _ k R va vn vc T _ hg.out h.out).mono ?_
  rintro e w1 ⟨x, rfl, hb, he⟩
  rw [hc.out] at he
  obtain ⟨T1, a1, rfl⟩ := ErrIs.some_shape he
  replace he := Lib.hid he
  obtain ⟨⟨y0, y1, y2⟩, f0, f1, f2⟩ := q2.below hb
  go_wp2
  rw [setCell_self3 y0 y1 y2]
  exact bodyPost_ret (v := .tuple #[zR, .iface T1 (.pointer (some a1))]) (by simp [results, Tryd.results11, go_sem, y0, y1, y2]) rfl ⟨_, _, rfl, Below.step b0 hb, rfl, he.out⟩

set_option maxHeartbeats 800000 in
theorem fmirror_ok (r : Nat → Addr) (K R : Nat) (va : Option Addr) (vn vc : Nat) (T : List Int) (w : World) (hg : Glob r w) (h : IntsAt w (.slice va vn vc) T) (hr : RuleOk K R T) :
    Calls Tryd.prog 11 #[.agg #[.int .i64 K, .int .i64 R, .slice va vn vc]] w (Ret2 (fun x y w' => y = .nilIface ∧ ∃ a n c, x = .agg #[.int .i64 K, .int .i64 R, .slice a n c] ∧ OwnI w.heap.size w' (.slice a n c) (mirT K (2 * R + 1) T)) w) := by
  have b0 := Below.step (belowAlloc w (.cells #[.int .i64 K, .int .i64 R, .slice va vn vc] 24)) (belowAlloc _ (.cells #[.int .i64 0, .int .i64 0, .slice none 0 0] 24))
  have q2 : Box3 ((w.alloc (.cells #[.int .i64 K, .int .i64 R, .slice va vn vc] 24)).alloc (.cells #[.int .i64 0, .int .i64 0, .slice none 0 0] 24)) (w.heap.size + 1) (.int .i64 0) (.int .i64 0) (.slice none 0 0) := by simp [Box3, go_sem]
  have q1 : Box3 ((w.alloc (.cells #[.int .i64 K, .int .i64 R, .slice va vn vc] 24)).alloc (.cells #[.int .i64 0, .int .i64 0, .slice none 0 0] 24)) w.heap.size (.int .i64 K) (.int .i64 R) (.slice va vn vc) := by simp [Box3, go_sem]
  have hk1 := hr.k1
  have hk4 := hr.k4
  have hR3 := hr.r3
  have hck := Lib.hid hr.check
  replace hg := Lib.hid (hg.below b0)
  replace h := Lib.hid (h.below b0)
  replace hr := Lib.hid hr
  go_enter Tryd.func11, Tryd.ntmps11
  go_wp2_with fail
  refine (forms_check r _ K R va vn vc T _ hg.out h.out).mono ?_
  rintro e w1 ⟨x, rfl, hb, he⟩
  rw [hck.out] at he
  obtain rfl := ErrIs.none_eq he
  have q11 := q1.below hb
  have q11x := q11
  obtain ⟨⟨z0, z1, z2⟩, -, -, -⟩ := q11x
  have s1 := hb.size
  simp only [World.size_alloc] at s1
  go_wp2_with fail
  refine (made_one K R _ _ (fun ys => T.getD (numW K ys.reverse) 0) _ hk1 hk4 hR3 _ rfl eg_fmirror1 (fun v ys w' hB hv hy hyl => by
    have := q11.below hB
    exact fmirror1_any K R va vn vc T _ v ys w' ((h.out.below hb).below hB) hr.out hv hy hyl this.1.1 this.1.2.1 this.1.2.2)).mono ?_
  rintro e w2 ⟨x, rfl, b2, a, n, c, rfl, ho⟩
  rw [madeP_mir hr.out.len] at ho
  obtain ⟨⟨y0, y1, y2⟩, f0, f1, f2⟩ := q2.below (Below.step hb b2)
  replace ho := Lib.hid ho
  clear z0 z1 z2
  go_wp2
  refine bodyPost_ret (v := .tuple #[.agg #[.int .i64 K, .int .i64 R, .slice a n c], .nilIface]) (by simp [results, Tryd.results11, go_sem, y0, y1, y2]) rfl ⟨_, _, rfl, below_set3 (Below.step b0 (Below.step hb b2)) (Nat.le_succ _) _ _ _, rfl, a, n, c, rfl, ?_⟩
  exact (((ho.out.setBelowBase (a := ⟨w.heap.size + 1, 0, none⟩) (by simp; omega) _).setBelowBase (a := ⟨w.heap.size + 1, 1, none⟩) (by simp; omega) _).setBelowBase (a := ⟨w.heap.size + 1, 2, none⟩) (by simp; omega) _).mono (by omega)
end Go.Proofs.YthnkdiejmclmkaaDoor

namespace Go.Proofs.YthnkdiejmclmkaaDoor
open Go.RowKit Go.Shelf
attribute [local go_sem] Oper.semAt_some
set_option maxRecDepth 100000

set_option maxHeartbeats 2000000 in
/-- The iterator of slices.Values: for every loop body that keeps what lay below n0. -/
theorem vals1_in (F : Fence) (n : Nat) (hF : F.fn 82) (hro : F.round = none) (hn : 1 ≤ n) (l Bs n0 : Nat) (v : Value) (zs : List Int) (J Jx : List Int → World → Prop)
    (hY : ∀ pre x W, J pre W → pre.length < zs.length → YieldAt F (n - 1) Tryd.prog l #[.int .i64 x] W fun e W' =>
      (e = .returned (.bool true) ∧ J (pre ++ [x]) W' ∧ Below n0 W W') ∨ (e = .returned (.bool false) ∧ Jx (pre ++ [x]) W'))
    (W : World) (hBs : W.cell? ⟨Bs, 0, none⟩ = some v) (hv : IntsAt W v zs) (hb : ∀ i, i < zs.length → (valAt v i).block < n0) (h0 : J [] W) :
    CallsIn F n Tryd.prog 82 #[.func (.yield l) #[] #[], .pointer (some ⟨Bs, 0, none⟩)] W fun e W' => (∃ u, e = .returned u) ∧
      ((∃ ys, ys = zs ∧ J ys W') ∨ (∃ pre, pre <+: zs ∧ Jx pre W')) := by
  have hlen := hv.len
  have hmax := hv.len_le
  replace hv := Lib.hid hv
  refine callsIn_of_wp Tryd.func82 rfl hF ?_ hro
  simp only [Tryd.ntmps82, List.size_toArray, List.length_cons, List.length_nil, Nat.reduceAdd, Nat.reduceSub, Array.replicate_succ, Array.replicate_zero, List.push_toArray, List.append_toArray, List.nil_append, List.cons_append]
  gi_wp2
  gi_loopw [7] (fun i wr => ∃ k : Nat, k ≤ zs.length ∧ i = .int .i64 k ∧ J (zs.take k) wr ∧ Below n0 W wr)
    (fun i _ => zs.length - (intOf i).toNat)
  case atStart => exact ⟨0, Nat.zero_le _, rfl, h0, Below.refl _ _⟩
  case round =>
    obtain ⟨k, hk, rfl, hJs, hnx⟩ := hrel
    by_cases hlt : k < zs.length
    · have i1 := hv.out.idx k hlt
      have c1 := (hnx.cell (hb k hlt)).trans (hv.out.cell k hlt)
      have ht := Lib.hid (take_snoc zs k hlt)
      obtain ⟨x, hx⟩ : ∃ x, x = zs[k] := ⟨_, rfl⟩
      rw [← hx] at c1 ht
      clear hx
      obtain ⟨fn, tmps, assign, body, hy, hR⟩ := hY _ x wr hJs (by simp; omega)
      replace hJs := Lib.hid hJs
      gi_wp2
      refine hR.mono ?_
      rintro e W3 (⟨rfl, hJ3, hk3⟩ | ⟨rfl, hJx3⟩)
      · replace hJ3 := Lib.hid hJ3
        gi_wp2
        go_roundw
        case rel => exact ⟨k + 1, by omega, by go_num, by rw [ht.out]; exact hJ3.out, hnx.trans hk3⟩
        case measure => simp [intOf]; omega
      · replace hJx3 := Lib.hid hJx3
        gi_wp2
        refine bodyPost_ret (results_none rfl _ _ _) rfl ?_
        exact ⟨⟨_, rfl⟩, .inr ⟨_, by rw [← ht.out]; exact List.take_prefix _ _, hJx3.out⟩⟩
    · obtain rfl : k = zs.length := by omega
      rw [List.take_length] at hJs
      replace hJs := Lib.hid hJs
      gi_wp2
      go_end0
      exact ⟨⟨_, rfl⟩, .inl ⟨_, rfl, hJs.out⟩⟩

/-- slices.Values(s): the slice is boxed; the function value captures the box. -/
theorem vals_any (a : Option Addr) (n c : Nat) (w : World) :
    Calls Tryd.prog 43 #[.slice a n c] w fun e w' => e = .returned (.func (.func 82) #[] #[.pointer (some ⟨w.heap.size, 0, none⟩)]) ∧ w.alloc (.cells #[.slice a n c] 22) = w' := by
  go_enter Tryd.func43, Tryd.ntmps43
  go_wp2
  go_ret
  exact ⟨rfl, rfl⟩

theorem vals_stops (F : Fence) (n : Nat) (hF : F.fn 82) (hro : F.round = none) (hn : 1 ≤ n) (Bs n0 : Nat) (v : Value) (zs : List Int) (w : World) (hBs : Bs < w.heap.size)
    (hc : w.cell? ⟨Bs, 0, none⟩ = some v) (hv : IntsAt w v zs) (hb : ∀ i, i < zs.length → (valAt v i).block < n0) :
    SeqStopsK F n Tryd.prog 82 #[.pointer (some ⟨Bs, 0, none⟩)] (fun x : Int => #[Value.int .i64 x]) (Below n0) (fun ys => ys = zs) (fun pre => pre <+: zs) zs.length w := fun l J Jx W hW _ _ hY h0 =>
  vals1_in F n hF hro hn l Bs n0 v zs J Jx hY W ((hW.cell (p := ⟨Bs, 0, none⟩) hBs).trans hc) (hv.below hW) hb h0

set_option maxHeartbeats 2000000 in
/-- slices.AppendSeq(nil, slices.Values(s)): a new list of the same numbers. -/
theorem appendSeq_in (F : Fence) (n : Nat) (hA : F.fn 106) (hV : F.fn 82) (hro : F.round = none) (hn : 3 ≤ n) (Bs : Nat) (v : Value) (zs : List Int) (hlen : zs.length ≤ 17592186044416) (w : World)
    (hBs : Bs < w.heap.size) (hc : w.cell? ⟨Bs, 0, none⟩ = some v) (hv : IntsAt w v zs) :
    CallsIn F n Tryd.prog 106 #[.slice none 0 0, .func (.func 82) #[] #[.pointer (some ⟨Bs, 0, none⟩)]] w fun e w' => ∃ x, e = .returned x ∧ OwnI w.heap.size w' x zs ∧ Below w.heap.size w w' := by
  have h1 : 1 ≤ n := by omega
  obtain ⟨i0, hi, hz0, hz1, hz2⟩ := info_parts iInt
  refine callsIn_of_wp_marks Tryd.func106 rfl hA ?_ hro
  simp only [Tryd.ntmps106, List.size_toArray, List.length_cons, List.length_nil, Nat.reduceAdd, Nat.reduceSub, Array.replicate_succ, Array.replicate_zero, List.push_toArray, List.append_toArray, List.nil_append, List.cons_append]
  replace hv := Lib.hid hv
  gi_wp2
  have bO := Boxed.new w 22 (.slice none 0 0)
  have hB0 : Below w.heap.size w (w.alloc (.cells #[.slice none 0 0] 22)) := (Below.refl _ w).alloc (Nat.le_refl _) _
  refine wpIn_rangeFunc_ownG hro h1 (gf := 82) (lb := #[.pointer (some ⟨Bs, 0, none⟩)]) rfl hV (enters_of Tryd.func82 (by kernel_rfl) rfl)
    (vals_stops F (n - 1) hV hro (by omega) Bs w.heap.size v zs _ (by simp; omega) ((hB0.cell (p := ⟨Bs, 0, none⟩) hBs).trans hc) (hv.out.below hB0) (fun i hi => hv.out.blk i hi)) belowK_t (belowK_b (by simp)) (Below.refl _ _) (fun _ => rfl)
    (fun pre W => (∃ v, Boxed W w.heap.size 22 v ∧ W.ownsRow w.heap.size 3 1 v pre.length (pre.map (Value.int .i64)) ∧ (v = .slice none 0 0 ↔ pre = [])) ∧ Below w.heap.size w W)
    (fun _ _ _ => False)
    (OwnFrom.and (Own.from (holdsRow_own w.heap.size w.heap.size 22 3 1 (fun pre => pre.length) (fun pre => pre.map (Value.int .i64)) (fun pre v => v = .slice none 0 0 ↔ pre = [])) _) (ownFrom_below (Nat.le_refl _) (by simp)))
    (fun _ _ _ _ _ hs _ _ => hs)
    ⟨⟨_, bO, World.ownsRow_nil _ _ _ _, by simp⟩, hB0⟩
    (fun x => { tmps := #[.slice none 0 0, .func (.func 82) #[] #[.pointer (some ⟨Bs, 0, none⟩)], .pointer (some ⟨w.heap.size, 0, none⟩), undef, .slice none 0 0, .int .i64 x, .func (.func 82) #[] #[.pointer (some ⟨Bs, 0, none⟩)], .int .i64 x, undef, undef, undef, undef, undef], defers := [] }) ?assign ?body ?done ?stop
  case assign =>
    intro l x W K hK
    gi_wp2
    exact hK
  case body =>
    rintro l pre x W ⟨⟨v, hv, hrow, hnil⟩, hB⟩ hlt
    have hc := hv.cell
    gi_wp2_with (gi_at_builtin; refine wpListIn_append_own _ rfl _ _ 22 rfl w.heap.size 3 i0 (.int .i64 0) 1 8 uInts hi hz0 hz1 hz2 rfl (by decide) _ _ _ rfl (hrow.alloc _) ⟨W.heap.size, 0, none⟩ 1 1 [.int .i64 x] rfl rfl (cell_one_new _ _ _) (by simp [Value.oneCell']) (by unfold maxLen; omega) (by omega) (by have := hB.size; simp; omega) ?_; intro v' w1 hown' hgrow _; obtain ⟨g', cap', rfl⟩ := ownsRow_succ hown'; obtain ⟨hv1, hv2, hr2, hk2, hb2⟩ := hv.appended (by decide) hrow hB.size (Nat.le_refl _) hown' hgrow; have hc1 := hv1.cell; have hf1 := hv1.frozen)
    exact ⟨hk2.from _, hb2, ⟨_, hv2, by simpa using hr2, by simp⟩, hB.trans hb2⟩
  case done =>
    rintro D ys W hD rfl ⟨⟨v, hv, hrow, hnil⟩, hB⟩ hK
    have hc := hv.cell
    gi_wp2
    refine ⟨by simp, .inl ⟨_, _, rfl, run_takeDeferred hK, ?_⟩⟩
    exact ⟨_, results_tmp rfl _ _ _, v, rfl, ownsRow_putObj hrow _ hK rfl, hB.trans (belowK_b (w := w) (Nat.le_refl _) W D _ _ (by simp at hD; omega) hK rfl rfl)⟩
  case stop =>
    rintro D c pre W _ _ h _
    exact h.elim

theorem collect_any (Bs : Nat) (v : Value) (zs : List Int) (hlen : zs.length ≤ 17592186044416) (w : World) (hBs : Bs < w.heap.size) (hc : w.cell? ⟨Bs, 0, none⟩ = some v) (hv : IntsAt w v zs) :
    Calls Tryd.prog 81 #[.func (.func 82) #[] #[.pointer (some ⟨Bs, 0, none⟩)]] w (Ret1 (fun x w' => OwnI w.heap.size w' x zs) w) := by
  have hA := (callsIn_wide (n := 6)).1 (appendSeq_in Fence.wide 6 trivial trivial rfl (by omega) Bs v zs hlen w hBs hc hv)
  go_enter Tryd.func81, Tryd.ntmps81
  go_wp2_with fail
  refine hA.mono ?_
  clear hA
  rintro e w1 ⟨x, rfl, ho, hb⟩
  replace ho := Lib.hid ho
  go_wp2
  go_ret
  exact ⟨_, rfl, hb, ho.out⟩
end Go.Proofs.YthnkdiejmclmkaaDoor

namespace Go.Proofs.YthnkdiejmclmkaaDoor
open Go.RowKit Go.Shelf Go.Sort
set_option maxRecDepth 100000

def Tryd.laysSort_ren : Go.Shelf.Ren := ⟨fun | 5 => 58 | 8 => 88 | 7 => 87 | 19 => 116 | 20 => 117 | 10 => 107 | 11 => 108 | 12 => 109 | 13 => 110 | 14 => 111 | 15 => 112 | 16 => 113 | 17 => 114 | 18 => 115 | 30 => 127 | 31 => 128 | 32 => 129 | 33 => 130 | 34 => 131 | 35 => 132 | 40 => 136 | n => n, fun | 23 => 22 | 25 => 3 | 3 => 3 | 32 => 115 | 22 => 22 | 0 => 0 | 44 => 140 | 46 => 142 | 4 => 4 | 36 => 132 | 35 => 131 | 41 => 137 | 5 => 5 | 9 => 9 | 53 => 156 | 57 => 160 | 63 => 165 | 64 => 166 | n => n, fun | n => n⟩
theorem Tryd.laysSort : Go.Proofs.SlLaysM.n5 Tryd.prog Tryd.laysSort_ren := {
  mixed := by kernel_rfl
  f5 := ⟨Tryd.f58.name, by decide, Tryd.func58.trans (congrArg some (by kernel_rfl))⟩
  f7 := ⟨Tryd.f87.name, by decide, Tryd.func87.trans (congrArg some (by kernel_rfl))⟩
  f8 := Tryd.func88.trans (congrArg some (by kernel_rfl))
  f10 := ⟨Tryd.f107.name, by decide, Tryd.func107.trans (congrArg some (by kernel_rfl))⟩
  f11 := ⟨Tryd.f108.name, by decide, Tryd.func108.trans (congrArg some (by kernel_rfl))⟩
  f12 := ⟨Tryd.f109.name, by decide, Tryd.func109.trans (congrArg some (by kernel_rfl))⟩
  f13 := ⟨Tryd.f110.name, by decide, Tryd.func110.trans (congrArg some (by kernel_rfl))⟩
  f14 := ⟨Tryd.f111.name, by decide, Tryd.func111.trans (congrArg some (by kernel_rfl))⟩
  f15 := ⟨Tryd.f112.name, by decide, Tryd.func112.trans (congrArg some (by kernel_rfl))⟩
  f16 := ⟨Tryd.f113.name, by decide, Tryd.func113.trans (congrArg some (by kernel_rfl))⟩
  f17 := ⟨Tryd.f114.name, by decide, Tryd.func114.trans (congrArg some (by kernel_rfl))⟩
  f18 := ⟨Tryd.f115.name, by decide, Tryd.func115.trans (congrArg some (by kernel_rfl))⟩
  f19 := Tryd.func116.trans (congrArg some (by kernel_rfl))
  f20 := Tryd.func117.trans (congrArg some (by kernel_rfl))
  f30 := ⟨Tryd.f127.name, by decide, Tryd.func127.trans (congrArg some (by kernel_rfl))⟩
  f31 := Tryd.func128.trans (congrArg some (by kernel_rfl))
  f32 := Tryd.func129.trans (congrArg some (by kernel_rfl))
  f33 := ⟨Tryd.f130.name, by decide, Tryd.func130.trans (congrArg some (by kernel_rfl))⟩
  f34 := ⟨Tryd.f131.name, by decide, Tryd.func131.trans (congrArg some (by kernel_rfl))⟩
  f35 := ⟨Tryd.f132.name, by decide, Tryd.func132.trans (congrArg some (by kernel_rfl))⟩
  f40 := ⟨Tryd.f136.name, by decide, Tryd.func136.trans (congrArg some (by kernel_rfl))⟩
  t0 := Tryd.underlying0
  a0 := Tryd.isAgg0
  z0 := Tryd.sizeOf0
  v0 := Tryd.zeroValue0
  t3 := Tryd.underlying3
  a3 := Tryd.isAgg3
  z3 := Tryd.sizeOf3
  v3 := Tryd.zeroValue3
  t4 := Tryd.underlying4
  a4 := Tryd.isAgg4
  z4 := Tryd.sizeOf4
  v4 := Tryd.zeroValue4
  t5 := Tryd.underlying5
  a5 := Tryd.isAgg5
  z5 := Tryd.sizeOf5
  v5 := Tryd.zeroValue5
  t9 := Tryd.underlying9
  a9 := Tryd.isAgg9
  z9 := Tryd.sizeOf9
  v9 := Tryd.zeroValue9
  t22 := Tryd.underlying22
  a22 := Tryd.isAgg22
  z22 := Tryd.sizeOf22
  v22 := Tryd.zeroValue22
  t23 := Tryd.underlying22
  a23 := Tryd.isAgg22
  z23 := Tryd.sizeOf22
  v23 := Tryd.zeroValue22
  t25 := Tryd.underlying3
  a25 := Tryd.isAgg3
  z25 := Tryd.sizeOf3
  v25 := Tryd.zeroValue3
  t32 := Tryd.underlying115
  a32 := Tryd.isAgg115
  z32 := Tryd.sizeOf115
  v32 := Tryd.zeroValue115
  t35 := Tryd.underlying131
  a35 := Tryd.isAgg131
  z35 := Tryd.sizeOf131
  v35 := Tryd.zeroValue131
  t36 := Tryd.underlying132
  a36 := Tryd.isAgg132
  z36 := Tryd.sizeOf132
  v36 := Tryd.zeroValue132
  t41 := Tryd.underlying137
  a41 := Tryd.isAgg137
  z41 := Tryd.sizeOf137
  v41 := Tryd.zeroValue137
  t44 := Tryd.underlying140
  a44 := Tryd.isAgg140
  z44 := Tryd.sizeOf140
  v44 := Tryd.zeroValue140
  t46 := Tryd.underlying142
  a46 := Tryd.isAgg142
  z46 := Tryd.sizeOf142
  v46 := Tryd.zeroValue142
  t53 := Tryd.underlying156
  a53 := Tryd.isAgg156
  z53 := Tryd.sizeOf156
  v53 := Tryd.zeroValue156
  t57 := Tryd.underlying160
  a57 := Tryd.isAgg160
  z57 := Tryd.sizeOf160
  v57 := Tryd.zeroValue160
  t63 := Tryd.underlying165
  a63 := Tryd.isAgg165
  z63 := Tryd.sizeOf165
  v63 := Tryd.zeroValue165
  t64 := Tryd.underlying166
  a64 := Tryd.isAgg166
  z64 := Tryd.sizeOf166
  v64 := Tryd.zeroValue166 }

/-- Ascending. -/
def srt (xs : List Int) : List Int := xs.mergeSort fun x y => decide (x ≤ y)
theorem srt_length (xs : List Int) : (srt xs).length = xs.length := by simp [srt]

/-- slices.Sort at a list of one's own. -/
theorem sort_own (B : Nat) (v : Value) (xs : List Int) (w : World) (h : OwnI B w v xs) (hl : xs.length ≤ 17592186044416) (hB : B ≤ w.heap.size) :
    Calls Tryd.prog 58 #[v] w fun e w' => e = .returned (.tuple #[]) ∧ OwnI B w' v (srt xs) ∧ Below B w w' := by
  rcases h.2 with ⟨rfl, hn⟩ | ⟨g, cap, cur, rfl, hb, hg, hn, hcm, hs, ht⟩
  · obtain rfl := List.length_eq_zero_iff.1 hn
    refine Calls.mono (AnyM.slices_Sort_int_none Tryd.laysSort none 0 w) ?_
    rintro e w' ⟨rfl, rfl⟩
    exact ⟨rfl, by simpa [srt] using h, Below.refl _ _⟩
  · have hlen : xs.length < 4611686018427387904 := by omega
    refine Calls.mono (AnyM.slices_Sort_int Tryd.laysSort g 0 cap xs w (holds_of_block_i hg (by simpa using ht)) (Array.getElem?_eq_some_iff.1 hg).1 hlen) ?_
    rintro e w' ⟨rfl, n, os, rfl⟩
    refine ⟨rfl, ?_, (Below.refl _ _).grown (grownBy_sorted_i _) hB (fun j hj => by cases hj; exact hb)⟩
    have := ownsRow_sorted_i (n := n) (os := os) (ts := srt xs) (srt_length xs) hb hg hn hcm hs
    unfold OwnI
    rw [srt_length]
    exact this

theorem sorted_any (Bs : Nat) (v : Value) (zs : List Int) (hlen : zs.length ≤ 17592186044416) (w : World) (hBs : Bs < w.heap.size) (hc : w.cell? ⟨Bs, 0, none⟩ = some v) (hv : IntsAt w v zs) :
    Calls Tryd.prog 42 #[.func (.func 82) #[] #[.pointer (some ⟨Bs, 0, none⟩)]] w (Ret1 (fun x w' => OwnI w.heap.size w' x (srt zs)) w) := by
  have hA := collect_any Bs v zs hlen w hBs hc hv
  go_enter Tryd.func42, Tryd.ntmps42
  go_wp2_with fail
  refine hA.mono ?_
  clear hA
  rintro e w1 ⟨x, rfl, hb, ho⟩
  have hs := hb.size
  go_wp2_with fail
  refine (sort_own w.heap.size x zs _ ho hlen hs).mono ?_
  rintro e w2 ⟨rfl, ho2, hb2⟩
  replace ho2 := Lib.hid ho2
  go_wp2
  go_ret
  exact ⟨_, rfl, hb.trans hb2, ho2.out⟩
end Go.Proofs.YthnkdiejmclmkaaDoor

namespace Go.Proofs.YthnkdiejmclmkaaDoor

section
variable {P : Program} {ops : Array Oper} {Q : Exit → Act → World → Prop} {md : Region.Mode} {S : World → Prop}

/-- Whatever order is picked from here on; behind an operation of the head the fact S holds. -/
def wpAnyT (P : Program) (md : Region.Mode) (ops : Array Oper) (Q : Exit → Act → World → Prop) (S : World → Prop) (n : Nat) : Nat → Array Bool → Act → World → Prop
  | 0, listed, a, w => Region.ready md ops listed = [] ∧ Q .normal a w
  | fuel + 1, listed, a, w =>
    (Region.ready md ops listed = [] → Q .normal a w) ∧
    ∀ i ∈ Region.ready md ops listed, wpOp P ops Q i (fun a' w' => (i < n → S w') ∧ wpAnyT P md ops Q S n fuel (listed.setIfInBounds i true) a' w') a w

theorem wpAny_of_T {n : Nat} : ∀ (fuel : Nat) (listed : Array Bool) (a : Act) (w : World), wpAnyT P md ops Q S n fuel listed a w → wpAny P md ops Q fuel listed a w
  | 0, _, _, _, h => h
  | fuel + 1, _, _, _, h => ⟨h.1, fun i hi => wpOp_mono (fun a' w' h' => wpAny_of_T fuel _ a' w' h'.2) (h.2 i hi)⟩

/-- Where the whole head has come up, it is a wpAny. -/
theorem wpAnyT_of {n : Nat} : ∀ (fuel : Nat) (listed : Array Bool) (a : Act) (w : World), (∀ j, j < n → listed.getD j true = true) → wpAny P md ops Q fuel listed a w → wpAnyT P md ops Q S n fuel listed a w
  | 0, _, _, _, _, h => h
  | fuel + 1, listed, a, w, hl, h => ⟨h.1, fun i hi => wpOp_mono (fun a' w' h' => ⟨fun hin => Bool.noConfusion ((hl i hin).symm.trans (mem_ready.1 hi).1), wpAnyT_of fuel _ a' w' (fun j hj => by
        by_cases hij : i = j
        · subst hij
          rcases Nat.lt_or_ge i listed.size with h2 | h2
          · simp [h2]
          · rw [Array.getD_eq_getD_getElem?, Array.getElem?_eq_none (by simpa using h2)]; rfl
        · rw [getD_set_ne true hij]; exact hl j hj) h'⟩) (h.2 i hi)⟩

theorem wpAnyT_first {n i : Nat} {oi : Oper} {v : Value} (hi : ops[i]? = some oi) (hsel : ∀ (j : Nat) (o : Oper) cs b, ops[j]? = some o → o.op ≠ .select cs b)
    (hs : Region.sinkB md ops n = true) (hc : Region.chainB md ops n = true) (hn : n < ops.size) (hin : i < n)
    (hQ : ∀ c a w, Q (.panic c) (a.put oi.dst v) w → Q (.panic c) a w) :
    ∀ (fuel : Nat) (listed : Array Bool) (a : Act) (w : World), HeadInv md ops n listed →
      (∀ j oj, ops[j]? = some oj → j ≠ i → listed.getD j true = false → (∀ e ∈ oj.after, Region.binds md e = true → e.on ≠ i) → oi.apart ops oj = true) →
      i ∈ Region.ready md ops listed → YieldsIf P ops S oi v a → S w →
      wpAnyT P md ops Q S n fuel (listed.setIfInBounds i true) (a.put oi.dst v) w → wpAnyT P md ops Q S n (fuel + 1) listed a w := by
  intro fuel
  induction fuel with
  | zero =>
    intro listed a w inv _ hr hy hS H
    refine ⟨fun h => (by rw [h] at hr; cases hr), fun j hj => ?_⟩
    by_cases hji : j = i
    · subst hji; exact hy.wpOp hi hS ⟨fun _ => hS, H⟩
    · have := ready_mono hj hji
      rw [H.1] at this
      cases this
  | succ fuel ih =>
    intro listed a w inv hfree hr hy hS H
    have hun := (mem_ready.1 hr).1
    refine ⟨fun h => (by rw [h] at hr; cases hr), fun j hj => ?_⟩
    have hjn : j < n := by
      rcases Nat.lt_or_ge j n with h | h
      · exact h
      · exact absurd hj (tail_waits hs hc hn inv _ i rfl hin hun j h)
    by_cases hji : j = i
    · subst hji; exact hy.wpOp hi hS ⟨fun _ => hS, H⟩
    · have h1 := H.2 j (ready_mono hj hji)
      obtain ⟨hjun, oj, hoj, hall⟩ := mem_ready.1 hj
      have hnot : ∀ e ∈ oj.after, Region.binds md e = true → e.on ≠ i := fun e he hb heq => by
        have h1 := hall e he hb
        rw [heq, getD_both hun] at h1
        cases h1
      have h2 := wpOp_putIf hoj (hfree j oj hoj hji hjun hnot) (fun cs b => hsel i oi cs b hi) (fun cs b => hsel j oj cs b hoj) hQ hy h1
      have hfree' : ∀ k ok, ops[k]? = some ok → k ≠ i → (listed.setIfInBounds j true).getD k true = false →
          (∀ e ∈ ok.after, Region.binds md e = true → e.on ≠ i) → oi.apart ops ok = true := fun k ok hk hki hun hno => by
        refine hfree k ok hk hki ?_ hno
        by_cases hjk : j = k
        · subst hjk; exact hjun
        · rw [getD_set_ne true hjk] at hun; exact hun
      refine wpOp_mono (fun a' w' h3 => ⟨fun _ => h3.2.1 hjn, ih (listed.setIfInBounds j true) a' w' (inv.set hj hjn) hfree' (ready_mono hr (Ne.symm hji)) h3.1 (h3.2.1 hjn) ?_⟩) h2
      rw [Array.setIfInBounds_comm _ _ hji]
      exact h3.2.2

/-- The head's operations in the plan's order: (k, true): number k yields a value under S; (k, false): number k alone can come up, whatever it does. -/
def wpHead (P : Program) (ops : Array Oper) (Q : Exit → Act → World → Prop) (S : World → Prop) (K : Act → World → Prop) : List (Nat × Bool) → Act → World → Prop
  | [], a, w => K a w
  | (k, true) :: l, a, w => ∃ o v, ops[k]? = some o ∧ YieldsIf P ops S o v a ∧ S w ∧ wpHead P ops Q S K l (a.put o.dst v) w
  | (k, false) :: l, a, w => wpOp P ops Q k (fun a' w' => S w' ∧ wpHead P ops Q S K l a' w') a w

def planB (md : Region.Mode) (ops : Array Oper) (n : Nat) : List (Nat × Bool) → Array Bool → Bool
  | [], listed => (List.range n).all (fun j => listed.getD j true) && Region.seqB md ops (ops.size - n) n listed
  | (k, true) :: l, listed => decide (k < n) && (Region.ready md ops listed).contains k && Region.free md ops listed k && planB md ops n l (listed.setIfInBounds k true)
  | (k, false) :: l, listed => decide (k < n) && decide (Region.ready md ops listed = [k]) && planB md ops n l (listed.setIfInBounds k true)

theorem wpAnyT_plan {n : Nat} {ol : List Oper} (hol : ops = ol.toArray) (hsel : Region.noSelect ops = true) (hs : Region.sinkB md ops n = true) (hc : Region.chainB md ops n = true) (hn : n < ops.size)
    (hQ : ∀ c a w, Q (.panic c) a w → False) :
    ∀ (l : List (Nat × Bool)) (listed : Array Bool) (a : Act) (w : World), HeadInv md ops n listed → planB md ops n l listed = true →
      wpHead P ops Q S (fun a' w' => wpList P ops Q (ol.drop n) a' w') l a w → wpAnyT P md ops Q S n (l.length + (ops.size - n)) listed a w
  | [], listed, a, w, inv, hB, h => by
    simp only [planB, Bool.and_eq_true] at hB
    have hl : ∀ j, j < n → listed.getD j true = true := fun j hj => List.all_eq_true.1 hB.1 j (List.mem_range.2 hj)
    rw [List.length_nil, Nat.zero_add]
    refine wpAnyT_of _ _ _ _ hl ?_
    have hdl : (ol.drop n).length = ops.size - n := by subst hol; simp
    rw [← hdl]
    refine wpAny_of_seq (ol.drop n) n listed a w (fun j => by subst hol; simp) ?_ h
    rw [hdl]; exact hB.2
  | (k, true) :: l, listed, a, w, inv, hB, h => by
    simp only [planB, Bool.and_eq_true, decide_eq_true_eq] at hB
    obtain ⟨⟨⟨hkn, hr⟩, hf⟩, hB'⟩ := hB
    obtain ⟨o, v, ho, hy, hS, h'⟩ := h
    have hr' : k ∈ Region.ready md ops listed := by simpa using hr
    rw [show ((k, true) :: l).length + (ops.size - n) = (l.length + (ops.size - n)) + 1 by simp; omega]
    exact wpAnyT_first ho (Region.noSelect_spec hsel) hs hc hn hkn (fun c a w h => (hQ c _ w h).elim) _ listed a w inv (Region.free_spec ho hf) hr' hy hS
      (wpAnyT_plan hol hsel hs hc hn hQ l _ _ _ (inv.set hr' hkn) hB' h')
  | (k, false) :: l, listed, a, w, inv, hB, h => by
    simp only [planB, Bool.and_eq_true, decide_eq_true_eq] at hB
    obtain ⟨⟨hkn, hr⟩, hB'⟩ := hB
    rw [show ((k, false) :: l).length + (ops.size - n) = (l.length + (ops.size - n)) + 1 by simp; omega]
    refine ⟨fun h0 => (by rw [h0] at hr; cases hr), fun i hi => ?_⟩
    have hi' := hi
    rw [hr] at hi'
    obtain rfl : i = k := by simpa using hi'
    exact wpOp_mono (fun a' w' h3 => ⟨fun _ => h3.1, wpAnyT_plan hol hsel hs hc hn hQ l _ a' w' (inv.set hi hkn) hB' h3.2⟩) h

/-- What is asked of the region and the plan. -/
def tailB (md : Region.Mode) (ops : Array Oper) (n : Nat) (plan : List (Nat × Bool)) : Bool :=
  Region.noSelect ops && decide (n < ops.size) && Region.sinkB md ops n && Region.chainB md ops n && decide (plan.length = n) && planB md ops n plan (Array.replicate ops.size false)

/-- **The law**: a region that draws its order, by a plan for its head; then its tail, one behind the other. -/
theorem wp_region_plan {id : Nat} {a : Act} {w : World} {l : List Oper} (S : World → Prop) (n : Nat) (plan : List (Nat × Bool)) (hm : P.follows .mixedOrders = true) (hB : tailB .any l.toArray n plan = true)
    (h : wpHead P l.toArray (NoPanic Q) S (fun a' w' => wpList P l.toArray (NoPanic Q) (l.drop n) a' w') plan a w.drew) : (Code.region id l.toArray true).wp P Q a w := by
  simp only [tailB, Bool.and_eq_true, decide_eq_true_eq] at hB
  obtain ⟨⟨⟨⟨⟨hsel, hn⟩, hs⟩, hc⟩, hlen⟩, hp⟩ := hB
  refine wp_region_noPanic ?_
  refine wp_region_any hm ?_
  have inv0 : HeadInv .any l.toArray n (Array.replicate l.toArray.size false) :=
    ⟨by simp, fun j oj _ hl => (by rw [getD_replicate_false] at hl; cases hl), fun t _ ht => getD_in (by simpa using ht) (getD_replicate_false _ _)⟩
  have := wpAnyT_plan (md := .any) (Q := NoPanic Q) (S := S) rfl hsel hs hc hn (fun _ _ _ h => h) plan _ a _ inv0 hp h
  rw [hlen, show n + (l.toArray.size - n) = l.toArray.size by omega] at this
  exact wpAny_of_T _ _ _ _ this

/-- A step that yields. -/
theorem headY {K : Act → World → Prop} {k : Nat} {o : Oper} {v : Value} {l : List (Nat × Bool)} {a : Act} {w : World} (d : Option Tmp) (ho : ops[k]? = some o) (hd : o.dst = d)
    (hy : YieldsIf P ops S o v a) (hS : S w) (h : wpHead P ops Q S K l (a.put d v) w) : wpHead P ops Q S K ((k, true) :: l) a w := by
  subst hd; exact ⟨o, v, ho, hy, hS, h⟩
/-- A step that does whatever it does. -/
theorem headC {K : Act → World → Prop} {k : Nat} {o : Oper} {l : List (Nat × Bool)} {a : Act} {w : World} (ho : ops[k]? = some o)
    (h : ∀ K' : Act → World → Prop, (∀ a w, S w → wpHead P ops Q S K l a w → K' a w) → if Region.wanted o (yielded ops a.tmps) = true then Oper.wp P o a w K' Q else K' (a.put o.dst undef) w) :
    wpHead P ops Q S K ((k, false) :: l) a w := by
  show wpOp _ _ _ _ _ _ _
  unfold wpOp
  simp only [ho]
  have := h (fun a' w' => S w' ∧ wpHead P ops Q S K l a' w') (fun a w h1 h2 => ⟨h1, h2⟩)
  split
  · rename_i hw; rw [if_pos hw] at this; exact .inl this
  · rename_i hw; rw [if_neg hw] at this; exact this
theorem head0 {K : Act → World → Prop} {a : Act} {w : World} (h : K a w) : wpHead P ops Q S K [] a w := h
end
end Go.Proofs.YthnkdiejmclmkaaDoor

namespace Go.Proofs.YthnkdiejmclmkaaDoor
open Go.RowKit
set_option maxRecDepth 100000

/-- The first place of x. -/
def invP (p : List Int) (x : Int) : Int := idxOf (fun y => x == y) p

theorem index_any (v : Value) (xs : List Int) (x : Int) (w : World) (h : IntsAt w v xs) :
    Calls Tryd.prog 46 #[v, .int .i64 x] w fun e w' => e = .returned (.int .i64 (invP xs x)) ∧ w = w' := by
  have hlen := h.len
  have hm := h.len_le
  replace h := Lib.hid h
  go_enter Tryd.func46, Tryd.ntmps46
  go_wp2
  go_loop [8] (fun i => ∃ j : Nat, j ≤ xs.length ∧ i = .int .i64 j ∧ ∀ t (ht : t < xs.length), t < j → (x == xs[t]) = false) (fun i => xs.length - (intOf i).toNat)
  case atStart => exact ⟨0, by omega, rfl, fun t ht h => by omega⟩
  case round =>
    obtain ⟨j, hj, rfl, hne⟩ := hrel
    by_cases hjl : j < xs.length
    · have i1 := h.out.idx j hjl
      have c1 := h.out.cell j hjl
      by_cases he : (x == xs[j]) = true
      · have hr : Hid (invP xs x = j) := Lib.hid (idxOf_at j hjl he (fun t ht htj => hne t ht htj))
        have he' : x = xs[j] := by simpa using he
        rw [← he'] at c1
        clear he he'
        replace hne := Lib.hid hne
        go_wp2
        go_ret
        exact ⟨ret_int hr.out.symm, rfl⟩
      · have hn : Hid (∀ t (ht : t < xs.length), t < j + 1 → (x == xs[t]) = false) := Lib.hid (fun t ht htj => by
          by_cases e : t = j
          · subst e; simpa using he
          · exact hne t ht (by omega))
        have he' : (x == xs[j]) = false := by simpa using he
        obtain ⟨y, hy⟩ : ∃ y, y = xs[j] := ⟨_, rfl⟩
        rw [← hy] at c1 he'
        clear he hne hy
        go_wp2
        go_round
        case rel => exact ⟨j + 1, by omega, by go_num, hn.out⟩
        case measure => simp [intOf]; omega
    · have hr : Hid (invP xs x = -1) := Lib.hid (idxOf_neg (fun y hy => by
        obtain ⟨t, ht, rfl⟩ := List.mem_iff_getElem.1 hy
        exact hne t ht (by omega)))
      replace hne := Lib.hid hne
      go_wp2
      go_ret
      exact ⟨ret_int hr.out.symm, rfl⟩

/-- The names' list is one: each symbol once. -/
def permOk (K : Nat) (p : List Int) : Bool := decide (p.length = K) && decide (srt p = (List.range K).map (fun i : Nat => (i : Int)))
theorem srt_perm (p : List Int) : (srt p).Perm p := List.mergeSort_perm ..
theorem permOk_mem {K : Nat} {p : List Int} (h : permOk K p = true) (x : Int) : x ∈ p ↔ 0 ≤ x ∧ x < K := by
  simp only [permOk, Bool.and_eq_true, decide_eq_true_eq] at h
  rw [← (srt_perm p).mem_iff, h.2, List.mem_map]
  constructor
  · rintro ⟨i, hi, rfl⟩; have := List.mem_range.1 hi; omega
  · intro hx; exact ⟨x.toNat, List.mem_range.2 (by omega), by omega⟩
theorem permOk_syms {K : Nat} {p : List Int} (h : permOk K p = true) : Syms K p := fun x hx => (permOk_mem h x).1 hx
theorem permOk_len {K : Nat} {p : List Int} (h : permOk K p = true) : p.length = K := by
  simp only [permOk, Bool.and_eq_true, decide_eq_true_eq] at h; exact h.1
theorem invP_spec {K : Nat} {p : List Int} (h : permOk K p = true) {x : Int} (h0 : 0 ≤ x) (h1 : x < K) : ∃ i : Nat, invP p x = i ∧ i < K ∧ p.getD i 0 = x := by
  have hm := (permOk_mem h x).2 ⟨h0, h1⟩
  obtain ⟨j, hj, hje⟩ := List.mem_iff_getElem.1 hm
  rcases idxOf_cases (fun y => x == y) p with ⟨_, hn⟩ | ⟨k, hk, hkl, hp, _⟩
  · have := hn _ (List.getElem_mem hj); rw [hje] at this; simp at this
  · refine ⟨k, hk, by rw [← permOk_len h]; exact hkl, ?_⟩
    simp only [List.getD, List.getElem?_eq_getElem hkl, Option.getD_some]
    exact (show x = p[k] by simpa using hp).symm

/-- The symbol of a window by the other names. -/
def renF (K : Nat) (T p ys : List Int) : Int := p.getD (T.getD (numW K (ys.map (invP p))) 0).toNat 0
def renT (K n : Nat) (T p : List Int) : List Int := madeP K n (renF K T p) (pw K n)
theorem invP_syms {K : Nat} {p ys : List Int} (h : permOk K p = true) (hy : Syms K ys) : Syms K (ys.map (invP p)) := by
  intro z hz
  obtain ⟨y, hyy, rfl⟩ := List.mem_map.1 hz
  obtain ⟨i, e, hi, _⟩ := invP_spec h (hy y hyy).1 (hy y hyy).2
  rw [e]; omega

theorem fill_front' (A B : List Int) (j : Nat) (hj : j < A.length) (hl : B.length = A.length) : (A.take j ++ B.drop j).set j A[j] = A.take (j + 1) ++ B.drop (j + 1) := by
  have e : (A.take j).length = j := by simp; omega
  rw [List.set_append_right _ _ (by omega), e, Nat.sub_self, List.drop_eq_getElem_cons (show j < B.length by omega), List.set_cons_zero, take_snoc A j hj, List.append_assoc, List.singleton_append]
theorem map_fill (f : Int → Int) (A B : List Int) (j : Nat) (hj : j < A.length) (hl : B.length = A.length) : ((A.map f).take j ++ B.drop j).set j (f A[j]) = (A.map f).take (j + 1) ++ B.drop (j + 1) := by
  have := fill_front' (A.map f) B j (by simpa using hj) (by simpa using hl)
  simpa using this

set_option maxHeartbeats 1000000 in
theorem frename1_any (K R : Nat) (va : Option Addr) (vn vc : Nat) (T : List Int) (pa : Option Addr) (pn pc : Nat) (p : List Int) (b q : Nat) (v : Value) (ys : List Int) (w : World)
    (h : IntsAt w (.slice va vn vc) T) (hr : RuleOk K R T) (hp : IntsAt w (.slice pa pn pc) p) (hpo : permOk K p = true) (hv : IntsAt w v ys) (hy : Syms K ys) (hyl : ys.length = 2 * R + 1)
    (c0 : w.cell? ⟨b, 0, none⟩ = some (.slice pa pn pc)) (x0 : w.cell? ⟨q, 0, none⟩ = some (.int .i64 K)) (x1 : w.cell? ⟨q, 1, none⟩ = some (.int .i64 R)) (x2 : w.cell? ⟨q, 2, none⟩ = some (.slice va vn vc)) :
    Calls Tryd.prog 45 #[v, .pointer (some ⟨b, 0, none⟩), .pointer (some ⟨q, 0, none⟩)] w (Ret1 (fun x _ => x = .int .i64 (renF K T p ys)) w) := by
  have hk1 := hr.k1
  have hR := hr.r3
  have hyl7 : ys.length ≤ 7 := by omega
  have hlen := hv.len
  have hsy := invP_syms hpo hy
  have hyv : T.getD (numW K (ys.map (invP p))) 0 < K ∧ 0 ≤ T.getD (numW K (ys.map (invP p))) 0 := by
    have := hr.syms.getD (by omega) (numW K (ys.map (invP p))); omega
  have hpl := permOk_len hpo
  replace h := Lib.hid h
  replace hp := Lib.hid hp
  replace hpo := Lib.hid hpo
  replace hv := Lib.hid hv
  replace hy := Lib.hid hy
  replace hyl := Lib.hid hyl
  replace hr := Lib.hid hr
  replace hsy := Lib.hid hsy
  replace hpl := Lib.hid hpl
  replace x0 := Lib.hid x0
  replace x1 := Lib.hid x1
  replace x2 := Lib.hid x2
  go_enter Tryd.func45, Tryd.ntmps45
  go_wp2_with (at_make; refine wpl_make rfl _ _ rfl _ rfl rfl (by omega) (by omega) ?_)
  intro ov w1 ho b1
  replace ho := Lib.hid ho
  go_wp2
  go_loopw [13] (fun i wr => ∃ j : Nat, j ≤ ys.length ∧ i = .int .i64 j ∧ OwnI w.heap.size wr ov ((ys.map (invP p)).take j ++ (List.replicate ys.length (0 : Int)).drop j) ∧ Below w.heap.size w wr) (fun i _ => ys.length - (intOf i).toNat)
  case atStart => exact ⟨0, by omega, rfl, by simpa using ho.out, b1⟩
  case round =>
    obtain ⟨j, hj, rfl, hO, hB⟩ := hrel
    obtain ⟨wi, rfl⟩ : ∃ wi : World, wi = wr := ⟨_, rfl⟩
    have cb := cell_keep hB c0
    by_cases hjl : j < ys.length
    · have hXl : ((ys.map (invP p)).take j ++ (List.replicate ys.length (0 : Int)).drop j).length = ys.length := by simp; omega
      have i1 := (hv.out.below hB).idx j hjl
      have c1 := (hv.out.below hB).cell j hjl
      have i2 := hO.at.idx j (by rw [hXl]; exact hjl)
      have c2 := hO.at.cellD j (by rw [hXl]; exact hjl)
      have f2 := hO.frz j (by rw [hXl]; exact hjl)
      have hS := hO.set j (by rw [hXl]; exact hjl) (invP p ys[j])
      have hbS := hO.setBelow hB j (by rw [hXl]; exact hjl) (.int .i64 (invP p ys[j]))
      rw [map_fill (invP p) ys _ j hjl (by simp)] at hS
      have hIx := index_any (.slice pa pn pc) p ys[j] wi (hp.out.below hB)
      obtain ⟨y, hy'⟩ : ∃ y, y = ys[j] := ⟨_, rfl⟩
      rw [← hy'] at c1 hS hbS hIx
      obtain ⟨z, hz⟩ : ∃ z, z = invP p y := ⟨_, rfl⟩
      rw [← hz] at hS hbS hIx
      obtain ⟨z', hz'⟩ : ∃ z', z' = ((ys.map (invP p)).take j ++ (List.replicate ys.length (0 : Int)).drop j).getD j 0 := ⟨_, rfl⟩
      rw [← hz'] at c2
      replace hS := Lib.hid hS
      replace hbS := Lib.hid hbS
      clear hXl hO hy' hz hz'
      replace hIx := Lib.hid hIx
      go_wp2_with (go_at_call 46; refine hIx.out.mono ?_; rintro e w' ⟨rfl, rfl⟩)
      go_roundw
      case rel => exact ⟨j + 1, by omega, by go_num, hS.out, hbS.out⟩
      case measure => simp [intOf]; omega
    · obtain rfl : ys.length = j := by omega
      rw [List.take_of_length_le (by simp), List.drop_of_length_le (by simp), List.append_nil] at hO
      go_wp2
      have hTi := h.out.below hB
      have hPi := hp.out.below hB
      obtain ⟨yi, hyi⟩ : ∃ yi : Nat, T.getD (numW K (ys.map (invP p))) 0 = yi := ⟨(T.getD (numW K (ys.map (invP p))) 0).toNat, by omega⟩
      have i3 := hPi.idx yi (by rw [hpl.out]; omega)
      have c3 := hPi.cellD yi (by rw [hpl.out]; omega)
      have hres : Hid (renF K T p ys = p.getD yi 0) := Lib.hid (by rw [renF, hyi]; rfl)
      have hyi' := Lib.hid hyi
      obtain ⟨W, hW⟩ : ∃ W : World, W = wi.drew := ⟨_, rfl⟩
      have hol : Hid ((ys.map (invP p)).length = 2 * R + 1) := Lib.hid (by rw [List.length_map]; exact hyl.out)
      have hS : W.cell? ⟨b, 0, none⟩ = some (.slice pa pn pc) ∧ W.cell? ⟨q, 0, none⟩ = some (.int .i64 K) ∧ W.cell? ⟨q, 1, none⟩ = some (.int .i64 R) ∧ W.cell? ⟨q, 2, none⟩ = some (.slice va vn vc) ∧ W.cell? (valAt (.slice pa pn pc) yi) = some (.int .i64 (p.getD yi 0)) := by
        have k0 := cell_keep hB x0.out
        have k1 := cell_keep hB x1.out
        have k2 := cell_keep hB x2.out
        rw [hW]; exact ⟨cb, k0, k1, k2, c3⟩
      have hTW := Lib.hid (show IntsAt W _ _ by rw [hW]; exact hTi.drew)
      have hOW := Lib.hid (show OwnI w.heap.size W _ _ by rw [hW]; exact hO.drew)
      have hBW := Lib.hid (show Below w.heap.size w W by rw [hW]; exact hB.drew)
      obtain ⟨ya, hya⟩ : ∃ ya, ya = valAt (.slice pa pn pc) yi := ⟨_, rfl⟩
      obtain ⟨yv, hyv'⟩ : ∃ yv, yv = p.getD yi 0 := ⟨_, rfl⟩
      rw [← hya, ← hyv'] at hS
      rw [← hya] at i3
      rw [← hyv'] at hres
      refine wp_region_plan (fun w' => w'.cell? ⟨b, 0, none⟩ = some (.slice pa pn pc) ∧ w'.cell? ⟨q, 0, none⟩ = some (.int .i64 K) ∧ w'.cell? ⟨q, 1, none⟩ = some (.int .i64 R) ∧ w'.cell? ⟨q, 2, none⟩ = some (.slice va vn vc) ∧ w'.cell? ya = some (.int .i64 yv)) 6 [(0, true), (1, true), (2, true), (3, false), (4, true), (5, true)] (by kernel_rfl) (by kernel_rfl) ?_
      rw [← hW]
      replace hW := Lib.hid hW
      clear c3 hya hyv' cb hyi
      refine headY (v := ?_) (some 25) rfl rfl (Or.inl ⟨by rfl, ?_⟩) hS ?_
      rotate_left
      · rintro W' ⟨s0, s1, s2, s3, s4⟩; go_simp; try with_reducible rfl
      simp only [Act.put, List.setIfInBounds_toArray, List.set_cons_zero, List.set_cons_succ]
      refine headY (v := ?_) (some 26) rfl rfl (Or.inl ⟨by rfl, ?_⟩) hS ?_
      rotate_left
      · rintro W' ⟨s0, s1, s2, s3, s4⟩; go_simp; try with_reducible rfl
      simp only [Act.put, List.setIfInBounds_toArray, List.set_cons_zero, List.set_cons_succ]
      refine headY (v := ?_) (some 27) rfl rfl (Or.inl ⟨by rfl, ?_⟩) hS ?_
      rotate_left
      · rintro W' ⟨s0, s1, s2, s3, s4⟩; go_simp; try with_reducible rfl
      simp only [Act.put, List.setIfInBounds_toArray, List.set_cons_zero, List.set_cons_succ]
      refine headC rfl (fun KK hK => ?_)
      go_simp
      refine (symbol_any K R va vn vc T ov _ _ hTW.out hr.out hOW.out.at hsy.out hol.out).mono ?_
      rintro e w7 ⟨x, rfl, b7, rfl⟩
      rw [hyi'.out]
      have hS7 : w7.cell? ⟨b, 0, none⟩ = some (.slice pa pn pc) ∧ w7.cell? ⟨q, 0, none⟩ = some (.int .i64 K) ∧ w7.cell? ⟨q, 1, none⟩ = some (.int .i64 R) ∧ w7.cell? ⟨q, 2, none⟩ = some (.slice va vn vc) ∧ w7.cell? ya = some (.int .i64 yv) :=
        ⟨cell_keep b7 hS.1, cell_keep b7 hS.2.1, cell_keep b7 hS.2.2.1, cell_keep b7 hS.2.2.2.1, (b7.cell (World.block_lt_of_cell? _ _ hS.2.2.2.2)).trans hS.2.2.2.2⟩
      refine hK _ _ hS7 ?_
      clear hK KK
      refine headY (v := ?_) (some 29) rfl rfl (Or.inl ⟨by rfl, ?_⟩) hS7 ?_
      rotate_left
      · rintro W' ⟨s0, s1, s2, s3, s4⟩; go_simp; try with_reducible rfl
      simp only [Act.put, List.setIfInBounds_toArray, List.set_cons_zero, List.set_cons_succ]
      refine headY (v := ?_) (some 30) rfl rfl (Or.inl ⟨by rfl, ?_⟩) hS7 ?_
      rotate_left
      · rintro W' ⟨s0, s1, s2, s3, s4⟩; go_simp; try with_reducible rfl
      simp only [Act.put, List.setIfInBounds_toArray, List.set_cons_zero, List.set_cons_succ]

      refine head0 ?_
      simp only [List.drop_succ_cons, List.drop_zero]
      have hBe := Lib.hid (Below.step hBW.out b7)
      clear hS hS7
      go_wp2
      refine NoPanic.normal ?_
      go_wp2
      go_ret
      exact ⟨_, rfl, hBe.out, by rw [hres.out]; rfl⟩
end Go.Proofs.YthnkdiejmclmkaaDoor

namespace Go.Proofs.YthnkdiejmclmkaaDoor

theorem invP_at {T : List Int} {j : Nat} (hj : j < T.length) : ∃ i : Nat, invP T (T.getD j 0) = i ∧ i ≤ j ∧ T.getD i 0 = T.getD j 0 := by
  have ej : T.getD j 0 = T[j] := by simp [List.getD, hj]
  rw [ej]
  rcases idxOf_cases (fun y => T[j] == y) T with ⟨_, hn⟩ | ⟨k, hk, hkl, hp, hm⟩
  · have := hn _ (List.getElem_mem hj); simp at this
  · refine ⟨k, hk, ?_, ?_⟩
    · apply Classical.byContradiction
      intro e
      have := hm j hj (by omega)
      simp at this
    · simp only [List.getD, List.getElem?_eq_getElem hkl, Option.getD_some]
      exact (show T[j] = T[k] by simpa using hp).symm
/-- The first symbol whose image is that of a lower one. -/
def SingleIs (T : List Int) (x y : Nat) : Prop := y < T.length ∧ invP T (T.getD y 0) = x ∧ x < y ∧ ∀ i, i < y → (i : Int) ≤ invP T (T.getD i 0)
theorem SingleIs.unique {T : List Int} {x y u v : Nat} (h : SingleIs T x y) (k : SingleIs T u v) : x = u ∧ y = v := by
  obtain ⟨h1, h2, h3, h4⟩ := h
  obtain ⟨k1, k2, k3, k4⟩ := k
  have e : y = v := by
    rcases Nat.lt_trichotomy y v with e | e | e
    · have := k4 y e; rw [h2] at this; omega
    · exact e
    · have := h4 v e; rw [k2] at this; omega
  subst e
  rw [h2] at k2
  exact ⟨by omega, rfl⟩
theorem img0_get {K : Nat} {T a : List Int} {i : Nat} (hi : i < a.length) : (imgP K 0 T a).getD i 0 = T.getD (a.getD i 0).toNat 0 := by
  rw [imgP_getD K 0 T a i (by omega)]
  have e : (a.drop i).take (2 * 0 + 1) = [a.getD i 0] := by
    rw [List.drop_eq_getElem_cons hi, show 2 * 0 + 1 = 0 + 1 from rfl, List.take_succ_cons, List.take_zero]
    simp [List.getD, hi]
  rw [e]
  simp [numW]
theorem SingleIs.twins {K : Nat} {T : List Int} {x y : Nat} (hK : T.length = K) (h : SingleIs T x y) : IsTwins K 0 T [(x : Int)] [(y : Int)] := by
  obtain ⟨h1, h2, h3, h4⟩ := h
  have sx : Syms K [(x : Int)] := fun z hz => by simp at hz; subst hz; omega
  have sy : Syms K [(y : Int)] := fun z hz => by simp at hz; subst hz; omega
  refine ⟨sx, sy, rfl, by simp; omega, by simp, by simp, by simp, ?_⟩
  have he : T.getD x 0 = T.getD y 0 := by
    obtain ⟨i, i1, i2, i3⟩ := invP_at h1
    rw [h2] at i1
    obtain rfl : x = i := by omega
    exact i3
  refine List.ext_getElem (by rw [imgP_length, imgP_length]; rfl) fun i h1 h2 => ?_
  rw [imgP_length] at h1
  have hi : i = 0 := by simp at h1; omega
  subst hi
  have g1 := img0_get (K := K) (T := T) (a := [(x : Int)]) (i := 0) (by simp)
  have g2 := img0_get (K := K) (T := T) (a := [(y : Int)]) (i := 0) (by simp)
  simp [List.getD] at g1 g2 he
  have l1 : 0 < (imgP K 0 T [(x : Int)]).length := by rw [imgP_length]; simp
  have l2 : 0 < (imgP K 0 T [(y : Int)]).length := by rw [imgP_length]; simp
  simp [List.getElem?_eq_getElem l1] at g1
  simp [List.getElem?_eq_getElem l2] at g2
  rw [g1, g2]
  exact he
theorem twins_pos {K R : Nat} {T a b : List Int} (h : IsTwins K R T a b) : 1 ≤ a.length := by
  have hl := h.len
  have hn := h.ne
  rcases a with _ | ⟨x, a⟩
  · cases b with
    | nil => exact absurd rfl hn
    | cons _ _ => simp at hl
  · simp
theorem no_single {K : Nat} {T : List Int} (hK : T.length = K) (h : ∀ i, i < T.length → (i : Int) ≤ invP T (T.getD i 0)) (a b : List Int) : ¬ IsTwins K 0 T a b := by
  intro t
  apply t.ne
  have hinj : ∀ i j, i < T.length → j < T.length → T.getD i 0 = T.getD j 0 → i ≤ j := fun i j hi hj e => by
    obtain ⟨p, p1, p2, _⟩ := invP_at hj
    have := h i hi
    rw [e, p1] at this
    omega
  refine List.ext_getElem t.len fun i h1 h2 => ?_
  have e := congrArg (fun l => l.getD i 0) t.img
  simp only [img0_get h1, img0_get h2] at e
  simp only [List.getD, List.getElem?_eq_getElem h1, List.getElem?_eq_getElem h2, Option.getD_some] at e
  have s1 := t.sa _ (List.getElem_mem h1)
  have s2 := t.sb _ (List.getElem_mem h2)
  have l1 := hinj a[i].toNat b[i].toNat (by omega) (by omega) e
  have l2 := hinj b[i].toNat a[i].toNat (by omega) (by omega) e.symm
  omega
/-- Twins are longer than both their ends. -/
theorem IsTwins.long {K R : Nat} {T a b : List Int} (h : IsTwins K R T a b) : 4 * R + 1 ≤ a.length := by
  apply Classical.byContradiction
  intro hl
  apply h.ne
  have hlen := h.len
  have hlow := h.low
  refine List.ext_getElem? fun i => ?_
  by_cases hi : i < 2 * R
  · have := congrArg (·[i]?) h.front
    simpa [List.getElem?_take, hi] using this
  · by_cases hi2 : i < a.length
    · have := congrArg (·[i - (a.length - 2 * R)]?) h.back
      simp only [List.getElem?_drop] at this
      rw [show a.length - 2 * R + (i - (a.length - 2 * R)) = i by omega, show b.length - 2 * R + (i - (a.length - 2 * R)) = i by omega] at this
      exact this
    · rw [List.getElem?_eq_none (by omega), List.getElem?_eq_none (by omega)]
/-- What twins.Finite tells, determined by the rule. -/
def FinIs (K R : Nat) (T a b : List Int) : Prop :=
  (R = 0 ∧ ∃ x y, SingleIs T x y ∧ a = [(x : Int)] ∧ b = [(y : Int)]) ∨
  (R ≠ 0 ∧ ∃ ws, MeetIs (pw K (2 * R)) (pairL K (pw K (2 * R)) T) ws ∧ a = alongW K (2 * R) (· / pw K (2 * R)) ws ∧ b = alongW K (2 * R) (· % pw K (2 * R)) ws)
theorem FinIs.unique {K R : Nat} {T a b c d : List Int} (h : FinIs K R T a b) (k : FinIs K R T c d) : a = c ∧ b = d := by
  rcases h with ⟨h0, x, y, h1, rfl, rfl⟩ | ⟨h0, ws, h1, rfl, rfl⟩ <;> rcases k with ⟨k0, u, v, k1, rfl, rfl⟩ | ⟨k0, us, k1, rfl, rfl⟩
  · obtain ⟨rfl, rfl⟩ := h1.unique k1; exact ⟨rfl, rfl⟩
  · exact absurd h0 k0
  · exact absurd k0 h0
  · obtain rfl := h1.unique k1; exact ⟨rfl, rfl⟩
end Go.Proofs.YthnkdiejmclmkaaDoor
