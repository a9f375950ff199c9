/-
  Walk: forms.made, with a function that holds two things.
  Walks: forms.behind, forms.check, forms.wrong, forms.Compose.
  A law for a region that draws its order: the operations of its head in an order of our own, each load under a fact on the world that the head keeps; then the forced tail, one behind the other.
  Walks: edenref04.Value, edenref05.fault, edenref05.Mirror at a rule.
  Pieces of a slice of ints: s[k:], s[k:l].
  Plain mathematics: the preimages of a word, begin by begin; the next word; one preimage to each begin where the last place permutes.
  Walks: word.Check, word.Next.
  Walks: rule.Small, package overlap's first functions.
  append(s, t...) as a run and as a step of a drawn region; walk: edenraw.Copy.
  Walks: edenref04.Small, Image, edenref08.Fault.
  Walks: forms.widened, forms.Widen and the function that they hand to forms.made.
  Walks: overlap.Nodes, overlap.Edge at a small rule.
  Walks: forms.Widen at a rule, pairs.working.
  Plain mathematics: the least radius of a rule.
  Walks: edenref05.wide, Widen at a rule, edenref13.Working, edenref08.Count.
-/
import Derived.Test.YtilpckngghffoaaGreatDoorMIt2
import Derived.StillTail
import Derived.Deep.RegionHeld3
import Derived.Deep.DeepCutAuto
import Derived.BigQuiet
namespace Go.Proofs.YtilpckngghffoaaGreatDoor
open Go.RowKit
set_option maxRecDepth 100000

/-- The table of a function of windows. -/
def madeP (K n : Nat) (s : List Int → Int) (m : Nat) : List Int := (List.range m).map fun x => s (digs K n x)
theorem madeP_length (K n : Nat) (s : List Int → Int) (m : Nat) : (madeP K n s m).length = m := by simp [madeP]

theorem madeP_set (K n : Nat) (s : List Int → Int) (m P : Nat) (h : m < P) : (madeP K n s m ++ List.replicate (P - m) (0 : Int)).set m (s (digs K n m)) = madeP K n s (m + 1) ++ List.replicate (P - (m + 1)) 0 := by
  rw [List.set_append_right _ _ (by rw [madeP_length]; exact Nat.le_refl _), madeP_length, Nat.sub_self, show P - m = (P - (m + 1)) + 1 by omega, List.replicate_succ, List.set_cons_zero, madeP, madeP, List.range_succ, List.map_append, List.append_assoc]
  rfl

set_option maxHeartbeats 800000 in
theorem made_two0 (K R F : Nat) (c1 c2 : Value) (s : List Int → Int) (w : World) (hk1 : 1 ≤ K) (hk4 : K ≤ 4) (hR : R ≤ 3)
    (eg : ∀ args w, (callFunc F args).run Tryz.prog w = .ok (.enter F args) w)
    (hF : ∀ (v : Value) (ys : List Int) (w' : World), Below w.heap.size w w' → IntsAt w' v ys → Syms K ys → ys.length = 2 * R + 1 → Calls Tryz.prog F #[v, c1, c2] w' (Ret1 (fun x _ => x = .int .i64 (s ys)) w')) :
    Calls Tryz.prog 170 #[.int .i64 K, .int .i64 R, .func (.func F) #[] #[c1, c2]] w (Ret1 (fun x w' => ∃ a n c, x = .agg #[.int .i64 K, .int .i64 R, .slice a n c] ∧ OwnI w.heap.size w' (.slice a n c) (madeP K (2 * R + 1) s (pw K (2 * R + 1)))) w) := by
  have hpl := pw_le hk1 hk4 (i := 2 * R + 1) (by omega)
  replace hF := Lib.hid hF
  go_enter Tryz.func170, Tryz.ntmps170
  go_wp2_with fail
  refine (size_ok K R _ hk1 hk4 hR).mono ?_
  rintro e w' ⟨rfl, rfl⟩
  go_wp2_with fail
  have hb0 := belowAlloc w (.cells #[.int .i64 0, .int .i64 0, .slice none 0 0] 24)
  obtain ⟨tv, w1, hmk, ho1, hb1⟩ := run_makeI ((pw K (2 * R + 1) : Nat) : Int) (pw K (2 * R + 1)) (w.alloc (.cells #[.int .i64 0, .int .i64 0, .slice none 0 0] 24)) rfl (by omega)
  obtain ⟨ta, tn, tc, rfl⟩ := ho1.at.shape
  rw [hmk]
  simp only [Result.andThen]
  clear hmk
  generalize hN : 2 * R + 1 = N at *
  go_wp2_with fail
  obtain ⟨wv, w2, hmk2, ho2, hb2⟩ := run_makeI (2 * (R : Int) + 1) N (w1.alloc (.cells #[.int .i64 K, .int .i64 R, .slice ta tn tc] 24)) (by omega) (by omega)
  obtain ⟨wa, wn, wc, rfl⟩ := ho2.at.shape
  rw [hmk2]
  simp only [Result.andThen]
  clear hmk2
  obtain ⟨z0, z1, z2, -, -, -⟩ := cells3 hb2
  have lt := (ho1.at.len)
  rw [List.length_replicate] at lt
  have hN7 : N ≤ 7 := by omega
  replace hN := Lib.hid hN
  have ltb : ∀ k, (Value.slice ta tn tc).ownBlock = some k → k < w1.heap.size := fun k hk => (ho1.lt k hk).2
  have lwn := ho2.at.len
  rw [List.length_replicate] at lwn
  have ho1' := Lib.hid ((ho1.alloc (.cells #[.int .i64 K, .int .i64 R, .slice ta tn tc] 24)).below hb2)
  have zz := Lib.hid (And.intro z0 (And.intro z1 z2))
  have hbw := Lib.hid (hb1.trans ((Below.step (belowAlloc w1 (.cells #[.int .i64 K, .int .i64 R, .slice ta tn tc] 24)) hb2).mono hb1.size))
  replace ho2 := Lib.hid ho2
  replace ltb := Lib.hid ltb
  have hsz1 := hb1.size
  simp at hsz1
  have hM : pw K N = pw K N := rfl
  clear hM
  go_wp2
  go_loopw [32] (fun i wr => ∃ m : Nat, m ≤ pw K N ∧ i = .int .i64 m ∧ OwnI (w.heap.size + 1) wr (.slice ta tn tc) (madeP K N s m ++ List.replicate (pw K N - m) 0) ∧ (∃ p : List Int, p.length = N ∧ OwnI (w1.heap.size + 1) wr (.slice wa wn wc) p) ∧
      (wr.cell? ⟨w1.heap.size, 0, none⟩ = some (.int .i64 K) ∧ wr.cell? ⟨w1.heap.size, 1, none⟩ = some (.int .i64 R) ∧ wr.cell? ⟨w1.heap.size, 2, none⟩ = some (.slice ta tn tc)) ∧
      Below (w.heap.size + 1) (w.alloc (.cells #[.int .i64 0, .int .i64 0, .slice none 0 0] 24)) wr) (fun i _ => pw K N - (intOf i).toNat)
  case atStart => exact ⟨0, by omega, rfl, by simpa [madeP] using ho1'.out, ⟨List.replicate N 0, by simp, by simpa using ho2.out⟩, zz.out, by simpa using hbw.out⟩
  case round =>
    obtain ⟨m, hm, rfl, hT, ⟨p, hp, hP⟩, hz, hbO⟩ := hrel
    obtain ⟨wo, rfl⟩ : ∃ wo : World, wo = wr := ⟨_, rfl⟩
    replace hz := Lib.hid hz
    replace hT := Lib.hid hT
    by_cases hml : m < pw K N
    · have hsz2 : w1.heap.size < wo.heap.size := World.block_lt_of_cell? _ _ hz.out.1
      have hK0 : ((K : Int) == 0) = false := by rw [beq_eq_false_iff_ne]; omega
      have hK1 : ¬ (K : Int) = 0 := by omega
      have hK2 : (0 : Int) < K := by omega
      go_wp2
      go_loopw [12, 38] (fun x i wr => ∃ j : Nat, j ≤ N ∧ i = .int .i64 j ∧ x = .int .i64 (m / pw K j : Nat) ∧ OwnI (w1.heap.size + 1) wr (.slice wa wn wc) (p.take (N - j) ++ (digs K N m).drop (N - j)) ∧ Below (w1.heap.size + 1) wo wr) (fun _ i _ => N - (intOf i).toNat)
      case atStart => exact ⟨0, by omega, rfl, by simp [pw], by rw [Nat.sub_zero, List.drop_of_length_le (by rw [digs_length]; exact Nat.le_refl _), List.append_nil, List.take_of_length_le (by omega)]; exact hP, Below.refl _ _⟩
      case round =>
        obtain ⟨j, hj, rfl, rfl, hO, hbI⟩ := hrel
        obtain ⟨wi, rfl⟩ : ∃ wi : World, wi = wr := ⟨_, rfl⟩
        by_cases hjl : j < N
        · have hXl : (p.take (N - j) ++ (digs K N m).drop (N - j)).length = N := by simp [digs_length]; omega
          have i1 : ∀ w', (Instr.indexAt 22 (.slice wa wn wc) (.int .i64 ((N : Int) - 1 - (j : Int)))).run Tryz.prog w' = .ok (.pointer (some (valAt (.slice wa wn wc) (N - 1 - j)))) w' := by
            intro w'
            have := hO.at.idxI ((N : Int) - 1 - (j : Int)) (by omega) (by rw [hXl]; omega) w'
            rwa [show ((N : Int) - 1 - (j : Int)).toNat = N - 1 - j by omega] at this
          have c1 := hO.at.cellD (N - 1 - j) (by rw [hXl]; omega)
          have f1 := hO.frz (N - 1 - j) (by rw [hXl]; omega)
          have hS := hO.set (N - 1 - j) (by rw [hXl]; omega) ((m / pw K j % K : Nat) : Int)
          have hbS := hO.setBelow hbI (N - 1 - j) (by rw [hXl]; omega) (.int .i64 ((m / pw K j % K : Nat) : Int))
          rw [digs_fill K N m j hjl p hp] at hS
          replace hS := Lib.hid hS
          replace hbS := Lib.hid hbS
          have hqd : m / pw K j / K = m / pw K (j + 1) := by rw [Nat.div_div_eq_div_mul, ← pw_succ]
          replace hqd := Lib.hid hqd
          have hql : m / pw K j ≤ 16384 := Nat.le_trans (Nat.div_le_self _ _) (by omega)
          generalize (p.take (N - j) ++ (digs K N m).drop (N - j)).getD (N - 1 - j) 0 = y at c1
          clear hXl hO
          generalize m / pw K j = q at *
          rw [Int.natCast_emod] at hS hbS
          have hd0 : 0 ≤ (q : Int) / (K : Int) := Int.ediv_nonneg (by omega) (by omega)
          have hd1 : (q : Int) / (K : Int) ≤ 16384 := by
            have h1 : q / K ≤ q := Nat.div_le_self _ _
            have h2 : q / K ≤ 16384 := by omega
            exact_mod_cast h2
          have hdw : IntKind.i64.wrap ((q : Int) / (K : Int)) = (q : Int) / (K : Int) := wrapK (by omega) (by omega)
          go_wp2
          go_roundw
          case rel => exact ⟨j + 1, by omega, by go_num, by rw [← hqd.out]; simp, hS.out, hbS.out⟩
          case measure => simp [intOf]; omega
        · have hjN : j = N := by omega
          subst hjN
          rw [Nat.sub_self, List.take_zero, List.drop_zero, List.nil_append] at hO
          have hbW : Below w.heap.size w wi := ((belowAlloc w _).trans (hbO.mono (by omega))).trans (hbI.mono (by omega))
          have hz2 := hbI.cell (p := ⟨w1.heap.size, 2, none⟩) (by simp)
          have hTl : m < (madeP K j s m ++ List.replicate (pw K j - m) (0 : Int)).length := by simp [madeP_length]; omega
          have hTi := hT.out.belowB hbI (fun k hk => by have := ltb.out k hk; omega)
          have i2 := hTi.at.idx m hTl
          have c2 := hTi.at.cellD m hTl
          have f2 := hTi.frz m hTl
          have b2 := hTi.at.blk m hTl
          have z2i := hz2.trans hz.out.2.2
          have zbi : (⟨w1.heap.size, 2, none⟩ : Addr).block < wi.heap.size := World.block_lt_of_cell? _ _ z2i
          generalize (madeP K j s m ++ List.replicate (pw K j - m) (0 : Int)).getD m 0 = o at c2
          replace hTi := Lib.hid hTi
          replace hO := Lib.hid hO
          replace hbW := Lib.hid hbW
          replace hTl := Lib.hid hTl
          clear hz2
          have hvb : (valAt (.slice ta tn tc) m).block ≠ w1.heap.size := by
            have := ltb.out _ (hT.out.toV.blkB m (by simpa using hTl.out)).1
            omega
          have hdl : m + 1 ≤ pw K j := hml
          go_wp2
          go_region_held3 (fun w' => w'.cell? ⟨w1.heap.size, 2, none⟩ = some (.slice ta tn tc)) (go_keep)
            (first | (refine (hF.out _ (digs K j m) _ (by first | exact hbW.out.drew | exact hbW.out) (by first | exact hO.out.at.drew | exact hO.out.at) (digs_syms hk1 _ _) (by rw [digs_length])).mono ?_; rintro e w5 ⟨x5, rfl, hb5, rfl⟩; have y1 := (hb5.cell zbi).trans z2i; have y2 := (hb5.cell b2).trans c2; have y3 := (hb5.frozen b2).trans f2; have bb : Below wi.heap.size wi w5 := ((Below.refl _ _).drew).trans hb5))
          have hT5 := (hTi.out.drew.below hb5).set m hTl.out (s (digs K j m))
          rw [madeP_set K j s m _ hml] at hT5
          have hO5 := (hO.out.drew.below hb5).setOther (hTi.out.drew.below hb5) (by
            intro e
            have e1 := (hT.out.toV.blkB m (by simpa using hTl.out)).1
            have e2 := (hO.out.lt _ (e.trans e1)).1
            have e3 := ltb.out _ e1
            omega) m hTl.out (.int .i64 (s (digs K j m)))
          have hB5 := ((hbO.trans (hbI.mono (by omega))).trans (bb.mono (by omega))).setCell ((hTi.out.blkB m hTl.out)) (.int .i64 (s (digs K j m)))
          have x0 := (World.cell?_setCell_far w5 (valAt (.slice ta tn tc) m) ⟨w1.heap.size, 0, none⟩ (.int .i64 (s (digs K j m))) hvb).trans (((bb.cell (p := ⟨w1.heap.size, 0, none⟩) zbi)).trans ((hbI.cell (p := ⟨w1.heap.size, 0, none⟩) (by simp)).trans hz.out.1))
          have x1 := (World.cell?_setCell_far w5 (valAt (.slice ta tn tc) m) ⟨w1.heap.size, 1, none⟩ (.int .i64 (s (digs K j m))) hvb).trans (((bb.cell (p := ⟨w1.heap.size, 1, none⟩) zbi)).trans ((hbI.cell (p := ⟨w1.heap.size, 1, none⟩) (by simp)).trans hz.out.2.1))
          have x2 := (World.cell?_setCell_far w5 (valAt (.slice ta tn tc) m) ⟨w1.heap.size, 2, none⟩ (.int .i64 (s (digs K j m))) hvb).trans y1
          have xx := Lib.hid (And.intro x0 (And.intro x1 x2))
          clear x0 x1 x2
          replace hT5 := Lib.hid hT5
          replace hO5 := Lib.hid hO5
          replace hB5 := Lib.hid hB5
          go_wp2
          go_roundw
          case rel => exact ⟨m + 1, by omega, by go_num, hT5.out, ⟨digs K j m, digs_length .., hO5.out⟩, xx.out, hB5.out⟩
          case measure => simp [intOf]; omega
    · obtain rfl : m = pw K N := by omega
      rw [Nat.sub_self, List.replicate_zero, List.append_nil] at hT
      obtain ⟨z0, z1, z2⟩ := hz.out
      obtain ⟨y0, y1, y2, f0, f1, f2⟩ := cells3 (w := w) (show Below (w.alloc (.cells #[.int .i64 0, .int .i64 0, .slice none 0 0] 24)).heap.size _ wo by simpa using hbO)
      replace hbO := Lib.hid hbO
      go_wp2
      refine bodyPost_ret (v := .agg #[.int .i64 K, .int .i64 R, .slice ta tn tc]) (by simp [results, Tryz.results170, go_sem, y0, y1, y2]) rfl ⟨_, rfl, ?_, ta, tn, tc, rfl, ?_⟩
      · exact (((belowAlloc w _).trans (hbO.out.mono (by omega))).setCell (by simp) _).setCell (by simp) _ |>.setCell (by simp) _
      · rw [hN.out]; exact (((hT.out.setBelowBase (a := ⟨w.heap.size, 0, none⟩) (by simp) _).setBelowBase (a := ⟨w.heap.size, 1, none⟩) (by simp) _).setBelowBase (a := ⟨w.heap.size, 2, none⟩) (by simp) _).mono (Nat.le_succ _)

theorem made_two (K R F : Nat) (c1 c2 : Value) (s : List Int → Int) (w : World) (hk1 : 1 ≤ K) (hk4 : K ≤ 4) (hR : R ≤ 3) (Ri : Int) (hRi : Ri = R)
    (eg : ∀ args w, (callFunc F args).run Tryz.prog w = .ok (.enter F args) w)
    (hF : ∀ (v : Value) (ys : List Int) (w' : World), Below w.heap.size w w' → IntsAt w' v ys → Syms K ys → ys.length = 2 * R + 1 → Calls Tryz.prog F #[v, c1, c2] w' (Ret1 (fun x _ => x = .int .i64 (s ys)) w')) :
    Calls Tryz.prog 170 #[.int .i64 K, .int .i64 Ri, .func (.func F) #[] #[c1, c2]] w (Ret1 (fun x w' => ∃ a n c, x = .agg #[.int .i64 K, .int .i64 R, .slice a n c] ∧ OwnI w.heap.size w' (.slice a n c) (madeP K (2 * R + 1) s (pw K (2 * R + 1)))) w) := by
  subst hRi
  exact made_two0 K R F c1 c2 s w hk1 hk4 hR eg hF
end Go.Proofs.YtilpckngghffoaaGreatDoor

namespace Go.Proofs.YtilpckngghffoaaGreatDoor
open Go.RowKit
set_option maxRecDepth 100000

abbrev zR : Value := .agg #[.int .i64 0, .int .i64 0, .slice none 0 0]
def sForms : ByteArray := ⟨#[102, 111, 114, 109, 115]⟩
theorem forms_check (r : Nat → Addr) (at_ : Int) (k R : Int) (va : Option Addr) (vn vc : Nat) (xs : List Int) (w : World) (hg : Glob r w) (h : IntsAt w (.slice va vn vc) xs) :
    Calls Tryz.prog 143 #[.int .i64 at_, .agg #[.int .i64 k, .int .i64 R, .slice va vn vc]] w (Ret1 (fun x w' => ErrIs r w' (under sForms at_ (checkP k R xs)) x) w) := by
  have hb0 := belowAlloc w (.cells #[.int .i64 k, .int .i64 R, .slice va vn vc] 24)
  replace hg := Lib.hid (hg.below hb0)
  replace h := Lib.hid (h.below hb0)
  go_enter Tryz.func143, Tryz.ntmps143
  go_wp2_with fail
  refine (check_any r k R _ xs _ hg.out h.out).mono ?_
  rintro e w1 ⟨x, rfl, hb, he⟩
  go_wp2_with fail
  refine (under_any r _ _ _ _ _ he).mono ?_
  rintro e w2 ⟨x, rfl, hb', he⟩
  go_wp2
  go_ret
  exact ⟨_, rfl, Below.step hb0 (Below.step hb hb'), he⟩

end Go.Proofs.YtilpckngghffoaaGreatDoor

namespace Go.Proofs.YtilpckngghffoaaGreatDoor

section
variable {P : Program} {ops : Array Oper} {Q : Exit → Act → World → Prop} {md : Region.Mode} {S : World → Prop}

/-- Whatever order is picked from here on; behind an operation of the head the fact S holds. -/
def wpAnyT (P : Program) (md : Region.Mode) (ops : Array Oper) (Q : Exit → Act → World → Prop) (S : World → Prop) (n : Nat) : Nat → Array Bool → Act → World → Prop
  | 0, listed, a, w => Region.ready md ops listed = [] ∧ Q .normal a w
  | fuel + 1, listed, a, w =>
    (Region.ready md ops listed = [] → Q .normal a w) ∧
    ∀ i ∈ Region.ready md ops listed, wpOp P ops Q i (fun a' w' => (i < n → S w') ∧ wpAnyT P md ops Q S n fuel (listed.setIfInBounds i true) a' w') a w

theorem wpAny_of_T {n : Nat} : ∀ (fuel : Nat) (listed : Array Bool) (a : Act) (w : World), wpAnyT P md ops Q S n fuel listed a w → wpAny P md ops Q fuel listed a w
  | 0, _, _, _, h => h
  | fuel + 1, _, _, _, h => ⟨h.1, fun i hi => wpOp_mono (fun a' w' h' => wpAny_of_T fuel _ a' w' h'.2) (h.2 i hi)⟩

/-- Where the whole head has come up, it is a wpAny. -/
theorem wpAnyT_of {n : Nat} : ∀ (fuel : Nat) (listed : Array Bool) (a : Act) (w : World), (∀ j, j < n → listed.getD j true = true) → wpAny P md ops Q fuel listed a w → wpAnyT P md ops Q S n fuel listed a w
  | 0, _, _, _, _, h => h
  | fuel + 1, listed, a, w, hl, h => ⟨h.1, fun i hi => wpOp_mono (fun a' w' h' => ⟨fun hin => Bool.noConfusion ((hl i hin).symm.trans (mem_ready.1 hi).1), wpAnyT_of fuel _ a' w' (fun j hj => by
        by_cases hij : i = j
        · subst hij
          rcases Nat.lt_or_ge i listed.size with h2 | h2
          · simp [h2]
          · rw [Array.getD_eq_getD_getElem?, Array.getElem?_eq_none (by simpa using h2)]; rfl
        · rw [getD_set_ne true hij]; exact hl j hj) h'⟩) (h.2 i hi)⟩

theorem wpAnyT_first {n i : Nat} {oi : Oper} {v : Value} (hi : ops[i]? = some oi) (hsel : ∀ (j : Nat) (o : Oper) cs b, ops[j]? = some o → o.op ≠ .select cs b)
    (hs : Region.sinkB md ops n = true) (hc : Region.chainB md ops n = true) (hn : n < ops.size) (hin : i < n)
    (hQ : ∀ c a w, Q (.panic c) (a.put oi.dst v) w → Q (.panic c) a w) :
    ∀ (fuel : Nat) (listed : Array Bool) (a : Act) (w : World), HeadInv md ops n listed →
      (∀ j oj, ops[j]? = some oj → j ≠ i → listed.getD j true = false → (∀ e ∈ oj.after, Region.binds md e = true → e.on ≠ i) → oi.apart ops oj = true) →
      i ∈ Region.ready md ops listed → YieldsIf P ops S oi v a → S w →
      wpAnyT P md ops Q S n fuel (listed.setIfInBounds i true) (a.put oi.dst v) w → wpAnyT P md ops Q S n (fuel + 1) listed a w := by
  intro fuel
  induction fuel with
  | zero =>
    intro listed a w inv _ hr hy hS H
    refine ⟨fun h => (by rw [h] at hr; cases hr), fun j hj => ?_⟩
    by_cases hji : j = i
    · subst hji; exact hy.wpOp hi hS ⟨fun _ => hS, H⟩
    · have := ready_mono hj hji
      rw [H.1] at this
      cases this
  | succ fuel ih =>
    intro listed a w inv hfree hr hy hS H
    have hun := (mem_ready.1 hr).1
    refine ⟨fun h => (by rw [h] at hr; cases hr), fun j hj => ?_⟩
    have hjn : j < n := by
      rcases Nat.lt_or_ge j n with h | h
      · exact h
      · exact absurd hj (tail_waits hs hc hn inv _ i rfl hin hun j h)
    by_cases hji : j = i
    · subst hji; exact hy.wpOp hi hS ⟨fun _ => hS, H⟩
    · have h1 := H.2 j (ready_mono hj hji)
      obtain ⟨hjun, oj, hoj, hall⟩ := mem_ready.1 hj
      have hnot : ∀ e ∈ oj.after, Region.binds md e = true → e.on ≠ i := fun e he hb heq => by
        have h1 := hall e he hb
        rw [heq, getD_both hun] at h1
        cases h1
      have h2 := wpOp_putIf hoj (hfree j oj hoj hji hjun hnot) (fun cs b => hsel i oi cs b hi) (fun cs b => hsel j oj cs b hoj) hQ hy h1
      have hfree' : ∀ k ok, ops[k]? = some ok → k ≠ i → (listed.setIfInBounds j true).getD k true = false →
          (∀ e ∈ ok.after, Region.binds md e = true → e.on ≠ i) → oi.apart ops ok = true := fun k ok hk hki hun hno => by
        refine hfree k ok hk hki ?_ hno
        by_cases hjk : j = k
        · subst hjk; exact hjun
        · rw [getD_set_ne true hjk] at hun; exact hun
      refine wpOp_mono (fun a' w' h3 => ⟨fun _ => h3.2.1 hjn, ih (listed.setIfInBounds j true) a' w' (inv.set hj hjn) hfree' (ready_mono hr (Ne.symm hji)) h3.1 (h3.2.1 hjn) ?_⟩) h2
      rw [Array.setIfInBounds_comm _ _ hji]
      exact h3.2.2

/-- The head's operations in the plan's order: (k, true): number k yields a value under S; (k, false): number k alone can come up, whatever it does. -/
def wpHead (P : Program) (ops : Array Oper) (Q : Exit → Act → World → Prop) (S : World → Prop) (K : Act → World → Prop) : List (Nat × Bool) → Act → World → Prop
  | [], a, w => K a w
  | (k, true) :: l, a, w => ∃ o v, ops[k]? = some o ∧ YieldsIf P ops S o v a ∧ S w ∧ wpHead P ops Q S K l (a.put o.dst v) w
  | (k, false) :: l, a, w => wpOp P ops Q k (fun a' w' => S w' ∧ wpHead P ops Q S K l a' w') a w

def planB (md : Region.Mode) (ops : Array Oper) (n : Nat) : List (Nat × Bool) → Array Bool → Bool
  | [], listed => (List.range n).all (fun j => listed.getD j true) && Region.seqB md ops (ops.size - n) n listed
  | (k, true) :: l, listed => decide (k < n) && (Region.ready md ops listed).contains k && Region.free md ops listed k && planB md ops n l (listed.setIfInBounds k true)
  | (k, false) :: l, listed => decide (k < n) && decide (Region.ready md ops listed = [k]) && planB md ops n l (listed.setIfInBounds k true)

theorem wpAnyT_plan {n : Nat} {ol : List Oper} (hol : ops = ol.toArray) (hsel : Region.noSelect ops = true) (hs : Region.sinkB md ops n = true) (hc : Region.chainB md ops n = true) (hn : n < ops.size)
    (hQ : ∀ c a w, Q (.panic c) a w → False) :
    ∀ (l : List (Nat × Bool)) (listed : Array Bool) (a : Act) (w : World), HeadInv md ops n listed → planB md ops n l listed = true →
      wpHead P ops Q S (fun a' w' => wpList P ops Q (ol.drop n) a' w') l a w → wpAnyT P md ops Q S n (l.length + (ops.size - n)) listed a w
  | [], listed, a, w, inv, hB, h => by
    simp only [planB, Bool.and_eq_true] at hB
    have hl : ∀ j, j < n → listed.getD j true = true := fun j hj => List.all_eq_true.1 hB.1 j (List.mem_range.2 hj)
    rw [List.length_nil, Nat.zero_add]
    refine wpAnyT_of _ _ _ _ hl ?_
    have hdl : (ol.drop n).length = ops.size - n := by subst hol; simp
    rw [← hdl]
    refine wpAny_of_seq (ol.drop n) n listed a w (fun j => by subst hol; simp) ?_ h
    rw [hdl]; exact hB.2
  | (k, true) :: l, listed, a, w, inv, hB, h => by
    simp only [planB, Bool.and_eq_true, decide_eq_true_eq] at hB
    obtain ⟨⟨⟨hkn, hr⟩, hf⟩, hB'⟩ := hB
    obtain ⟨o, v, ho, hy, hS, h'⟩ := h
    have hr' : k ∈ Region.ready md ops listed := by simpa using hr
    rw [show ((k, true) :: l).length + (ops.size - n) = (l.length + (ops.size - n)) + 1 by simp; omega]
    exact wpAnyT_first ho (Region.noSelect_spec hsel) hs hc hn hkn (fun c a w h => (hQ c _ w h).elim) _ listed a w inv (Region.free_spec ho hf) hr' hy hS
      (wpAnyT_plan hol hsel hs hc hn hQ l _ _ _ (inv.set hr' hkn) hB' h')
  | (k, false) :: l, listed, a, w, inv, hB, h => by
    simp only [planB, Bool.and_eq_true, decide_eq_true_eq] at hB
    obtain ⟨⟨hkn, hr⟩, hB'⟩ := hB
    rw [show ((k, false) :: l).length + (ops.size - n) = (l.length + (ops.size - n)) + 1 by simp; omega]
    refine ⟨fun h0 => (by rw [h0] at hr; cases hr), fun i hi => ?_⟩
    have hi' := hi
    rw [hr] at hi'
    obtain rfl : i = k := by simpa using hi'
    exact wpOp_mono (fun a' w' h3 => ⟨fun _ => h3.1, wpAnyT_plan hol hsel hs hc hn hQ l _ a' w' (inv.set hi hkn) hB' h3.2⟩) h

/-- What is asked of the region and the plan. -/
def tailB (md : Region.Mode) (ops : Array Oper) (n : Nat) (plan : List (Nat × Bool)) : Bool :=
  Region.noSelect ops && decide (n < ops.size) && Region.sinkB md ops n && Region.chainB md ops n && decide (plan.length = n) && planB md ops n plan (Array.replicate ops.size false)

/-- **The law**: a region that draws its order, by a plan for its head; then its tail, one behind the other. -/
theorem wp_region_plan {id : Nat} {a : Act} {w : World} {l : List Oper} (S : World → Prop) (n : Nat) (plan : List (Nat × Bool)) (hm : P.follows .mixedOrders = true) (hB : tailB .any l.toArray n plan = true)
    (h : wpHead P l.toArray (NoPanic Q) S (fun a' w' => wpList P l.toArray (NoPanic Q) (l.drop n) a' w') plan a w.drew) : (Code.region id l.toArray true).wp P Q a w := by
  simp only [tailB, Bool.and_eq_true, decide_eq_true_eq] at hB
  obtain ⟨⟨⟨⟨⟨hsel, hn⟩, hs⟩, hc⟩, hlen⟩, hp⟩ := hB
  refine wp_region_noPanic ?_
  refine wp_region_any hm ?_
  have inv0 : HeadInv .any l.toArray n (Array.replicate l.toArray.size false) :=
    ⟨by simp, fun j oj _ hl => (by rw [getD_replicate_false] at hl; cases hl), fun t _ ht => getD_in (by simpa using ht) (getD_replicate_false _ _)⟩
  have := wpAnyT_plan (md := .any) (Q := NoPanic Q) (S := S) rfl hsel hs hc hn (fun _ _ _ h => h) plan _ a _ inv0 hp h
  rw [hlen, show n + (l.toArray.size - n) = l.toArray.size by omega] at this
  exact wpAny_of_T _ _ _ _ this

/-- A step that yields. -/
theorem headY {K : Act → World → Prop} {k : Nat} {o : Oper} {v : Value} {l : List (Nat × Bool)} {a : Act} {w : World} (d : Option Tmp) (ho : ops[k]? = some o) (hd : o.dst = d)
    (hy : YieldsIf P ops S o v a) (hS : S w) (h : wpHead P ops Q S K l (a.put d v) w) : wpHead P ops Q S K ((k, true) :: l) a w := by
  subst hd; exact ⟨o, v, ho, hy, hS, h⟩
/-- A step that does whatever it does. -/
theorem headC {K : Act → World → Prop} {k : Nat} {o : Oper} {l : List (Nat × Bool)} {a : Act} {w : World} (ho : ops[k]? = some o)
    (h : ∀ K' : Act → World → Prop, (∀ a w, S w → wpHead P ops Q S K l a w → K' a w) → if Region.wanted o (yielded ops a.tmps) = true then Oper.wp P o a w K' Q else K' (a.put o.dst undef) w) :
    wpHead P ops Q S K ((k, false) :: l) a w := by
  show wpOp _ _ _ _ _ _ _
  unfold wpOp
  simp only [ho]
  have := h (fun a' w' => S w' ∧ wpHead P ops Q S K l a' w') (fun a w h1 h2 => ⟨h1, h2⟩)
  split
  · rename_i hw; rw [if_pos hw] at this; exact .inl this
  · rename_i hw; rw [if_neg hw] at this; exact this
theorem head0 {K : Act → World → Prop} {a : Act} {w : World} (h : K a w) : wpHead P ops Q S K [] a w := h
end
end Go.Proofs.YtilpckngghffoaaGreatDoor

namespace Go.Proofs.YtilpckngghffoaaGreatDoor
open Go.RowKit
set_option maxRecDepth 100000

theorem ref_value (K : Nat) (u : Value) (ys : List Int) (w : World) (hk1 : 1 ≤ K) (hk4 : K ≤ 4) (hu : IntsAt w u ys) (hy : Syms K ys) (hyl : ys.length ≤ 7) :
    Calls Tryz.prog 68 #[.int .i64 K, u] w fun e w' => e = .returned (.int .i64 (numW K ys)) ∧ w = w' := by
  have l1 := hu.len
  replace hu := Lib.hid hu
  replace hy := Lib.hid hy
  go_enter Tryz.func68, Tryz.ntmps68
  go_wp2
  go_loop [5, 6] (fun n i => ∃ j : Nat, j ≤ ys.length ∧ i = .int .i64 j ∧ n = .int .i64 (numW K (ys.take j))) (fun _ i => ys.length - (intOf i).toNat)
  case atStart => exact ⟨0, by omega, rfl, rfl⟩
  case round =>
    obtain ⟨j, hj, rfl, rfl⟩ := hrel
    by_cases hjl : j < ys.length
    · have i1 := hu.out.idx j hjl
      have c1 := hu.out.cell j hjl
      have hx := hy.out ys[j] (by simp)
      have hn : Hid (numW K (ys.take (j + 1)) = numW K (ys.take j) * K + ys[j].toNat) := by
        show _ = _
        rw [take_snoc ys j hjl, numW_snoc]
      have hn2 : numW K (ys.take j) ≤ 16384 := by
        have h1 := numW_lt (ys.take j) (fun x hx => hy.out x (List.mem_of_mem_take hx))
        have h2 := pw_le hk1 hk4 (i := (ys.take j).length) (by simp; omega)
        omega
      generalize ys[j] = x at c1 hx hn
      generalize numW K (ys.take j) = N at hn hn2
      have hm1 : 0 ≤ (N : Int) * (K : Int) := Int.mul_nonneg (by omega) (by omega)
      have hm2 : (N : Int) * (K : Int) ≤ 65536 := by
        have : N * K ≤ 65536 := Nat.mul_le_mul hn2 hk4
        have h2 := Int.ofNat_le.2 this
        rw [Int.natCast_mul] at h2
        exact h2
      go_wp2
      go_round
      case rel => exact ⟨j + 1, by omega, by go_num, by rw [hn.out]; go_num⟩
      case measure => simp [intOf]; omega
    · obtain rfl : j = ys.length := by omega
      rw [List.take_length]
      go_wp2
      go_ret
      exact ⟨rfl, rfl⟩

theorem f05_fault (at_ k R : Int) (va : Option Addr) (vn vc : Nat) (xs : List Int) (w : World) (h : IntsAt w (.slice va vn vc) xs) :
    Calls Tryz.prog 146 #[.int .i64 at_, .agg #[.int .i64 k, .int .i64 R, .slice va vn vc]] w (Ret1 (fun x w' => EOwn w.heap.size w' (under sForms at_ (checkP k R xs)) x) w) := by
  have b0 := Below.step (belowAlloc w (.cells #[.int .i64 k, .int .i64 R, .slice va vn vc] 24)) (belowAlloc _ (.cells #[.int .i64 0, .slice none 0 0, .slice none 0 0] 33))
  have q4 : Box3 ((w.alloc (.cells #[.int .i64 k, .int .i64 R, .slice va vn vc] 24)).alloc (.cells #[.int .i64 0, .slice none 0 0, .slice none 0 0] 33)) (w.heap.size + 1) (.int .i64 0) (.slice none 0 0) (.slice none 0 0) := by simp [Box3, go_sem]
  replace h := Lib.hid (h.below b0)
  go_enter Tryz.func146, Tryz.ntmps146
  go_wp2_with fail
  refine (ref_check k R va vn vc xs _ h.out).mono ?_
  rintro e w1 ⟨x, rfl, b1, he⟩
  go_wp2_with fail
  refine (raw_under _ at_ (checkP k R xs) x _ he.at (fun n l e => by
    have := checkP_num e
    simp only at this
    exact ⟨by omega, by omega, by omega⟩)).mono ?_
  rintro e w2 ⟨x2, rfl, b2, he2⟩
  obtain ⟨q, a1, n1, c1, a2, n2, c2, rfl⟩ := he2.shape
  have q4' := q4.below (Below.step b1 b2)
  obtain ⟨⟨y0, y1, y2⟩, f0, f1, f2⟩ := q4'
  have hs := b1.size
  simp only [World.size_alloc] at hs
  replace he2 := Lib.hid he2
  go_wp2
  exact bodyPost_ret (v := .agg #[.int .i64 q, .slice a1 n1 c1, .slice a2 n2 c2]) (by simp [results, Tryz.results146, go_sem, y0, y1, y2]) rfl ⟨_, rfl, below_set3 (Below.step b0 (Below.step b1 b2)) (Nat.le_succ _) _ _ _, (he2.out.set3 (by omega) _ _ _).mono (by omega)⟩
end Go.Proofs.YtilpckngghffoaaGreatDoor

namespace Go.Proofs.YtilpckngghffoaaGreatDoor
open Go.RowKit

theorem IntsAt.piece {w : World} {a : Option Addr} {cap : Nat} {xs : List Int} (h : IntsAt w (.slice a xs.length cap) xs) (k l : Nat) (hk : k ≤ l) (hl : l ≤ xs.length) :
    IntsAt w (sliced a k l cap 1) ((xs.take l).drop k) := by
  obtain ⟨a', cap', e, h1, h2, h3, h4⟩ := h
  injection e with e1 _ e3
  subst e1 e3
  have hlen : ((xs.take l).drop k).length = l - k := by simp; omega
  refine ⟨if cap = k then a else a.map (·.add (k * 1)), cap - k, by rw [hlen]; rfl, by rw [hlen]; omega, by omega, ?_, fun i hi => ?_⟩
  · intro hn
    by_cases hc : cap = k
    · omega
    · rw [if_neg hc] at hn
      have := h3 (Option.map_eq_none_iff.1 hn)
      omega
  · rw [hlen] at hi
    have hc : ¬ cap = k := by omega
    show w.cell? (valAt (.slice (if cap = k then a else a.map (·.add (k * 1))) _ _) i) = _
    rw [if_neg hc]
    cases a with
    | none => have := h3 rfl; omega
    | some p =>
      have h5 := h4 (k + i) (by omega)
      simp only [valAt] at h5
      show w.cell? ((p.add (k * 1)).add i) = _
      rw [Nat.mul_one, show (p.add k).add i = p.add (k + i) by unfold Addr.add; by_cases hk0 : k = 0 <;> by_cases hi0 : i = 0 <;> simp [hk0, hi0, Nat.add_assoc], h5]
      simp

/-- s[k:]. -/
theorem IntsAt.post {w : World} {v : Value} {xs : List Int} (h : IntsAt w v xs) (k : Nat) (hk : k ≤ xs.length) :
    ∃ u, (∀ w', (Instr.slice 22 v (some (.int .i64 k)) none none).run Tryz.prog w' = .ok u w') ∧ IntsAt w u (xs.drop k) := by
  have h' := h
  obtain ⟨a, cap, rfl, _⟩ := h'
  refine ⟨sliced a k xs.length cap 1, fun w' => ?_, ?_⟩
  · rw [run_slice_l w' 22 a xs.length cap uIntsE .i64 k (by omega) (by omega), eInts, sInt]
    rfl
  · have := h.piece k xs.length hk (Nat.le_refl _)
    rwa [List.take_length] at this

/-- s[k:l]. -/
theorem IntsAt.mid {w : World} {v : Value} {xs : List Int} (h : IntsAt w v xs) (k l : Nat) (hk : k ≤ l) (hl : l ≤ xs.length) :
    ∃ u, (∀ w', (Instr.slice 22 v (some (.int .i64 k)) (some (.int .i64 l)) none).run Tryz.prog w' = .ok u w') ∧ IntsAt w u ((xs.take l).drop k) := by
  have h' := h
  obtain ⟨a, cap, rfl, h1, _⟩ := h'
  refine ⟨sliced a k l cap 1, fun w' => ?_, h.piece k l hk hl⟩
  rw [run_slice_lh w' 22 a xs.length cap uIntsE .i64 .i64 k l (by omega) (by omega) (by omega), eInts, sInt]
  rfl

/-- s[:l]. -/
theorem IntsAt.front {w : World} {v : Value} {xs : List Int} (h : IntsAt w v xs) (l : Nat) (hl : l ≤ xs.length) :
    ∃ u, (∀ w', (Instr.slice 22 v none (some (.int .i64 l)) none).run Tryz.prog w' = .ok u w') ∧ IntsAt w u (xs.take l) := by
  have h' := h
  obtain ⟨a, cap, rfl, h1, _⟩ := h'
  refine ⟨sliced a 0 l cap 1, fun w' => ?_, ?_⟩
  · rw [run_slice_h w' 22 a xs.length cap uIntsE .i64 l (by omega) (by omega), eInts, sInt]
    rfl
  · have := h.piece 0 l (Nat.zero_le _) hl
    simpa using this
end Go.Proofs.YtilpckngghffoaaGreatDoor

namespace Go.Proofs.YtilpckngghffoaaGreatDoor

/-- How many begin so. -/
def begins (n : Nat) (ends l : List Int) : Bool := decide (n ≤ l.length) && decide (l.take n = ends)
end Go.Proofs.YtilpckngghffoaaGreatDoor

namespace Go.Proofs.YtilpckngghffoaaGreatDoor
open Go.RowKit
set_option maxRecDepth 100000

end Go.Proofs.YtilpckngghffoaaGreatDoor

namespace Go.Proofs.YtilpckngghffoaaGreatDoor
open Go.RowKit
set_option maxRecDepth 100000

def sOverlap : ByteArray := ⟨#[111, 118, 101, 114, 108, 97, 112]⟩
/-- rule.Small's answer. -/
def smallP (k R : Int) (T : List Int) : PErr :=
  match checkP k R T with
  | some t => some t
  | none => if 256 < T.length then fresh sRule 0 4 else none
theorem smallP_ok {K R : Nat} {T : List Int} (h : RuleOk K R T) : smallP K R T = if 256 < T.length then fresh sRule 0 4 else none := by
  unfold smallP; rw [h.check]
theorem smallP_none {k R : Int} {T : List Int} (h : smallP k R T = none) : checkP k R T = none ∧ T.length ≤ 256 := by
  unfold smallP at h
  cases hc : checkP k R T with
  | some t => rw [hc] at h; cases h
  | none =>
    rw [hc] at h
    refine ⟨rfl, ?_⟩
    by_cases hl : 256 < T.length
    · rw [if_pos hl] at h; simp [fresh] at h
    · omega

theorem small_any (r : Nat → Addr) (k R : Int) (va : Option Addr) (vn vc : Nat) (T : List Int) (w : World) (hg : Glob r w) (h : IntsAt w (.slice va vn vc) T) :
    Calls Tryz.prog 51 #[.agg #[.int .i64 k, .int .i64 R, .slice va vn vc]] w (Ret1 (fun x w' => ErrIs r w' (smallP k R T) x) w) := by
  have b0 := belowAlloc w (.cells #[.int .i64 k, .int .i64 R, .slice va vn vc] 24)
  have q : Box3 (w.alloc (.cells #[.int .i64 k, .int .i64 R, .slice va vn vc] 24)) w.heap.size (.int .i64 k) (.int .i64 R) (.slice va vn vc) := by simp [Box3, go_sem]
  have lT := h.len
  replace hg := Lib.hid (hg.below b0)
  replace h := Lib.hid (h.below b0)
  obtain ⟨e0, hsm, he0⟩ : ∃ e0, (smallP k R T = match e0 with | some t => some t | none => if 256 < T.length then fresh sRule 0 4 else none) ∧ checkP k R T = e0 := ⟨_, rfl, rfl⟩
  replace he0 := Lib.hid he0
  go_enter Tryz.func51, Tryz.ntmps51
  go_wp2_with fail
  refine (check_any r k R _ T _ hg.out h.out).mono ?_
  rintro e w1 ⟨x, rfl, b1, he⟩
  rw [he0.out] at he
  cases e0 with
  | some t =>
    simp only [] at hsm
    replace hsm := Lib.hid hsm
    obtain ⟨T1, a1, rfl⟩ := ErrIs.some_shape he
    replace he := Lib.hid he
    go_wp2
    go_ret
    exact ⟨_, rfl, Below.step b0 b1, by rw [hsm.out]; exact he.out⟩
  | none =>
    obtain rfl := he.none_eq
    simp only [] at hsm
    clear he
    obtain ⟨⟨z0, z1, z2⟩, -, -, -⟩ := q.below b1
    by_cases hl : 256 < T.length
    · rw [if_pos hl] at hsm
      replace hsm := Lib.hid hsm
      go_wp2_with fail
      refine (rule_wrong r _ _ _ (hg.out.below b1) (by decide) (by decide)).mono ?_
      rintro e w2 ⟨x, rfl, b2, he⟩
      go_wp2
      go_ret
      exact ⟨_, rfl, Below.step b0 (Below.step b1 b2), by rw [hsm.out]; exact he⟩
    · rw [if_neg hl] at hsm
      replace hsm := Lib.hid hsm
      go_wp2
      go_ret
      exact ⟨_, rfl, Below.step b0 b1, by rw [hsm.out]; rfl⟩

theorem over_small (r : Nat → Addr) (k R : Int) (va : Option Addr) (vn vc : Nat) (T : List Int) (w : World) (hg : Glob r w) (h : IntsAt w (.slice va vn vc) T) :
    Calls Tryz.prog 113 #[.agg #[.int .i64 k, .int .i64 R, .slice va vn vc]] w (Ret1 (fun x w' => ErrIs r w' (under sOverlap 0 (smallP k R T)) x) w) := by
  have b0 := belowAlloc w (.cells #[.int .i64 k, .int .i64 R, .slice va vn vc] 24)
  replace hg := Lib.hid (hg.below b0)
  replace h := Lib.hid (h.below b0)
  go_enter Tryz.func113, Tryz.ntmps113
  go_wp2_with fail
  refine (small_any r k R va vn vc T _ hg.out h.out).mono ?_
  rintro e w1 ⟨x, rfl, b1, he⟩
  go_wp2_with fail
  refine (under_any r _ 0 _ x _ he).mono ?_
  rintro e w2 ⟨y, rfl, b2, hy⟩
  go_wp2
  go_ret
  exact ⟨_, rfl, Below.step b0 (Below.step b1 b2), hy⟩

theorem over_nodes (K R : Nat) (va : Option Addr) (vn vc : Nat) (T : List Int) (w : World) (h : IntsAt w (.slice va vn vc) T) (h1 : 1 ≤ K) (hT : T.length ≤ 16384) :
    Calls Tryz.prog 114 #[.agg #[.int .i64 K, .int .i64 R, .slice va vn vc]] w fun e w' => e = .returned (.int .i64 ((T.length / K : Nat) : Int)) ∧ w' = w.alloc (.cells #[.int .i64 K, .int .i64 R, .slice va vn vc] 24) := by
  have hK0 : ((K : Int) == 0) = false := by rw [beq_eq_false_iff_ne]; omega
  have hK1 : ¬ (K : Int) = 0 := by omega
  have hK2 : (0 : Int) < K := by omega
  have hK3 : ¬ K = 0 := by omega
  have lT := h.len
  have hq0 : 0 ≤ (T.length : Int) / (K : Int) := Int.ediv_nonneg (by omega) (by omega)
  have hqc : (T.length : Int) / (K : Int) = ((T.length / K : Nat) : Int) := by simp
  have hqw : IntKind.i64.wrap ((T.length : Int) / (K : Int)) = (T.length : Int) / (K : Int) := by
    have : T.length / K ≤ 16384 := Nat.le_trans (Nat.div_le_self _ _) hT
    exact wrapK (by omega) (by rw [hqc]; omega)
  rw [← hqc]
  replace hqc := Lib.hid hqc
  go_enter Tryz.func114, Tryz.ntmps114
  go_wp2
  go_ret
  exact ⟨rfl, rfl⟩

end Go.Proofs.YtilpckngghffoaaGreatDoor

namespace Go.Proofs.YtilpckngghffoaaGreatDoor
open Go.RowKit
set_option maxRecDepth 100000

theorem run_appI {w : World} (B : Nat) (ty : TypeId) (v u : Value) (xs ys : List Int) (hown : OwnI B w v xs) (hu : IntsAt w u ys) (hlen : xs.length + ys.length ≤ 17592186044416) (hB : B ≤ w.heap.size) :
    ∃ v' w', (Builtin.append_ #[22, 22] ty #[v, u]).run Tryz.prog w = .ok v' w' ∧ OwnI B w' v' (xs ++ ys) ∧ Below B w w' ∧ w.grownBy w' v.ownBlock ∧ (v'.ownBlock = v.ownBlock ∨ v'.ownBlock = some w.heap.size) := by
  obtain ⟨i, hi, hz0, hz1, hz2⟩ := info_parts iInt
  obtain ⟨ao, cap, rfl, h1, h2, h3, h4⟩ := hu
  cases ao with
  | none =>
    obtain rfl := h3 rfl
    have hy : ys = [] := List.length_eq_zero_iff.1 (by omega)
    subst hy
    have hrun := run_append_owned_none (P := Tryz.prog) w B 22 ty 3 i 1 uInts hi v xs.length _ hown
    exact ⟨_, _, hrun, by simpa using hown, Below.refl _ _, World.grownBy.refl _ _, .inl rfl⟩
  | some p =>
    obtain ⟨v', w', hr, ho', hgr, _, hat⟩ := run_append_own_at (P := Tryz.prog) w B 22 ty 3 i (.int .i64 0) 1 8 uInts hi hz0 hz1 hz2 rfl (by decide) v xs.length _ hown p ys.length cap (ys.map (.int .i64)) (by simp) (fun j u hj => by
      have hjl : j < ys.length := by have := (List.getElem?_eq_some_iff.1 hj).1; simpa using this
      have := h4 j hjl
      simp only [valAt] at this
      rw [this, ← hj]; simp [hjl]) (ints_oneCell _ _) (by unfold maxLen; omega) (by omega) hB
    exact ⟨v', w', hr, by simpa [OwnI] using ho', (Below.refl _ _).grown hgr hB (fun k hk => (hown.lt k hk).1), hgr, hat⟩

/-- append(s, t...) in a region that draws. -/
theorem step_appI {ops : Array Oper} {o : Oper} {a : Act} {w : World} {K : Act → World → Prop} {Q : Exit → Act → World → Prop} {Ep : Prop} (hgd : o.guard = none) (s x : Operand)
    (ho : o.op = .call { callee := .builtin .append, args := #[s, x], argTypes := #[22, 22] })
    (B : Nat) (v u : Value) (xs ys : List Int) (hs : a.eval s = v) (hx : a.eval x = u) (hown : OwnI B w v xs) (hu : IntsAt w u ys)
    (hlen : xs.length + ys.length ≤ 17592186044416) (hB : B ≤ w.heap.size)
    (h : ∀ v' w', OwnI B w' v' (xs ++ ys) → Below B w w' → K (a.put o.dst v') w') :
    if Region.wanted o (yielded ops a.tmps) = true then Oper.wp Tryz.prog o a w K Q else Ep := by
  have hw : Region.wanted o (yielded ops a.tmps) = true := by simp [Region.wanted, hgd]
  rw [if_pos hw]
  obtain ⟨v', w', hr, h2, h3, _, _⟩ := run_appI B o.type v u xs ys hown hu hlen hB
  unfold Oper.wp
  simp [execOp, ho, resolve, invoke, builtin, hs, hx, hr, Result.andThen]
  exact h v' w' h2 h3

theorem copy_any (v : Value) (xs : List Int) (w : World) (h : IntsAt w v xs) (hl : xs.length ≤ 17592186044416) :
    Calls Tryz.prog 120 #[v] w (Ret1 (fun x w' => OwnI w.heap.size w' x xs) w) := by
  have b0 := belowAlloc w (.cells #[] 3)
  have ho := OwnI.lit w.heap.size w (Nat.le_refl _) [] (by unfold maxLen; simp) #[] rfl 0 rfl
  replace ho := Lib.hid ho
  replace h := Lib.hid (h.below b0)
  go_enter Tryz.func120, Tryz.ntmps120
  go_wp2_with (at_builtin; refine wpl_append rfl _ _ rfl w.heap.size _ v [] xs ho.out h.out rfl rfl (by simpa using hl) (by simp) ?_)
  intro v' w' h2 h3 _ _
  go_wp2
  go_ret
  exact ⟨_, rfl, Below.trans (b0.mono (Nat.le_refl _)) h3, h2⟩
end Go.Proofs.YtilpckngghffoaaGreatDoor

namespace Go.Proofs.YtilpckngghffoaaGreatDoor
open Go.RowKit
set_option maxRecDepth 100000

theorem err_box8 (w1 : World) (x0 x1 x2 : Value) :
    Below w1.heap.size w1 (w1.alloc (.cells #[x0, x1, x2] 33)) ∧ Box3 (w1.alloc (.cells #[x0, x1, x2] 33)) w1.heap.size x0 x1 x2 := by
  obtain ⟨y0, y1, y2, f⟩ := cells3 (Below.refl (w1.alloc (.cells #[x0, x1, x2] 33)).heap.size (w1.alloc (.cells #[x0, x1, x2] 33)))
  exact ⟨belowAlloc w1 _, ⟨y0, y1, y2⟩, f⟩
theorem smallP_num {k R : Int} {T : List Int} {n : Int} {l : List (ByteArray × Int)} (h : smallP k R T = some (n, l)) : 1 ≤ n ∧ n ≤ 11 ∧ l.length = 1 := by
  unfold smallP at h
  cases hc : checkP k R T with
  | some t =>
    rw [hc] at h
    injection h with h
    subst h
    have := checkP_num hc
    simp only at this
    omega
  | none =>
    rw [hc] at h
    dsimp only at h
    split at h
    · injection h with h
      injection h with h1 h2
      subst h1; subst h2
      simp
    · cases h

set_option maxHeartbeats 2000000 in
theorem ref_small (k R : Int) (va : Option Addr) (vn vc : Nat) (T : List Int) (w : World) (h : IntsAt w (.slice va vn vc) T) :
    Calls Tryz.prog 93 #[.agg #[.int .i64 k, .int .i64 R, .slice va vn vc]] w (Ret1 (fun x w' => EOwn w.heap.size w' (smallP k R T) x) w) := by
  have b0 := Below.step (belowAlloc w (.cells #[.int .i64 k, .int .i64 R, .slice va vn vc] 24)) (belowAlloc _ (.cells #[.int .i64 0, .slice none 0 0, .slice none 0 0] 33))
  have q : Box3 ((w.alloc (.cells #[.int .i64 k, .int .i64 R, .slice va vn vc] 24)).alloc (.cells #[.int .i64 0, .slice none 0 0, .slice none 0 0] 33)) w.heap.size (.int .i64 k) (.int .i64 R) (.slice va vn vc) := by simp [Box3, go_sem]
  have q4 : Box3 ((w.alloc (.cells #[.int .i64 k, .int .i64 R, .slice va vn vc] 24)).alloc (.cells #[.int .i64 0, .slice none 0 0, .slice none 0 0] 33)) (w.heap.size + 1) (.int .i64 0) (.slice none 0 0) (.slice none 0 0) := by simp [Box3, go_sem]
  have lT := h.len
  have s0 : ((w.alloc (.cells #[.int .i64 k, .int .i64 R, .slice va vn vc] 24)).alloc (.cells #[.int .i64 0, .slice none 0 0, .slice none 0 0] 33)).heap.size = w.heap.size + 2 := by simp
  replace h := Lib.hid (h.below b0)
  obtain ⟨e0, hsm, he0⟩ : ∃ e0, (smallP k R T = match e0 with | some t => some t | none => if 256 < T.length then fresh sRule 0 4 else none) ∧ checkP k R T = e0 := ⟨_, rfl, rfl⟩
  replace he0 := Lib.hid he0
  replace s0 := Lib.hid s0
  go_enter Tryz.func93, Tryz.ntmps93
  go_wp2_with fail
  refine (ref_check k R va vn vc T _ h.out).mono ?_
  rintro e w1 ⟨x, rfl, b1, he⟩
  rw [he0.out] at he
  obtain ⟨qn, a1, n1, c1, a2, n2, c2, rfl⟩ := he.shape
  obtain ⟨be, bx⟩ := err_box8 w1 (.int .i64 qn) (.slice a1 n1 c1) (.slice a2 n2 c2)
  have c1e := Below.step b1 be
  have q' := q.below c1e
  have q4' := q4.below c1e
  have heb := he.below be
  have s1 := b1.size
  rw [s0.out] at s1
  obtain ⟨W2, hW2⟩ : ∃ W2 : World, w1.alloc (.cells #[.int .i64 qn, .slice a1 n1 c1, .slice a2 n2 c2] 33) = W2 := ⟨_, rfl⟩
  have s2 : w1.heap.size < W2.heap.size := by rw [← hW2]; simp
  have b02 := Below.step b0 c1e
  rw [hW2] at be bx c1e q' q4' heb b02
  replace hW2 := Lib.hid hW2
  obtain ⟨⟨y0, y1, y2⟩, -, -, -⟩ := bx
  have hq : (qn != 0) = e0.isSome := by
    cases e0 with
    | none =>
      have : Value.agg #[.int .i64 qn, .slice a1 n1 c1, .slice a2 n2 c2] = .agg #[.int .i64 0, .slice none 0 0, .slice none 0 0] := he
      injection this with this
      injection this with this
      injection this with h1 h2
      injection h1 with _ h1
      rw [h1]; rfl
    | some t =>
      obtain ⟨n, l⟩ := t
      obtain ⟨_, _, _, _, _, _, e, _⟩ := he
      injection e with e
      injection e with e
      injection e with h1 h2
      injection h1 with _ h1
      have := checkP_num he0.out
      simp only at this
      rw [h1, this.1]; rfl
  replace he := Lib.hid he
  replace heb := Lib.hid heb
  go_upto_region 2 with fail
  rw [hW2.out]
  go_wp2_with fail
  refine (err_bad _ _ _ _ _ _ _ W2).mono ?_
  rintro e w3 ⟨_, rfl, b3, rfl⟩
  rw [hq]
  replace hq := Lib.hid hq
  have hey := heb.out.below b3
  have bxx : Box3 W2 w1.heap.size (.int .i64 qn) (.slice a1 n1 c1) (.slice a2 n2 c2) → True := fun _ => trivial
  clear bxx
  have y0' := (b3.cell (World.block_lt_of_cell? _ _ y0)).trans y0
  have y1' := (b3.cell (World.block_lt_of_cell? _ _ y1)).trans y1
  have y2' := (b3.cell (World.block_lt_of_cell? _ _ y2)).trans y2
  obtain ⟨⟨z0, z1, z2⟩, -, -, -⟩ := q'.below b3
  obtain ⟨⟨u0, u1, u2⟩, f0, f1, f2⟩ := q4'.below b3
  have b03 := Below.step b02 b3
  clear y0 y1 y2
  cases e0 with
  | some t =>
    simp only [] at hsm
    replace hsm := Lib.hid hsm
    replace hey := Lib.hid hey
    go_wp2
    refine bodyPost_ret (v := .agg #[.int .i64 qn, .slice a1 n1 c1, .slice a2 n2 c2]) (by simp [results, Tryz.results93, go_sem, u0, u1, u2]) rfl ⟨_, rfl, below_set3 b03 (by omega) _ _ _, ?_⟩
    rw [hsm.out]
    refine ((hey.out.set3 ?_ _ _ _)).mono ?_
    · have := s0.out; omega
    · have := s0.out; omega
  | none =>
    simp only [] at hsm
    by_cases hl : 256 < T.length
    · rw [if_pos hl] at hsm
      have d1 : decide ((256 : Int) < (T.length : Int)) = true := decide_eq_true (by omega)
      replace hsm := Lib.hid hsm
      replace hey := Lib.hid hey
      go_wp2_with fail
      refine (raw_new _ _ _ _).mono ?_
      rintro e w4 ⟨x4, rfl, b4, he4⟩
      obtain ⟨q9, a9, n9, c9, a8, n8, c8, rfl⟩ := he4.shape
      have bb := Below.step b03 b4
      obtain ⟨⟨u0', u1', u2'⟩, g0, g1, g2⟩ := q4.below (Below.step c1e (Below.step b3 b4))
      have s4 := (Below.step b3 b4).size
      replace he4 := Lib.hid he4
      clear u0 u1 u2 f0 f1 f2 z0 z1 z2 y0' y1' y2'
      go_wp2
      refine bodyPost_ret (v := .agg #[.int .i64 q9, .slice a9 n9 c9, .slice a8 n8 c8]) (by simp [results, Tryz.results93, go_sem, u0', u1', u2']) rfl ⟨_, rfl, below_set3 bb (by omega) _ _ _, ?_⟩
      rw [hsm.out]
      have s3 := b3.size
      exact (he4.out.set3 (by omega) _ _ _).mono (by omega)
    · rw [if_neg hl] at hsm
      have d1 : decide ((256 : Int) < (T.length : Int)) = false := decide_eq_false (by omega)
      replace hsm := Lib.hid hsm
      replace hey := Lib.hid hey
      go_wp2
      refine bodyPost_ret (v := .agg #[.int .i64 qn, .slice a1 n1 c1, .slice a2 n2 c2]) (by simp [results, Tryz.results93, go_sem, u0, u1, u2]) rfl ⟨_, rfl, below_set3 b03 (by omega) _ _ _, ?_⟩
      rw [hsm.out]
      refine ((hey.out.set3 ?_ _ _ _)).mono ?_
      · have := s0.out; omega
      · have := s0.out; omega

theorem ref08_fault (op : ByteArray) (k R : Int) (va : Option Addr) (vn vc : Nat) (T : List Int) (w : World) (h : IntsAt w (.slice va vn vc) T) :
    Calls Tryz.prog 45 #[.string op, .agg #[.int .i64 k, .int .i64 R, .slice va vn vc]] w (Ret1 (fun x w' => EOwn w.heap.size w' (under op 0 (smallP k R T)) x) w) := by
  have b0 := Below.step (belowAlloc w (.cells #[.int .i64 k, .int .i64 R, .slice va vn vc] 24)) (belowAlloc _ (.cells #[.int .i64 0, .slice none 0 0, .slice none 0 0] 33))
  have q4 : Box3 ((w.alloc (.cells #[.int .i64 k, .int .i64 R, .slice va vn vc] 24)).alloc (.cells #[.int .i64 0, .slice none 0 0, .slice none 0 0] 33)) (w.heap.size + 1) (.int .i64 0) (.slice none 0 0) (.slice none 0 0) := by simp [Box3, go_sem]
  replace h := Lib.hid (h.below b0)
  go_enter Tryz.func45, Tryz.ntmps45
  go_wp2_with fail
  refine (ref_small k R va vn vc T _ h.out).mono ?_
  rintro e w1 ⟨x, rfl, b1, he⟩
  go_wp2_with fail
  refine (raw_under _ 0 (smallP k R T) x _ he.at (fun n l e => by
    have := smallP_num e
    exact ⟨by omega, by omega, by omega⟩)).mono ?_
  rintro e w2 ⟨x2, rfl, b2, he2⟩
  obtain ⟨q, a1, n1, c1, a2, n2, c2, rfl⟩ := he2.shape
  have q4' := q4.below (Below.step b1 b2)
  obtain ⟨⟨y0, y1, y2⟩, f0, f1, f2⟩ := q4'
  have hs := b1.size
  simp only [World.size_alloc] at hs
  replace he2 := Lib.hid he2
  go_wp2
  exact bodyPost_ret (v := .agg #[.int .i64 q, .slice a1 n1 c1, .slice a2 n2 c2]) (by simp [results, Tryz.results45, go_sem, y0, y1, y2]) rfl ⟨_, rfl, below_set3 (Below.step b0 (Below.step b1 b2)) (Nat.le_succ _) _ _ _, (he2.out.set3 (by omega) _ _ _).mono (by omega)⟩

set_option maxHeartbeats 2000000 in
theorem ref_image (K R : Nat) (va : Option Addr) (vn vc : Nat) (T : List Int) (u : Value) (x : List Int) (w : World) (h : IntsAt w (.slice va vn vc) T) (hr : RuleOk K R T) (hu : IntsAt w u x) (hx : Syms K x) (hl : x.length ≤ 100000) :
    Calls Tryz.prog 48 #[.agg #[.int .i64 K, .int .i64 R, .slice va vn vc], u] w (Ret1 (fun v w' => OwnI w.heap.size w' v (imgP K R T x)) w) := by
  have b0 := belowAlloc w (.cells #[.int .i64 K, .int .i64 R, .slice va vn vc] 24)
  have q : Box3 (w.alloc (.cells #[.int .i64 K, .int .i64 R, .slice va vn vc] 24)) w.heap.size (.int .i64 K) (.int .i64 R) (.slice va vn vc) := by simp [Box3, go_sem]
  have hR3 := hr.r3
  have hk1 := hr.k1
  have hk4 := hr.k4
  have lX := hu.len
  obtain ⟨ua, un, uc, rfl⟩ := hu.shape
  replace h := Lib.hid (h.below b0)
  replace hu := Lib.hid (hu.below b0)
  replace hr := Lib.hid hr
  replace hx := Lib.hid hx
  obtain ⟨W0, hW0⟩ : ∃ W : World, w.alloc (.cells #[.int .i64 K, .int .i64 R, .slice va vn vc] 24) = W := ⟨_, rfl⟩
  have s0 : w.heap.size ≤ W0.heap.size := by rw [← hW0]; simp
  rw [hW0] at h hu q b0
  replace hW0 := Lib.hid hW0
  go_enter Tryz.func48, Tryz.ntmps48
  go_upto_region 3 with fail
  rw [hW0.out]
  clear hW0
  go_loopw [5, 6] (fun ov iv wr => ∃ (i : Nat) (ow : Value), ow = ov ∧ iv = .int .i64 i ∧ i ≤ x.length - 2 * R ∧ OwnI W0.heap.size wr ow ((imgP K R T x).take i) ∧ Below W0.heap.size W0 wr) (fun _ iv _ => x.length - (intOf iv).toNat)
  case atStart => exact ⟨0, _, rfl, rfl, Nat.zero_le _, OwnI.nil _ _, Below.refl _ _⟩
  case round =>
    obtain ⟨i, ow, rfl, rfl, hi, hO, hB⟩ := hrel
    obtain ⟨wo, rfl⟩ : ∃ wo : World, wo = wr := ⟨_, rfl⟩
    obtain ⟨⟨z0, z1, z2⟩, -, -, -⟩ := q.below hB
    by_cases hlt : i + 2 * R < x.length
    · obtain ⟨W, hW⟩ : ∃ W : World, wo.drew = W := ⟨_, rfl⟩
      have hBW : Below W0.heap.size W0 W := by rw [← hW]; exact hB.drew
      have hOW : OwnI W0.heap.size W ow ((imgP K R T x).take i) := by rw [← hW]; exact hO
      obtain ⟨pv, hsl, hP⟩ := (hu.out.below hBW).mid i (i + 2 * R + 1) (by omega) (by omega)
      have hwin : (x.take (i + 2 * R + 1)).drop i = (x.drop i).take (2 * R + 1) := by rw [List.drop_take]; congr 1; omega
      rw [hwin] at hP
      have hwl : ((x.drop i).take (2 * R + 1)).length = 2 * R + 1 := by rw [List.length_take, List.length_drop]; omega
      have hws : Syms K ((x.drop i).take (2 * R + 1)) := syms_take (syms_drop hx.out i) _
      have hnl := numW_lt _ hws
      rw [hwl, ← hr.out.len] at hnl
      have hT := h.out.below hBW
      have iT := fun w' => hT.idx _ hnl w'
      have cT := hT.cellD _ hnl
      have hg := imgP_getD K R T x i (by omega)
      have htk : (imgP K R T x).take (i + 1) = (imgP K R T x).take i ++ [(imgP K R T x).getD i 0] := by
        rw [List.take_add_one, List.getElem?_eq_getElem (by rw [imgP_length]; omega), List.getD_eq_getElem?_getD, List.getElem?_eq_getElem (by rw [imgP_length]; omega)]; rfl
      rw [hg] at htk
      have hval := ref_value K pv _ W hk1 hk4 hP hws (by rw [hwl]; omega)
      obtain ⟨pa, pn, pc, rfl⟩ := hP.shape
      have hsl2 : ∀ w', (Instr.slice 22 (.slice ua un uc) (some (.int .i64 (i : Int))) (some (.int .i64 ((i : Int) + 2 * (R : Int) + 1))) none).run Tryz.prog w' = .ok (.slice pa pn pc) w' := by
        intro w'; have := hsl w'; rwa [show (((i + 2 * R + 1 : Nat) : Nat) : Int) = (i : Int) + 2 * (R : Int) + 1 by omega] at this
      have hnl2 : numW K ((x.drop i).take (2 * R + 1)) < T.length := hnl
      have hta0 : (valAt (.slice va vn vc) (numW K ((x.drop i).take (2 * R + 1)))).block < W0.heap.size := World.block_lt_of_cell? _ _ (h.out.cellD _ hnl)
      generalize T.getD (numW K ((x.drop i).take (2 * R + 1))) 0 = y at *
      generalize numW K ((x.drop i).take (2 * R + 1)) = N at *
      generalize valAt (.slice va vn vc) N = ta at *
      have hol : ((imgP K R T x).take i).length = i := by rw [List.length_take, imgP_length]; omega
      have sW := hBW.size
      have hta := World.block_lt_of_cell? _ _ cT
      have hS : W.cell? ⟨w.heap.size, 0, none⟩ = some (.int .i64 K) ∧ W.cell? ⟨w.heap.size, 1, none⟩ = some (.int .i64 R) ∧ W.cell? ⟨w.heap.size, 2, none⟩ = some (.slice va vn vc) ∧ W.cell? ta = some (.int .i64 y) := by
        obtain ⟨⟨y0, y1, y2⟩, -, -, -⟩ := q.below hBW
        exact ⟨y0, y1, y2, cT⟩
      have bl := belowAlloc W (.cells #[.int .i64 y] 3)
      have hlit := OwnI.lit W.heap.size W (Nat.le_refl _) [y] (by simp [maxLen]) #[.int .i64 y] rfl 1 rfl
      have hOl := hOW.below bl
      have hBl : W0.heap.size ≤ (W.alloc (.cells #[.int .i64 y] 3)).heap.size := by simp; omega
      have hS1 : (W.alloc (.cells #[.int .i64 y] 3)).cell? ⟨w.heap.size, 0, none⟩ = some (.int .i64 K) ∧ (W.alloc (.cells #[.int .i64 y] 3)).cell? ⟨w.heap.size, 1, none⟩ = some (.int .i64 R) ∧ (W.alloc (.cells #[.int .i64 y] 3)).cell? ⟨w.heap.size, 2, none⟩ = some (.slice va vn vc) ∧ (W.alloc (.cells #[.int .i64 y] 3)).cell? ta = some (.int .i64 y) := by
        have h0 := World.block_lt_of_cell? _ _ hS.1
        exact ⟨(bl.cell h0).trans hS.1, (bl.cell (World.block_lt_of_cell? _ _ hS.2.1)).trans hS.2.1, (bl.cell (World.block_lt_of_cell? _ _ hS.2.2.1)).trans hS.2.2.1, (bl.cell hta).trans hS.2.2.2⟩
      replace hOl := Lib.hid hOl
      replace hval := Lib.hid hval
      replace hT := Lib.hid hT
      replace hOW := Lib.hid hOW
      replace hO := Lib.hid hO
      replace hP := Lib.hid hP
      replace hws := Lib.hid hws
      replace hwl := Lib.hid hwl
      replace hwin := Lib.hid hwin
      replace hg := Lib.hid hg
      replace htk := Lib.hid htk
      replace hol := Lib.hid hol
      replace hW := Lib.hid hW
      replace hlit := Lib.hid hlit
      clear hsl cT
      have hw1 : IntKind.i64.wrap (2 * (R : Int)) = 2 * (R : Int) := wrapK (by omega) (by omega)
      have hw2 : IntKind.i64.wrap ((i : Int) + 2 * (R : Int)) = (i : Int) + 2 * (R : Int) := wrapK (by omega) (by omega)
      have hw3 : IntKind.i64.wrap ((i : Int) + 2 * (R : Int) + 1) = (i : Int) + 2 * (R : Int) + 1 := wrapK (by omega) (by omega)
      go_upto_region 5 with fail
      refine wp_region_plan (fun w' => w'.cell? ⟨w.heap.size, 0, none⟩ = some (.int .i64 K) ∧ w'.cell? ⟨w.heap.size, 1, none⟩ = some (.int .i64 R) ∧ w'.cell? ⟨w.heap.size, 2, none⟩ = some (.slice va vn vc) ∧ w'.cell? ta = some (.int .i64 y)) 19 [(0, true), (1, true), (2, true), (3, true), (4, true), (5, true), (6, true), (7, true), (8, true), (9, true), (10, true), (11, true), (12, true), (13, true), (14, false), (15, true), (16, true), (17, false), (18, false)] (by kernel_rfl) (by kernel_rfl) ?_
      rw [hW.out]
      clear z0 z1 z2
      refine headY (v := ?_) (some 17) rfl rfl (Or.inl ⟨by rfl, ?_⟩) hS ?_
      rotate_left
      · rintro W' ⟨s0, s1, s2, s3⟩; go_simp; try with_reducible rfl
      simp only [Act.put, List.setIfInBounds_toArray, List.set_cons_zero, List.set_cons_succ]
      refine headY (v := ?_) (some 18) rfl rfl (Or.inl ⟨by rfl, ?_⟩) hS ?_
      rotate_left
      · rintro W' ⟨s0, s1, s2, s3⟩; go_simp; try with_reducible rfl
      simp only [Act.put, List.setIfInBounds_toArray, List.set_cons_zero, List.set_cons_succ]
      refine headY (v := ?_) (some 19) rfl rfl (Or.inl ⟨by rfl, ?_⟩) hS ?_
      rotate_left
      · rintro W' ⟨s0, s1, s2, s3⟩; go_simp; try with_reducible rfl
      simp only [Act.put, List.setIfInBounds_toArray, List.set_cons_zero, List.set_cons_succ]
      refine headY (v := ?_) (some 20) rfl rfl (Or.inl ⟨by rfl, ?_⟩) hS ?_
      rotate_left
      · rintro W' ⟨s0, s1, s2, s3⟩; go_simp; try with_reducible rfl
      simp only [Act.put, List.setIfInBounds_toArray, List.set_cons_zero, List.set_cons_succ]
      refine headY (v := ?_) (some 21) rfl rfl (Or.inl ⟨by rfl, ?_⟩) hS ?_
      rotate_left
      · rintro W' ⟨s0, s1, s2, s3⟩; go_simp; try with_reducible rfl
      simp only [Act.put, List.setIfInBounds_toArray, List.set_cons_zero, List.set_cons_succ]
      refine headY (v := ?_) (some 22) rfl rfl (Or.inl ⟨by rfl, ?_⟩) hS ?_
      rotate_left
      · rintro W' ⟨s0, s1, s2, s3⟩; go_simp; try with_reducible rfl
      simp only [Act.put, List.setIfInBounds_toArray, List.set_cons_zero, List.set_cons_succ]
      refine headY (v := ?_) (some 23) rfl rfl (Or.inl ⟨by rfl, ?_⟩) hS ?_
      rotate_left
      · rintro W' ⟨s0, s1, s2, s3⟩; go_simp; try with_reducible rfl
      simp only [Act.put, List.setIfInBounds_toArray, List.set_cons_zero, List.set_cons_succ]
      refine headY (v := ?_) (some 24) rfl rfl (Or.inl ⟨by rfl, ?_⟩) hS ?_
      rotate_left
      · rintro W' ⟨s0, s1, s2, s3⟩; go_simp; try with_reducible rfl
      simp only [Act.put, List.setIfInBounds_toArray, List.set_cons_zero, List.set_cons_succ]
      refine headY (v := ?_) (some 25) rfl rfl (Or.inl ⟨by rfl, ?_⟩) hS ?_
      rotate_left
      · rintro W' ⟨s0, s1, s2, s3⟩; go_simp; try with_reducible rfl
      simp only [Act.put, List.setIfInBounds_toArray, List.set_cons_zero, List.set_cons_succ]
      refine headY (v := ?_) (some 26) rfl rfl (Or.inl ⟨by rfl, ?_⟩) hS ?_
      rotate_left
      · rintro W' ⟨s0, s1, s2, s3⟩; go_simp; try with_reducible rfl
      simp only [Act.put, List.setIfInBounds_toArray, List.set_cons_zero, List.set_cons_succ]
      refine headY (v := ?_) (some 27) rfl rfl (Or.inl ⟨by rfl, ?_⟩) hS ?_
      rotate_left
      · rintro W' ⟨s0, s1, s2, s3⟩; go_simp; try with_reducible rfl
      simp only [Act.put, List.setIfInBounds_toArray, List.set_cons_zero, List.set_cons_succ]
      refine headY (v := ?_) (some 28) rfl rfl (Or.inl ⟨by rfl, ?_⟩) hS ?_
      rotate_left
      · rintro W' ⟨s0, s1, s2, s3⟩; go_simp; try with_reducible rfl
      simp only [Act.put, List.setIfInBounds_toArray, List.set_cons_zero, List.set_cons_succ]
      refine headY (v := ?_) (some 29) rfl rfl (Or.inl ⟨by rfl, ?_⟩) hS ?_
      rotate_left
      · rintro W' ⟨s0, s1, s2, s3⟩; go_simp; try with_reducible rfl
      simp only [Act.put, List.setIfInBounds_toArray, List.set_cons_zero, List.set_cons_succ]
      refine headY (v := ?_) (some 30) rfl rfl (Or.inl ⟨by rfl, ?_⟩) hS ?_
      rotate_left
      · rintro W' ⟨s0, s1, s2, s3⟩; go_simp; try with_reducible rfl
      simp only [Act.put, List.setIfInBounds_toArray, List.set_cons_zero, List.set_cons_succ]
      refine headC rfl (fun KK hK => ?_)
      go_simp
      refine hval.out.mono ?_
      rintro e w5 ⟨rfl, rfl⟩
      refine hK _ _ hS ?_
      clear hK KK
      refine headY (v := ?_) (some 32) rfl rfl (Or.inl ⟨by rfl, ?_⟩) hS ?_
      rotate_left
      · rintro W' ⟨s0, s1, s2, s3⟩; go_simp; try with_reducible rfl
      simp only [Act.put, List.setIfInBounds_toArray, List.set_cons_zero, List.set_cons_succ]
      refine headY (v := ?_) (some 33) rfl rfl (Or.inl ⟨by rfl, ?_⟩) hS ?_
      rotate_left
      · rintro W' ⟨s0, s1, s2, s3⟩; go_simp; try with_reducible rfl
      simp only [Act.put, List.setIfInBounds_toArray, List.set_cons_zero, List.set_cons_succ]
      refine headC rfl (fun KK hK => ?_)
      go_simp
      refine hK _ _ hS1 ?_
      clear hK KK
      refine headC rfl (fun KK hK => ?_)
      refine step_appI rfl _ _ rfl W0.heap.size ow (.slice (some ⟨W.heap.size, 0, none⟩) 1 1) _ [y] rfl rfl hOl.out hlit.out.at (by rw [hol.out]; simp; omega) hBl ?_
      intro v9 w9 ho9 b9
      rw [← htk.out] at ho9
      have b99 := (hBW.trans (bl.mono sW)).trans b9
      obtain ⟨v9a, v9b, v9c, rfl⟩ := ho9.at.shape
      replace ho9 := Lib.hid ho9
      have hS9 : w9.cell? ⟨w.heap.size, 0, none⟩ = some (.int .i64 K) ∧ w9.cell? ⟨w.heap.size, 1, none⟩ = some (.int .i64 R) ∧ w9.cell? ⟨w.heap.size, 2, none⟩ = some (.slice va vn vc) ∧ w9.cell? ta = some (.int .i64 y) := by
        obtain ⟨⟨y0, y1, y2⟩, -, -, -⟩ := q.below b99
        exact ⟨y0, y1, y2, (b9.cell hta0).trans hS1.2.2.2⟩
      refine hK _ _ hS9 ?_
      clear hK KK
      refine head0 ?_
      simp only [List.drop_succ_cons, List.drop_zero]
      clear hS hS1 hS9
      go_wp2
      refine NoPanic.normal ?_
      go_wp2
      go_roundw
      case measure => simp [intOf]; omega
      case rel => exact ⟨i + 1, _, rfl, by go_num, by omega, ho9.out, b99⟩
    · have hke : i = x.length - 2 * R := by omega
      have hfin : (imgP K R T x).take i = imgP K R T x := List.take_of_length_le (by rw [imgP_length]; omega)
      rw [hfin] at hO
      have d1 : decide ((i : Int) + 2 * (R : Int) < (x.length : Int)) = false := decide_eq_false (by omega)
      replace hO := Lib.hid hO
      replace hfin := Lib.hid hfin
      replace hke := Lib.hid hke
      obtain ⟨oa, on, oc, hov⟩ := hO.out.at.shape
      subst hov
      go_wp2
      go_ret
      exact ⟨_, rfl, b0.trans (hB.mono s0), hO.out.mono s0⟩
end Go.Proofs.YtilpckngghffoaaGreatDoor

namespace Go.Proofs.YtilpckngghffoaaGreatDoor
open Go.RowKit
set_option maxRecDepth 100000

set_option maxHeartbeats 1000000 in
theorem widened1_any (K R d : Nat) (va : Option Addr) (vn vc : Nat) (T : List Int) (p q : Nat) (v : Value) (ys : List Int) (w : World)
    (h : IntsAt w (.slice va vn vc) T) (hr : RuleOk K R T) (hv : IntsAt w v ys) (hy : Syms K ys) (hyl : ys.length = 2 * (R + d) + 1)
    (hRd : R + d ≤ 3)
    (x0 : w.cell? ⟨p, 0, none⟩ = some (.int .i64 K)) (x1 : w.cell? ⟨p, 1, none⟩ = some (.int .i64 R)) (x2 : w.cell? ⟨p, 2, none⟩ = some (.slice va vn vc)) (x3 : w.cell? ⟨q, 0, none⟩ = some (.int .i64 d)) :
    Calls Tryz.prog 171 #[v, .pointer (some ⟨p, 0, none⟩), .pointer (some ⟨q, 0, none⟩)] w (Ret1 (fun x _ => x = .int .i64 (T.getD (numW K ((ys.drop d).take (2 * R + 1))) 0)) w) := by
  have lv := hv.len
  obtain ⟨u, hu, hiu⟩ := hv.mid d (ys.length - d) (by omega) (by omega)
  have eL : (ys.take (ys.length - d)).drop d = (ys.drop d).take (2 * R + 1) := by
    rw [List.drop_take]; congr 1; omega
  rw [eL] at hiu
  have hD : (ys.length : Int) - (d : Int) = ((ys.length - d : Nat) : Int) := by omega
  have hle : ys.length ≤ 7 := by omega
  have hsy : Syms K ((ys.drop d).take (2 * R + 1)) := syms_take (syms_drop hy _) _
  have hsl : ((ys.drop d).take (2 * R + 1)).length = 2 * R + 1 := by simp; omega
  generalize hY : T.getD (numW K ((ys.drop d).take (2 * R + 1))) 0 = Y
  generalize (ys.drop d).take (2 * R + 1) = zs at *
  obtain ⟨e, hee⟩ : ∃ e, ys.length - d = e := ⟨_, rfl⟩
  rw [hee] at hD hu
  have he7 : e ≤ 7 := by omega
  have hwe : IntKind.i64.wrap (e : Int) = e := wrapK (by omega) (by omega)
  obtain ⟨L, hL⟩ : ∃ L, ys.length = L := ⟨_, rfl⟩
  rw [hL] at lv hD hle
  have hd3 : d ≤ 3 := by omega
  replace hY := Lib.hid hY
  replace h := Lib.hid h
  replace hv := Lib.hid hv
  replace hy := Lib.hid hy
  replace hsy := Lib.hid hsy
  replace hsl := Lib.hid hsl
  replace hyl := Lib.hid hyl
  replace hr := Lib.hid hr
  replace hiu := Lib.hid hiu
  replace hL := Lib.hid hL
  clear hee eL
  go_enter Tryz.func171, Tryz.ntmps171
  go_upto_region 1 with fail
  refine wp_region_plan (fun w' => w'.cell? ⟨p, 0, none⟩ = some (.int .i64 K) ∧ w'.cell? ⟨p, 1, none⟩ = some (.int .i64 R) ∧ w'.cell? ⟨p, 2, none⟩ = some (.slice va vn vc) ∧ w'.cell? ⟨q, 0, none⟩ = some (.int .i64 d)) 9 [(0, true), (1, true), (2, true), (3, true), (4, true), (5, true), (6, true), (7, true), (8, false)] (by kernel_rfl) (by kernel_rfl) ?_
  have hS : w.drew.cell? ⟨p, 0, none⟩ = some (.int .i64 K) ∧ w.drew.cell? ⟨p, 1, none⟩ = some (.int .i64 R) ∧ w.drew.cell? ⟨p, 2, none⟩ = some (.slice va vn vc) ∧ w.drew.cell? ⟨q, 0, none⟩ = some (.int .i64 d) := ⟨x0, x1, x2, x3⟩
  refine headY (v := ?_) (some 5) rfl rfl (Or.inl ⟨by rfl, ?_⟩) hS ?_
  rotate_left
  · rintro W' ⟨s0, s1, s2, s3⟩; go_simp; try with_reducible rfl
  simp only [Act.put, List.setIfInBounds_toArray, List.set_cons_zero, List.set_cons_succ]
  refine headY (v := ?_) (some 6) rfl rfl (Or.inl ⟨by rfl, ?_⟩) hS ?_
  rotate_left
  · rintro W' ⟨s0, s1, s2, s3⟩; go_simp; try with_reducible rfl
  simp only [Act.put, List.setIfInBounds_toArray, List.set_cons_zero, List.set_cons_succ]
  refine headY (v := ?_) (some 7) rfl rfl (Or.inl ⟨by rfl, ?_⟩) hS ?_
  rotate_left
  · rintro W' ⟨s0, s1, s2, s3⟩; go_simp; try with_reducible rfl
  simp only [Act.put, List.setIfInBounds_toArray, List.set_cons_zero, List.set_cons_succ]
  refine headY (v := ?_) (some 8) rfl rfl (Or.inl ⟨by rfl, ?_⟩) hS ?_
  rotate_left
  · rintro W' ⟨s0, s1, s2, s3⟩; go_simp; try with_reducible rfl
  simp only [Act.put, List.setIfInBounds_toArray, List.set_cons_zero, List.set_cons_succ]
  refine headY (v := ?_) (some 9) rfl rfl (Or.inl ⟨by rfl, ?_⟩) hS ?_
  rotate_left
  · rintro W' ⟨s0, s1, s2, s3⟩; go_simp; try with_reducible rfl
  simp only [Act.put, List.setIfInBounds_toArray, List.set_cons_zero, List.set_cons_succ]
  refine headY (v := ?_) (some 10) rfl rfl (Or.inl ⟨by rfl, ?_⟩) hS ?_
  rotate_left
  · rintro W' ⟨s0, s1, s2, s3⟩; go_simp; try with_reducible rfl
  simp only [Act.put, List.setIfInBounds_toArray, List.set_cons_zero, List.set_cons_succ]
  refine headY (v := ?_) (some 11) rfl rfl (Or.inl ⟨by rfl, ?_⟩) hS ?_
  rotate_left
  · rintro W' ⟨s0, s1, s2, s3⟩; go_simp; try with_reducible rfl
  simp only [Act.put, List.setIfInBounds_toArray, List.set_cons_zero, List.set_cons_succ]
  refine headY (v := ?_) (some 12) rfl rfl (Or.inl ⟨by rfl, ?_⟩) hS ?_
  rotate_left
  · rintro W' ⟨s0, s1, s2, s3⟩; go_simp; try with_reducible rfl
  simp only [Act.put, List.setIfInBounds_toArray, List.set_cons_zero, List.set_cons_succ]
  refine headC rfl (fun KK hK => ?_)
  go_simp
  refine (symbol_any K R va vn vc T u zs _ h.out.drew hr.out hiu.out.drew hsy.out hsl.out).mono ?_
  rintro e w1 ⟨x, rfl, b1, rfl⟩
  rw [hY.out]
  have hS1 : w1.cell? ⟨p, 0, none⟩ = some (.int .i64 K) ∧ w1.cell? ⟨p, 1, none⟩ = some (.int .i64 R) ∧ w1.cell? ⟨p, 2, none⟩ = some (.slice va vn vc) ∧ w1.cell? ⟨q, 0, none⟩ = some (.int .i64 d) := ⟨cell_keep b1 hS.1, cell_keep b1 hS.2.1, cell_keep b1 hS.2.2.1, cell_keep b1 hS.2.2.2⟩
  refine hK _ _ hS1 ?_
  clear hK KK
  refine head0 ?_
  simp only [List.drop_succ_cons, List.drop_zero]
  clear hS hS1
  go_wp2
  refine NoPanic.normal ?_
  go_wp2
  go_ret
  exact ⟨_, rfl, Below.step ((Below.refl _ _).drew) b1, rfl⟩
theorem eg_widened1 (args : Array Value) (w : World) : (callFunc 171 args).run Tryz.prog w = .ok (.enter 171 args) w := by kernel_rfl
theorem madeP_wide (K R d : Nat) (T : List Int) : madeP K (2 * (R + d) + 1) (fun ys => T.getD (numW K ((ys.drop d).take (2 * R + 1))) 0) (pw K (2 * (R + d) + 1)) = wideT K R d T := rfl

set_option maxHeartbeats 1000000 in
theorem widened_any (K R d : Nat) (va : Option Addr) (vn vc : Nat) (T : List Int) (w : World) (h : IntsAt w (.slice va vn vc) T) (hr : RuleOk K R T) (hRd : R + d ≤ 3) (Ri : Int) (hRi : Ri = ((R + d : Nat) : Int)) :
    Calls Tryz.prog 145 #[.agg #[.int .i64 K, .int .i64 R, .slice va vn vc], .int .i64 Ri] w (Ret1 (fun x w' => ∃ a n c, x = .agg #[.int .i64 K, .int .i64 ((R + d : Nat) : Int), .slice a n c] ∧ OwnI w.heap.size w' (.slice a n c) (wideT K R d T)) w) := by
  have b0 := Below.step (belowAlloc w (.cells #[.int .i64 K, .int .i64 R, .slice va vn vc] 24)) (belowAlloc _ (.cells #[.int .i64 0, .int .i64 0, .slice none 0 0] 24))
  have b3 := Below.step b0 (belowAlloc _ (.cells #[.int .i64 d] 3))
  have q1 : Box3 (((w.alloc (.cells #[.int .i64 K, .int .i64 R, .slice va vn vc] 24)).alloc (.cells #[.int .i64 0, .int .i64 0, .slice none 0 0] 24)).alloc (.cells #[.int .i64 d] 3)) w.heap.size (.int .i64 K) (.int .i64 R) (.slice va vn vc) := by simp [Box3, go_sem]
  have q2 : Box3 (((w.alloc (.cells #[.int .i64 K, .int .i64 R, .slice va vn vc] 24)).alloc (.cells #[.int .i64 0, .int .i64 0, .slice none 0 0] 24)).alloc (.cells #[.int .i64 d] 3)) (w.heap.size + 1) (.int .i64 0) (.int .i64 0) (.slice none 0 0) := by simp [Box3, go_sem]
  have q3 : (((w.alloc (.cells #[.int .i64 K, .int .i64 R, .slice va vn vc] 24)).alloc (.cells #[.int .i64 0, .int .i64 0, .slice none 0 0] 24)).alloc (.cells #[.int .i64 d] 3)).cell? ⟨w.heap.size + 2, 0, none⟩ = some (.int .i64 d) := by simp [go_sem]
  have hk1 := hr.k1
  have hk4 := hr.k4
  have hR3 := hr.r3
  have hsub : Ri - (R : Int) = (d : Int) := by omega
  have hRi3 : 0 ≤ Ri ∧ Ri ≤ 3 := by omega
  have h3 := h.below b3
  obtain ⟨W3, hW3⟩ : ∃ W3 : World, W3 = ((w.alloc (.cells #[.int .i64 K, .int .i64 R, .slice va vn vc] 24)).alloc (.cells #[.int .i64 0, .int .i64 0, .slice none 0 0] 24)).alloc (.cells #[.int .i64 d] 3) := ⟨_, rfl⟩
  have s3 : W3.heap.size = w.heap.size + 3 := by rw [hW3]; simp
  rw [← hW3] at b3 q1 q2 q3 h3
  replace hRi := Lib.hid hRi
  replace hr := Lib.hid hr
  replace hW3 := Lib.hid hW3
  replace s3 := Lib.hid s3
  replace q2 := Lib.hid q2
  replace h3 := Lib.hid h3
  go_enter Tryz.func145, Tryz.ntmps145
  go_wp2_with fail
  rw [← hW3.out]
  refine (made_two K (R + d) _ (.pointer (some ⟨w.heap.size, 0, none⟩)) (.pointer (some ⟨w.heap.size + 2, 0, none⟩)) (fun ys => T.getD (numW K ((ys.drop d).take (2 * R + 1))) 0) W3 hk1 hk4 hRd Ri hRi.out eg_widened1 (fun v ys w' hB hv hy hyl => by
    have q11 := q1.below hB
    exact widened1_any K R d va vn vc T _ _ v ys w' (h3.out.below hB) hr.out hv hy hyl hRd q11.1.1 q11.1.2.1 q11.1.2.2 (cell_keep hB q3))).mono ?_
  rintro e w4 ⟨x, rfl, b4, a, n, c, rfl, ho⟩
  rw [madeP_wide] at ho
  obtain ⟨⟨y0, y1, y2⟩, f0, f1, f2⟩ := q2.out.below b4
  replace ho := Lib.hid ho
  clear q1 q3
  go_wp2
  refine bodyPost_ret (v := .agg #[.int .i64 K, .int .i64 ((R + d : Nat) : Int), .slice a n c]) (by simp [results, Tryz.results145, go_sem, y0, y1, y2]) rfl ⟨_, rfl, below_set3 (Below.step b3 b4) (Nat.le_succ _) _ _ _, a, n, c, rfl, ?_⟩
  have := s3.out
  exact (((ho.out.setBelowBase (a := ⟨w.heap.size + 1, 0, none⟩) (by simp; omega) _).setBelowBase (a := ⟨w.heap.size + 1, 1, none⟩) (by simp; omega) _).setBelowBase (a := ⟨w.heap.size + 1, 2, none⟩) (by simp; omega) _).mono (by omega)
end Go.Proofs.YtilpckngghffoaaGreatDoor

namespace Go.Proofs.YtilpckngghffoaaGreatDoor
open Go.RowKit
set_option maxRecDepth 100000

theorem smallP_small {K R : Nat} {T : List Int} (h : RuleOk K R T) (hl : T.length ≤ 256) : smallP K R T = none := by rw [smallP_ok h, if_neg (by omega)]

theorem over_Nodes (r : Nat → Addr) (K R : Nat) (va : Option Addr) (vn vc : Nat) (T : List Int) (w : World) (hg : Glob r w) (h : IntsAt w (.slice va vn vc) T) (hok : RuleOk K R T) (hl : T.length ≤ 256) :
    Calls Tryz.prog 60 #[.agg #[.int .i64 K, .int .i64 R, .slice va vn vc]] w (Ret2 (fun x y _ => x = .int .i64 ((T.length / K : Nat) : Int) ∧ y = .nilIface) w) := by
  have b0 := belowAlloc w (.cells #[.int .i64 K, .int .i64 R, .slice va vn vc] 24)
  have q : Box3 (w.alloc (.cells #[.int .i64 K, .int .i64 R, .slice va vn vc] 24)) w.heap.size (.int .i64 K) (.int .i64 R) (.slice va vn vc) := by simp [Box3, go_sem]
  have hs := smallP_small hok hl
  have hk1 := hok.k1
  generalize hN : T.length / K = N
  replace hN := Lib.hid hN
  replace hs := Lib.hid hs
  replace hg := Lib.hid (hg.below b0)
  replace h := Lib.hid (h.below b0)
  go_enter Tryz.func60, Tryz.ntmps60
  go_wp2_with fail
  refine (over_small r K R va vn vc T _ hg.out h.out).mono ?_
  rintro e w1 ⟨x, rfl, b1, he⟩
  rw [hs.out] at he
  obtain rfl := ErrIs.none_eq he
  obtain ⟨⟨z0, z1, z2⟩, -, -, -⟩ := q.below b1
  go_wp2_with fail
  refine (over_nodes K R va vn vc T _ (h.out.below b1) hk1 (by omega)).mono ?_
  rintro e w2 ⟨rfl, rfl⟩
  rw [hN.out]
  go_wp2
  go_ret2
  exact ⟨_, _, rfl, Below.step b0 (Below.step b1 (belowAlloc _ _)), rfl, rfl⟩

set_option maxHeartbeats 1000000 in
theorem over_Edge (r : Nat → Addr) (K R : Nat) (va : Option Addr) (vn vc : Nat) (T : List Int) (u s : Nat) (w : World) (hg : Glob r w) (h : IntsAt w (.slice va vn vc) T) (hok : RuleOk K R T) (hl : T.length ≤ 256) (hu : u < T.length / K) (hs : s < K) :
    Calls Tryz.prog 65 #[.agg #[.int .i64 K, .int .i64 R, .slice va vn vc], .int .i64 u, .int .i64 s] w (Ret3 (fun x y z _ => x = .int .i64 (toN K (T.length / K) u s) ∧ y = .int .i64 (labN K T u s) ∧ z = .nilIface) w) := by
  have b0 := belowAlloc w (.cells #[.int .i64 K, .int .i64 R, .slice va vn vc] 24)
  have q : Box3 (w.alloc (.cells #[.int .i64 K, .int .i64 R, .slice va vn vc] 24)) w.heap.size (.int .i64 K) (.int .i64 R) (.slice va vn vc) := by simp [Box3, go_sem]
  have hsm := smallP_small hok hl
  have hk1 := hok.k1
  have hk4 := hok.k4
  have hul : u * K + s < T.length := by
    have := Nat.div_mul_le_self T.length K
    have := mul_add_lt (q := u) (m := T.length / K) hs hu
    omega
  have hN0 : T.length / K ≤ 256 := Nat.le_trans (Nat.div_le_self _ _) hl
  have huK : u * K ≤ 256 := by omega
  obtain ⟨p, hp⟩ : ∃ n, u * K = n := ⟨_, rfl⟩
  have hM : (u : Int) * (K : Int) = (p : Int) := by rw [← hp]; simp
  obtain ⟨at_, hat⟩ : ∃ n, u * K + s = n := ⟨_, rfl⟩
  have hA : (p : Int) + (s : Int) = (at_ : Int) := by rw [← hat, hp]; simp
  have i1 := fun w' => h.idx at_ (by omega) w'
  have c1 := h.cellD at_ (by omega)
  generalize valAt (.slice va vn vc) at_ = ta at *
  have hb1 := h.below b0
  have e1 : labN K T u s = T.getD at_ 0 := by unfold labN; rw [hat]
  have e2 : toN K (T.length / K) u s = at_ % (T.length / K) := by unfold toN; rw [hat]
  rw [e1, e2]
  generalize T.getD at_ 0 = y at *
  obtain ⟨N, hN⟩ : ∃ N, T.length / K = N := ⟨_, rfl⟩
  rw [hN] at hu hN0 ⊢
  have hN1 : ¬ (N : Int) = 0 := by omega
  have hN2 : ((N : Int) == 0) = false := by rw [beq_eq_false_iff_ne]; omega
  have hN3 : (0 : Int) < N := by omega
  have hN4 : ¬ N = 0 := by omega
  have hrem : (at_ : Int).tmod (N : Int) = ((at_ % N : Nat) : Int) := by rw [Int.tmod_eq_emod_of_nonneg (by omega)]; simp
  have hat1 : at_ ≤ 256 := by omega
  rw [hat] at hul
  rw [hp] at huK hat
  have hps : (p : Int) + (s : Int) ≤ 256 := by omega
  clear hat hp
  have c1' := (b0.cell (World.block_lt_of_cell? _ _ c1)).trans c1
  replace hN := Lib.hid hN
  replace hsm := Lib.hid hsm
  replace hg := Lib.hid (hg.below b0)
  replace h := Lib.hid hb1
  clear c1 e1 e2 hb1
  go_enter Tryz.func65, Tryz.ntmps65
  go_wp2_with fail
  refine (over_small r K R va vn vc T _ hg.out h.out).mono ?_
  rintro e w1 ⟨x, rfl, b1, he⟩
  rw [hsm.out] at he
  obtain rfl := ErrIs.none_eq he
  have q1 := q.below b1
  obtain ⟨⟨z0, z1, z2⟩, -, -, -⟩ := q1
  have q1 := Lib.hid (q.below b1)
  go_wp2_with fail
  refine (over_nodes K R va vn vc T _ (h.out.below b1) hk1 (by omega)).mono ?_
  rintro e w2 ⟨rfl, rfl⟩
  rw [hN.out]
  have b2 := Below.step b1 (belowAlloc w1 (.cells #[.int .i64 K, .int .i64 R, .slice va vn vc] 24))
  obtain ⟨W2, hW2⟩ : ∃ W2 : World, W2 = w1.alloc (.cells #[.int .i64 K, .int .i64 R, .slice va vn vc] 24) := ⟨_, rfl⟩
  rw [← hW2] at b2 ⊢
  have q2 := q.below b2
  have hT2 := h.out.below b2
  have cT2 := (b2.cell (World.block_lt_of_cell? _ _ c1')).trans c1'
  clear hW2 z0 z1 z2 c1'
  obtain ⟨⟨z0, z1, z2⟩, -, -, -⟩ := q2
  replace hT2 := Lib.hid hT2
  go_upto_region 9 with fail
  refine wp_region_plan (fun w' => w'.cell? ⟨w.heap.size, 0, none⟩ = some (.int .i64 K) ∧ w'.cell? ⟨w.heap.size, 1, none⟩ = some (.int .i64 R) ∧ w'.cell? ⟨w.heap.size, 2, none⟩ = some (.slice va vn vc) ∧ w'.cell? ta = some (.int .i64 y)) 11 [(0, true), (1, true), (4, true), (5, true), (6, true), (7, true), (8, true), (2, false), (3, true), (9, true), (10, true)] (by kernel_rfl) (by kernel_rfl) ?_
  have hS : W2.drew.cell? ⟨w.heap.size, 0, none⟩ = some (.int .i64 K) ∧ W2.drew.cell? ⟨w.heap.size, 1, none⟩ = some (.int .i64 R) ∧ W2.drew.cell? ⟨w.heap.size, 2, none⟩ = some (.slice va vn vc) ∧ W2.drew.cell? ta = some (.int .i64 y) := ⟨z0, z1, z2, cT2⟩
  refine headY (v := ?_) (some 42) rfl rfl (Or.inl ⟨by rfl, ?_⟩) hS ?_
  rotate_left
  · rintro W' ⟨s0, s1, s2, s3⟩; go_simp; try with_reducible rfl
  simp only [Act.put, List.setIfInBounds_toArray, List.set_cons_zero, List.set_cons_succ]
  refine headY (v := ?_) (some 43) rfl rfl (Or.inl ⟨by rfl, ?_⟩) hS ?_
  rotate_left
  · rintro W' ⟨s0, s1, s2, s3⟩; go_simp; try with_reducible rfl
  simp only [Act.put, List.setIfInBounds_toArray, List.set_cons_zero, List.set_cons_succ]
  refine headY (v := ?_) (some 46) rfl rfl (Or.inl ⟨by rfl, ?_⟩) hS ?_
  rotate_left
  · rintro W' ⟨s0, s1, s2, s3⟩; go_simp; try with_reducible rfl
  simp only [Act.put, List.setIfInBounds_toArray, List.set_cons_zero, List.set_cons_succ]
  refine headY (v := ?_) (some 47) rfl rfl (Or.inl ⟨by rfl, ?_⟩) hS ?_
  rotate_left
  · rintro W' ⟨s0, s1, s2, s3⟩; go_simp; try with_reducible rfl
  simp only [Act.put, List.setIfInBounds_toArray, List.set_cons_zero, List.set_cons_succ]
  refine headY (v := ?_) (some 48) rfl rfl (Or.inl ⟨by rfl, ?_⟩) hS ?_
  rotate_left
  · rintro W' ⟨s0, s1, s2, s3⟩; go_simp; try with_reducible rfl
  simp only [Act.put, List.setIfInBounds_toArray, List.set_cons_zero, List.set_cons_succ]
  refine headY (v := ?_) (some 49) rfl rfl (Or.inl ⟨by rfl, ?_⟩) hS ?_
  rotate_left
  · rintro W' ⟨s0, s1, s2, s3⟩; go_simp; try with_reducible rfl
  simp only [Act.put, List.setIfInBounds_toArray, List.set_cons_zero, List.set_cons_succ]
  refine headY (v := ?_) (some 50) rfl rfl (Or.inl ⟨by rfl, ?_⟩) hS ?_
  rotate_left
  · rintro W' ⟨s0, s1, s2, s3⟩; go_simp; try with_reducible rfl
  simp only [Act.put, List.setIfInBounds_toArray, List.set_cons_zero, List.set_cons_succ]
  refine headC rfl (fun KK hK => ?_)
  go_simp
  refine (over_nodes K R va vn vc T _ hT2.out.drew hk1 (by omega)).mono ?_
  rintro e W3 ⟨rfl, rfl⟩
  rw [hN.out]
  have b3 := belowAlloc W2.drew (.cells #[.int .i64 K, .int .i64 R, .slice va vn vc] 24)
  have hS3 := (⟨cell_keep b3 hS.1, cell_keep b3 hS.2.1, cell_keep b3 hS.2.2.1, (b3.cell (World.block_lt_of_cell? _ _ hS.2.2.2)).trans hS.2.2.2⟩ : (W2.drew.alloc (.cells #[.int .i64 K, .int .i64 R, .slice va vn vc] 24)).cell? ⟨w.heap.size, 0, none⟩ = some (.int .i64 K) ∧ (W2.drew.alloc (.cells #[.int .i64 K, .int .i64 R, .slice va vn vc] 24)).cell? ⟨w.heap.size, 1, none⟩ = some (.int .i64 R) ∧ (W2.drew.alloc (.cells #[.int .i64 K, .int .i64 R, .slice va vn vc] 24)).cell? ⟨w.heap.size, 2, none⟩ = some (.slice va vn vc) ∧ (W2.drew.alloc (.cells #[.int .i64 K, .int .i64 R, .slice va vn vc] 24)).cell? ta = some (.int .i64 y))
  refine hK _ _ hS3 ?_
  clear hK KK
  refine headY (v := ?_) (some 45) rfl rfl (Or.inl ⟨by rfl, ?_⟩) hS3 ?_
  rotate_left
  · rintro W' ⟨s0, s1, s2, s3⟩; go_simp; try with_reducible rfl
  simp only [Act.put, List.setIfInBounds_toArray, List.set_cons_zero, List.set_cons_succ]
  refine headY (v := ?_) (some 6) rfl rfl (Or.inl ⟨by rfl, ?_⟩) hS3 ?_
  rotate_left
  · rintro W' ⟨s0, s1, s2, s3⟩; go_simp; try with_reducible rfl
  simp only [Act.put, List.setIfInBounds_toArray, List.set_cons_zero, List.set_cons_succ]
  refine headY (v := ?_) (some 7) rfl rfl (Or.inl ⟨by rfl, ?_⟩) hS3 ?_
  rotate_left
  · rintro W' ⟨s0, s1, s2, s3⟩; go_simp; try with_reducible rfl
  simp only [Act.put, List.setIfInBounds_toArray, List.set_cons_zero, List.set_cons_succ]
  refine head0 ?_
  simp only [List.drop_succ_cons, List.drop_zero]
  clear hS hS3
  go_wp2
  refine NoPanic.normal ?_
  go_wp2
  go_ret3
  exact ⟨_, _, _, rfl, Below.step b0 (Below.step b2 ((Below.refl _ _).drew.alloc (Nat.le_refl _) _)), rfl, rfl, rfl⟩
end Go.Proofs.YtilpckngghffoaaGreatDoor

namespace Go.Proofs.YtilpckngghffoaaGreatDoor
open Go.RowKit
set_option maxRecDepth 100000

set_option maxHeartbeats 1000000 in
theorem fwiden_ok (r : Nat → Addr) (K R d : Nat) (va : Option Addr) (vn vc : Nat) (T : List Int) (w : World) (hg : Glob r w) (h : IntsAt w (.slice va vn vc) T) (hr : RuleOk K R T) (hRd : R + d ≤ 3) (Ri : Int) (hRi : Ri = ((R + d : Nat) : Int)) :
    Calls Tryz.prog 112 #[.agg #[.int .i64 K, .int .i64 R, .slice va vn vc], .int .i64 Ri] w (Ret2 (fun x y w' => y = .nilIface ∧ ∃ a n c, x = .agg #[.int .i64 K, .int .i64 ((R + d : Nat) : Int), .slice a n c] ∧ OwnI w.heap.size w' (.slice a n c) (wideT K R d T)) w) := by
  have b0 := Below.step (belowAlloc w (.cells #[.int .i64 K, .int .i64 R, .slice va vn vc] 24)) (belowAlloc _ (.cells #[.int .i64 0, .int .i64 0, .slice none 0 0] 24))
  have q2 : Box3 ((w.alloc (.cells #[.int .i64 K, .int .i64 R, .slice va vn vc] 24)).alloc (.cells #[.int .i64 0, .int .i64 0, .slice none 0 0] 24)) (w.heap.size + 1) (.int .i64 0) (.int .i64 0) (.slice none 0 0) := by simp [Box3, go_sem]
  have q1 : Box3 ((w.alloc (.cells #[.int .i64 K, .int .i64 R, .slice va vn vc] 24)).alloc (.cells #[.int .i64 0, .int .i64 0, .slice none 0 0] 24)) w.heap.size (.int .i64 K) (.int .i64 R) (.slice va vn vc) := by simp [Box3, go_sem]
  have hk1 := hr.k1
  have hk4 := hr.k4
  have hR3 := hr.r3
  have hck := Lib.hid hr.check
  have h1 : R ≤ Ri := by omega
  have h2 : Ri ≤ 3 := by omega
  have h1d : decide (Ri < (R : Int)) = false := by simp; omega
  have h2d : decide ((3 : Int) < Ri) = false := by simp; omega
  replace hRi := Lib.hid hRi
  replace hg := Lib.hid (hg.below b0)
  replace h := Lib.hid (h.below b0)
  replace hr := Lib.hid hr
  replace q1 := Lib.hid q1
  replace q2 := Lib.hid q2
  go_enter Tryz.func112, Tryz.ntmps112
  go_wp2_with fail
  refine (forms_check r _ K R va vn vc T _ hg.out h.out).mono ?_
  rintro e w1 ⟨x, rfl, hb, he⟩
  rw [hck.out] at he
  obtain rfl := ErrIs.none_eq he
  have q11 := q1.out.below hb
  obtain ⟨⟨z0, z1, z2⟩, -, -, -⟩ := q11
  have s1 := hb.size
  simp only [World.size_alloc] at s1
  replace s1 := Lib.hid s1
  go_wp2_with fail
  refine (widened_any K R d va vn vc T w1 (h.out.below hb) hr.out hRd Ri hRi.out).mono ?_
  rintro e w2 ⟨x, rfl, b2, a, n, c, rfl, ho⟩
  obtain ⟨⟨y0, y1, y2⟩, f0, f1, f2⟩ := q2.out.below (Below.step hb b2)
  replace ho := Lib.hid ho
  clear z0 z1 z2
  go_wp2
  refine bodyPost_ret (v := .tuple #[.agg #[.int .i64 K, .int .i64 ((R + d : Nat) : Int), .slice a n c], .nilIface]) (by simp [results, Tryz.results112, go_sem, y0, y1, y2]) rfl ⟨_, _, rfl, below_set3 (Below.step b0 (Below.step hb b2)) (Nat.le_succ _) _ _ _, rfl, a, n, c, rfl, ?_⟩
  have := s1.out
  exact (((ho.out.setBelowBase (a := ⟨w.heap.size + 1, 0, none⟩) (by simp; omega) _).setBelowBase (a := ⟨w.heap.size + 1, 1, none⟩) (by simp; omega) _).setBelowBase (a := ⟨w.heap.size + 1, 2, none⟩) (by simp; omega) _).mono (by omega)

/-- The working rule's radius and table. -/
def wkR (R : Nat) : Nat := if R = 0 then 1 else R
def wkT (K R : Nat) (T : List Int) : List Int := if R = 0 then wideT K 0 1 T else T
theorem wk_ok {K R : Nat} {T : List Int} (h : RuleOk K R T) : RuleOk K (wkR R) (wkT K R T) := by
  unfold wkR wkT
  by_cases e : R = 0
  · subst e; rw [if_pos rfl, if_pos rfl]; exact wideT_ok (d := 1) h (by decide)
  · rw [if_neg e, if_neg e]; exact h
theorem wk_pos (R : Nat) : 1 ≤ wkR R := by unfold wkR; split <;> omega
theorem wk_small {K R : Nat} {T : List Int} (h : RuleOk K R T) (hl : T.length ≤ 256) : (wkT K R T).length ≤ 256 := by
  unfold wkT
  by_cases e : R = 0
  · subst e; rw [if_pos rfl, wideT_length]
    have h4 := h.k4
    have : pw K 3 ≤ pw 4 3 := Nat.pow_le_pow_left h4 3
    have e4 : pw 4 3 = 64 := by decide
    have : pw K (2 * (0 + 1) + 1) = pw K 3 := rfl
    omega
  · rw [if_neg e]; exact hl
/-- A small rule's working rule has at most 81 nodes. -/
theorem nodes_le {K R : Nat} {T : List Int} (h : RuleOk K R T) (hR : 1 ≤ R) (hl : T.length ≤ 256) : pw K (2 * R) ≤ 81 := by
  have h1 := h.k1
  have h4 := h.k4
  have h3 := h.r3
  rw [h.len] at hl
  have hK : K = 1 ∨ K = 2 ∨ K = 3 ∨ K = 4 := by omega
  have hR' : R = 1 ∨ R = 2 ∨ R = 3 := by omega
  rcases hK with rfl | rfl | rfl | rfl <;> rcases hR' with rfl | rfl | rfl <;> revert hl <;> decide

theorem working_bad (r : Nat → Addr) (k R : Int) (va : Option Addr) (vn vc : Nat) (T : List Int) (t : Int × List (ByteArray × Int)) (w : World) (hg : Glob r w) (h : IntsAt w (.slice va vn vc) T) (hc : smallP k R T = some t) :
    Calls Tryz.prog 59 #[.agg #[.int .i64 k, .int .i64 R, .slice va vn vc]] w (Ret2 (fun x y w' => x = zR ∧ ErrIs r w' (under sPairs 0 (some t)) y) w) := by
  have b0 := Below.step (belowAlloc w (.cells #[.int .i64 k, .int .i64 R, .slice va vn vc] 24)) (belowAlloc _ (.cells #[.int .i64 0, .int .i64 0, .slice none 0 0] 24))
  have q2 : Box3 ((w.alloc (.cells #[.int .i64 k, .int .i64 R, .slice va vn vc] 24)).alloc (.cells #[.int .i64 0, .int .i64 0, .slice none 0 0] 24)) (w.heap.size + 1) (.int .i64 0) (.int .i64 0) (.slice none 0 0) := by simp [Box3, go_sem]
  replace hg := Lib.hid (hg.below b0)
  replace h := Lib.hid (h.below b0)
  replace hc := Lib.hid hc
  replace q2 := Lib.hid q2
  go_enter Tryz.func59, Tryz.ntmps59
  go_wp2_with fail
  refine (small_any r k R va vn vc T _ hg.out h.out).mono ?_
  rintro e w1 ⟨x, rfl, b1, he⟩
  rw [hc.out] at he
  have he' := he
  obtain ⟨T1, a1, rfl⟩ := ErrIs.some_shape he
  replace he := Lib.hid he
  replace he' := Lib.hid he'
  go_wp2_with fail
  refine (under_any r _ 0 _ _ w1 he'.out).mono ?_
  rintro e w2 ⟨y, rfl, b2, hy⟩
  obtain ⟨T2, a2, rfl⟩ : ∃ T a, y = .iface T (.pointer (some a)) := by
    unfold under at hy
    exact ErrIs.some_shape hy
  obtain ⟨⟨y0, y1, y2⟩, f0, f1, f2⟩ := q2.out.below (Below.step b1 b2)
  replace hy := Lib.hid hy
  go_wp2
  rw [setCell_self3 y0 y1 y2]
  exact bodyPost_ret (v := .tuple #[zR, .iface T2 (.pointer (some a2))]) (by simp [results, Tryz.results59, go_sem, y0, y1, y2]) rfl ⟨_, _, rfl, Below.step b0 (Below.step b1 b2), rfl, hy.out⟩

set_option maxHeartbeats 1000000 in
theorem working_ok (r : Nat → Addr) (K R : Nat) (va : Option Addr) (vn vc : Nat) (T : List Int) (w : World) (hg : Glob r w) (h : IntsAt w (.slice va vn vc) T) (hr : RuleOk K R T) (hl : T.length ≤ 256) :
    Calls Tryz.prog 59 #[.agg #[.int .i64 K, .int .i64 R, .slice va vn vc]] w (Ret2 (fun x y w' => y = .nilIface ∧ ∃ a n c, x = .agg #[.int .i64 K, .int .i64 (wkR R), .slice a n c] ∧ IntsAt w' (.slice a n c) (wkT K R T)) w) := by
  have b0 := Below.step (belowAlloc w (.cells #[.int .i64 K, .int .i64 R, .slice va vn vc] 24)) (belowAlloc _ (.cells #[.int .i64 0, .int .i64 0, .slice none 0 0] 24))
  have q2 : Box3 ((w.alloc (.cells #[.int .i64 K, .int .i64 R, .slice va vn vc] 24)).alloc (.cells #[.int .i64 0, .int .i64 0, .slice none 0 0] 24)) (w.heap.size + 1) (.int .i64 0) (.int .i64 0) (.slice none 0 0) := by simp [Box3, go_sem]
  have q1 : Box3 ((w.alloc (.cells #[.int .i64 K, .int .i64 R, .slice va vn vc] 24)).alloc (.cells #[.int .i64 0, .int .i64 0, .slice none 0 0] 24)) w.heap.size (.int .i64 K) (.int .i64 R) (.slice va vn vc) := by simp [Box3, go_sem]
  have hs := Lib.hid (smallP_small hr hl)
  have h0 := Lib.hid h
  have hs0 : w.heap.size + 1 < ((w.alloc (.cells #[.int .i64 K, .int .i64 R, .slice va vn vc] 24)).alloc (.cells #[.int .i64 0, .int .i64 0, .slice none 0 0] 24)).heap.size := by simp
  replace hg := Lib.hid (hg.below b0)
  replace h := Lib.hid (h.below b0)
  replace hr := Lib.hid hr
  replace q1 := Lib.hid q1
  replace q2 := Lib.hid q2
  replace hs0 := Lib.hid hs0
  by_cases hR : R = 0
  · have e1 : wkR R = R + 1 := by unfold wkR; rw [if_pos hR, hR]
    have e2 : wkT K R T = wideT K R 1 T := by unfold wkT; rw [if_pos hR, hR]
    have hRq : ((R : Int) == 0) = true := by simp [hR]
    rw [e1, e2]
    replace hR := Lib.hid hR
    clear e1 e2
    go_enter Tryz.func59, Tryz.ntmps59
    go_wp2_with fail
    refine (small_any r K R va vn vc T _ hg.out h.out).mono ?_
    rintro e w1 ⟨x, rfl, b1, he⟩
    rw [hs.out] at he
    obtain rfl := ErrIs.none_eq he
    have q11 := q1.out.below b1
    obtain ⟨⟨z0, z1, z2⟩, -, -, -⟩ := q11
    go_wp2_with fail
    refine (fwiden_ok r K R 1 va vn vc T w1 (hg.out.below b1) (h.out.below b1) hr.out (by have := hR.out; omega) 1 (by have := hR.out; simp [this])).mono ?_
    rintro e w2 ⟨x, y, rfl, b2, rfl, a, n, c, rfl, ho⟩
    obtain ⟨⟨y0, y1, y2⟩, f0, f1, f2⟩ := q2.out.below (Below.step b1 b2)
    replace ho := Lib.hid ho
    clear z0 z1 z2
    go_wp2
    refine bodyPost_ret (v := .tuple #[.agg #[.int .i64 K, .int .i64 ((R + 1 : Nat) : Int), .slice a n c], .nilIface]) (by simp [results, Tryz.results59, go_sem, y0, y1, y2]) rfl ⟨_, _, rfl, below_set3 (Below.step b0 (Below.step b1 b2)) (Nat.le_succ _) _ _ _, rfl, a, n, c, rfl, ?_⟩
    have s1 := hs0.out
    have s2 := b1.size
    exact (((ho.out.setBelowBase (a := ⟨w.heap.size + 1, 0, none⟩) (Nat.lt_of_lt_of_le s1 s2) _).setBelowBase (a := ⟨w.heap.size + 1, 1, none⟩) (Nat.lt_of_lt_of_le s1 s2) _).setBelowBase (a := ⟨w.heap.size + 1, 2, none⟩) (Nat.lt_of_lt_of_le s1 s2) _).at
  · have e1 : wkR R = R := by unfold wkR; rw [if_neg hR]
    have e2 : wkT K R T = T := by unfold wkT; rw [if_neg hR]
    have hRq : ((R : Int) == 0) = false := by rw [beq_eq_false_iff_ne]; omega
    have hR' : ¬ (R : Int) = 0 := by omega
    rw [e1, e2]
    clear e1 e2
    go_enter Tryz.func59, Tryz.ntmps59
    go_wp2_with fail
    refine (small_any r K R va vn vc T _ hg.out h.out).mono ?_
    rintro e w1 ⟨x, rfl, b1, he⟩
    rw [hs.out] at he
    obtain rfl := ErrIs.none_eq he
    have q11 := q1.out.below b1
    obtain ⟨⟨z0, z1, z2⟩, -, -, -⟩ := q11
    obtain ⟨⟨y0, y1, y2⟩, f0, f1, f2⟩ := q2.out.below b1
    have b01 := Below.step b0 b1
    have hTW := h0.out.below (below_set3 b01 (Nat.le_succ _) (.int .i64 K) (.int .i64 R) (.slice va vn vc))
    replace hTW := Lib.hid hTW
    go_wp2
    refine bodyPost_ret (v := .tuple #[.agg #[.int .i64 K, .int .i64 R, .slice va vn vc], .nilIface]) (by simp [results, Tryz.results59, go_sem, y0, y1, y2]) rfl ⟨_, _, rfl, below_set3 b01 (Nat.le_succ _) _ _ _, rfl, va, vn, vc, rfl, hTW.out⟩
end Go.Proofs.YtilpckngghffoaaGreatDoor

namespace Go.Proofs.YtilpckngghffoaaGreatDoor

theorem wideT_get {K R d : Nat} {T : List Int} {i : Nat} (h : i < pw K (2 * (R + d) + 1)) : (wideT K R d T).getD i 0 = T.getD (numW K (((digs K (2 * (R + d) + 1) i).drop d).take (2 * R + 1))) 0 := by
  simp [wideT, List.getD, h]
end Go.Proofs.YtilpckngghffoaaGreatDoor

namespace Go.Proofs.YtilpckngghffoaaGreatDoor
open Go.RowKit
set_option maxRecDepth 100000

theorem words05 (k m : Int) (K n : Nat) (w : World) (hk : k = K) (hm : m = n) (h1 : 1 ≤ K) (h4 : K ≤ 4) (hn : n ≤ 7) :
    Calls Tryz.prog 173 #[.int .i64 k, .int .i64 m] w fun e w' => e = .returned (.int .i64 (pw K n)) ∧ w = w' := by
  have hp := ref_power k m K n w hk hm h1 h4 hn
  clear hk hm
  replace hp := Lib.hid hp
  go_enter Tryz.func173, Tryz.ntmps173
  go_wp2_with fail
  refine hp.out.mono ?_
  rintro e w1 ⟨rfl, rfl⟩
  go_wp2
  go_ret
  exact ⟨rfl, rfl⟩

set_option maxHeartbeats 4000000 in
theorem ref_wide (K R d : Nat) (va : Option Addr) (vn vc : Nat) (T : List Int) (w : World) (h : IntsAt w (.slice va vn vc) T) (hr : RuleOk K R T) (hd : R + d ≤ 3) (RR : Int) (hRR : RR = ((R + d : Nat) : Int)) :
    Calls Tryz.prog 147 #[.agg #[.int .i64 K, .int .i64 R, .slice va vn vc], .int .i64 RR] w (Ret1 (fun x w' => ∃ a n c, x = .agg #[.int .i64 K, .int .i64 RR, .slice a n c] ∧ OwnI w.heap.size w' (.slice a n c) (wideT K R d T)) w) := by
  have hk1 := hr.k1
  have hk4 := hr.k4
  have hR3 := hr.r3
  obtain ⟨M, hM⟩ : ∃ M, pw K (2 * (R + d) + 1) = M := ⟨_, rfl⟩
  have hM2 : M ≤ 16384 := by rw [← hM]; exact pw_le hk1 hk4 (by omega)
  have b0 : Below w.heap.size w (((w.alloc (.cells #[.int .i64 K, .int .i64 R, .slice va vn vc] 24)).alloc (.cells #[.int .i64 0, .int .i64 0, .slice none 0 0] 24)).alloc (.cells #[.int .i64 K, .int .i64 RR, .slice none 0 0] 24)) := Below.step (belowAlloc w (.cells #[.int .i64 K, .int .i64 R, .slice va vn vc] 24)) (Below.step (belowAlloc _ (.cells #[.int .i64 0, .int .i64 0, .slice none 0 0] 24)) (belowAlloc _ (.cells #[.int .i64 K, .int .i64 RR, .slice none 0 0] 24)))
  have qr : Box3 (((w.alloc (.cells #[.int .i64 K, .int .i64 R, .slice va vn vc] 24)).alloc (.cells #[.int .i64 0, .int .i64 0, .slice none 0 0] 24)).alloc (.cells #[.int .i64 K, .int .i64 RR, .slice none 0 0] 24)) w.heap.size (.int .i64 K) (.int .i64 R) (.slice va vn vc) := by simp [Box3, go_sem]
  have qz : Box3 (((w.alloc (.cells #[.int .i64 K, .int .i64 R, .slice va vn vc] 24)).alloc (.cells #[.int .i64 0, .int .i64 0, .slice none 0 0] 24)).alloc (.cells #[.int .i64 K, .int .i64 RR, .slice none 0 0] 24)) (w.heap.size + 1) (.int .i64 0) (.int .i64 0) (.slice none 0 0) := by simp [Box3, go_sem]
  have qo : Box3 (((w.alloc (.cells #[.int .i64 K, .int .i64 R, .slice va vn vc] 24)).alloc (.cells #[.int .i64 0, .int .i64 0, .slice none 0 0] 24)).alloc (.cells #[.int .i64 K, .int .i64 RR, .slice none 0 0] 24)) (w.heap.size + 2) (.int .i64 K) (.int .i64 RR) (.slice none 0 0) := by simp [Box3, go_sem]
  have s0 : (((w.alloc (.cells #[.int .i64 K, .int .i64 R, .slice va vn vc] 24)).alloc (.cells #[.int .i64 0, .int .i64 0, .slice none 0 0] 24)).alloc (.cells #[.int .i64 K, .int .i64 RR, .slice none 0 0] 24)).heap.size = w.heap.size + 3 := by simp
  have hlow : ∀ j, j < T.length → (valAt (.slice va vn vc) j).block < w.heap.size := fun j hj => World.block_lt_of_cell? _ _ (h.cellD j hj)
  obtain ⟨W0, hW0⟩ : ∃ W : World, (((w.alloc (.cells #[.int .i64 K, .int .i64 R, .slice va vn vc] 24)).alloc (.cells #[.int .i64 0, .int .i64 0, .slice none 0 0] 24)).alloc (.cells #[.int .i64 K, .int .i64 RR, .slice none 0 0] 24)) = W := ⟨_, rfl⟩
  have h0 := h.below b0
  rw [hW0] at b0 qr qz qo s0 h0
  replace h := Lib.hid h
  replace hr := Lib.hid hr
  replace hM := Lib.hid hM
  replace s0 := Lib.hid s0
  replace hlow := Lib.hid hlow
  replace hW0 := Lib.hid hW0
  have hRR2 := Lib.hid hRR
  have hwn : 2 * RR + 1 = ((2 * (R + d) + 1 : Nat) : Int) := by omega
  have hdd : RR - (R : Int) = (d : Int) := by omega
  replace hwn := Lib.hid hwn
  have e1 : 0 ≤ RR := by omega
  have e2 : RR ≤ 3 := by omega
  clear hRR
  go_enter Tryz.func147, Tryz.ntmps147
  go_upto_region 2 with fail
  rw [hW0.out]
  have qr0 := qr
  obtain ⟨⟨z0, z1, z2⟩, -, -, -⟩ := qr0
  go_wp2_with fail
  clear hW0 z0 z1 z2
  go_loopw [7] (fun iv wr => ∃ i : Nat, i ≤ M ∧ iv = .int .i64 i ∧ (∃ oa on oc, OwnI (w.heap.size + 3) wr (.slice oa on oc) ((wideT K R d T).take i) ∧ Box3 wr (w.heap.size + 2) (.int .i64 K) (.int .i64 RR) (.slice oa on oc)) ∧ Box3 wr (w.heap.size + 1) (.int .i64 0) (.int .i64 0) (.slice none 0 0) ∧ Box3 wr w.heap.size (.int .i64 K) (.int .i64 R) (.slice va vn vc) ∧ Below w.heap.size w wr ∧ w.heap.size + 3 ≤ wr.heap.size) (fun iv _ => M - (intOf iv).toNat)
  case atStart => exact ⟨0, by omega, rfl, ⟨none, 0, 0, OwnI.nil _ _, qo⟩, qz, qr, b0, by rw [s0.out]; omega⟩
  case round =>
    clear qo qz qr b0 h0
    obtain ⟨i, hi, rfl, ⟨oa, on, oc, hO, qo⟩, qz, qr, hB, hBs⟩ := hrel
    obtain ⟨wo, rfl⟩ : ∃ wo : World, wo = wr := ⟨_, rfl⟩
    have qr0 := qr
    obtain ⟨⟨z0, z1, z2⟩, -, -, -⟩ := qr0
    have hwd := words05 K (2 * RR + 1) K (2 * (R + d) + 1) wo rfl hwn.out hk1 hk4 (by omega)
    rw [hM.out] at hwd
    have hdg := fun (j : Int) (hj : j = (i : Int)) (hi : i < M) => ref_digits K (2 * RR + 1) j K (2 * (R + d) + 1) i wo rfl hwn.out hj hk1 hk4 (by omega) (by omega)
    replace hwd := Lib.hid hwd
    replace hdg := Lib.hid hdg
    replace qo := Lib.hid qo
    replace qz := Lib.hid qz
    replace qr := Lib.hid qr
    replace hO := Lib.hid hO
    go_wp2_with fail
    refine hwd.out.mono ?_
    rintro e w1 ⟨rfl, rfl⟩
    by_cases hlt : i < M
    · have dlt : decide ((i : Int) < (M : Int)) = true := decide_eq_true (by omega)
      go_wp2_with fail
      refine (hdg.out _ rfl hlt).mono ?_
      rintro e w1 ⟨x, rfl, b1, hx⟩
      obtain ⟨W, hW⟩ : ∃ W : World, w1.drew = W := ⟨_, rfl⟩
      have bW : Below wo.heap.size wo W := by rw [← hW]; exact b1.drew
      have hBW : Below w.heap.size w W := hB.trans (bW.mono hB.size)
      have qoW := qo.out.below bW
      have qzW := qz.out.below bW
      have qrW := qr.out.below bW
      have hOW := hO.out.below bW
      have sW : w.heap.size + 3 ≤ W.heap.size := Nat.le_trans hBs bW.size
      have hdl : (digs K (2 * (R + d) + 1) i).length = 2 * (R + d) + 1 := digs_length _ _ _
      have hxW : IntsAt W x (digs K (2 * (R + d) + 1) i) := by rw [← hW]; exact hx.at
      have lX := hxW.len
      rw [hdl] at lX
      obtain ⟨pv, hsl, hP⟩ := hxW.mid d (2 * (R + d) + 1 - d) (by omega) (by omega)
      have hwin : ((digs K (2 * (R + d) + 1) i).take (2 * (R + d) + 1 - d)).drop d = ((digs K (2 * (R + d) + 1) i).drop d).take (2 * R + 1) := by rw [List.drop_take]; congr 1; omega
      rw [hwin] at hP
      have hwl : (((digs K (2 * (R + d) + 1) i).drop d).take (2 * R + 1)).length = 2 * R + 1 := by rw [List.length_take, List.length_drop]; omega
      have hws : Syms K (((digs K (2 * (R + d) + 1) i).drop d).take (2 * R + 1)) := syms_take (syms_drop (digs_syms hk1 _ _) d) _
      have hnl := numW_lt _ hws
      rw [hwl, ← hr.out.len] at hnl
      have hT := h.out.below hBW
      have iT := fun w' => hT.idx _ hnl w'
      have cT := hT.cellD _ hnl
      have htb := hlow.out _ hnl
      have hg := wideT_get (K := K) (R := R) (d := d) (T := T) (i := i) (by rw [hM.out]; exact hlt)
      have hwlen : (wideT K R d T).length = M := by rw [wideT_length]; exact hM.out
      have htk : (wideT K R d T).take (i + 1) = (wideT K R d T).take i ++ [(wideT K R d T).getD i 0] := by
        rw [List.take_add_one, List.getElem?_eq_getElem (by rw [hwlen]; exact hlt), List.getD_eq_getElem?_getD, List.getElem?_eq_getElem (by rw [hwlen]; exact hlt)]; rfl
      rw [hg] at htk
      have hval := ref_value K pv _ W hk1 hk4 hP hws (by rw [hwl]; omega)
      obtain ⟨pa, pn, pc, rfl⟩ := hP.shape
      obtain ⟨xa, xn, xc, rfl⟩ := hxW.shape
      have hsl2 : ∀ w', (Instr.slice 22 (.slice xa xn xc) (some (.int .i64 (d : Int))) (some (.int .i64 (((2 * (R + d) + 1 : Nat) : Int) - (d : Int)))) none).run Tryz.prog w' = .ok (.slice pa pn pc) w' := by
        intro w'; have := hsl w'; rwa [show (((2 * (R + d) + 1 - d : Nat) : Nat) : Int) = ((2 * (R + d) + 1 : Nat) : Int) - (d : Int) by omega] at this
      have hws9 : IntKind.i64.wrap (((2 * (R + d) + 1 : Nat) : Int) - (d : Int)) = ((2 * (R + d) + 1 : Nat) : Int) - (d : Int) := wrapK (by omega) (by omega)
      have hol : ((wideT K R d T).take i).length = i := by rw [List.length_take, hwlen]; omega
      generalize hn9 : ((2 * (R + d) + 1 : Nat) : Int) = n9 at *
      generalize T.getD (numW K (((digs K (2 * (R + d) + 1) i).drop d).take (2 * R + 1))) 0 = y at *
      generalize numW K (((digs K (2 * (R + d) + 1) i).drop d).take (2 * R + 1)) = N at *
      generalize valAt (.slice va vn vc) N = ta at *
      have hta := World.block_lt_of_cell? _ _ cT
      have hS : W.cell? ⟨w.heap.size, 0, none⟩ = some (.int .i64 K) ∧ W.cell? ⟨w.heap.size, 1, none⟩ = some (.int .i64 R) ∧ W.cell? ⟨w.heap.size, 2, none⟩ = some (.slice va vn vc) ∧ W.cell? ⟨w.heap.size + 2, 2, none⟩ = some (.slice oa on oc) ∧ W.cell? ta = some (.int .i64 y) := ⟨qrW.1.1, qrW.1.2.1, qrW.1.2.2, qoW.1.2.2, cT⟩
      have bl := belowAlloc W (.cells #[.int .i64 y] 3)
      have hlit := OwnI.lit W.heap.size W (Nat.le_refl _) [y] (by simp [maxLen]) #[.int .i64 y] rfl 1 rfl
      have hOl := hOW.below bl
      have hBl : w.heap.size + 3 ≤ (W.alloc (.cells #[.int .i64 y] 3)).heap.size := by simp; omega
      have qol := qoW.below bl
      have qzl := qzW.below bl
      have qrl := qrW.below bl
      have hS1 : (W.alloc (.cells #[.int .i64 y] 3)).cell? ⟨w.heap.size, 0, none⟩ = some (.int .i64 K) ∧ (W.alloc (.cells #[.int .i64 y] 3)).cell? ⟨w.heap.size, 1, none⟩ = some (.int .i64 R) ∧ (W.alloc (.cells #[.int .i64 y] 3)).cell? ⟨w.heap.size, 2, none⟩ = some (.slice va vn vc) ∧ (W.alloc (.cells #[.int .i64 y] 3)).cell? ⟨w.heap.size + 2, 2, none⟩ = some (.slice oa on oc) ∧ (W.alloc (.cells #[.int .i64 y] 3)).cell? ta = some (.int .i64 y) := ⟨qrl.1.1, qrl.1.2.1, qrl.1.2.2, qol.1.2.2, (bl.cell hta).trans cT⟩
      replace hval := Lib.hid hval
      replace hT := Lib.hid hT
      replace hOW := Lib.hid hOW
      replace hP := Lib.hid hP
      replace hxW := Lib.hid hxW
      replace hx := Lib.hid hx
      replace hws := Lib.hid hws
      replace hwl := Lib.hid hwl
      replace hwin := Lib.hid hwin
      replace hg := Lib.hid hg
      replace htk := Lib.hid htk
      replace hol := Lib.hid hol
      replace hdl := Lib.hid hdl
      replace hwlen := Lib.hid hwlen
      replace hW := Lib.hid hW
      replace hOl := Lib.hid hOl
      replace hlit := Lib.hid hlit
      replace qol := Lib.hid qol
      replace qzl := Lib.hid qzl
      replace qrl := Lib.hid qrl
      replace qoW := Lib.hid qoW
      replace qzW := Lib.hid qzW
      replace qrW := Lib.hid qrW
      replace hn9 := Lib.hid hn9
      clear hsl cT z0 z1 z2 hwd hdg
      go_upto_region 7 with fail
      refine wp_region_plan (fun w' => w'.cell? ⟨w.heap.size, 0, none⟩ = some (.int .i64 K) ∧ w'.cell? ⟨w.heap.size, 1, none⟩ = some (.int .i64 R) ∧ w'.cell? ⟨w.heap.size, 2, none⟩ = some (.slice va vn vc) ∧ w'.cell? ⟨w.heap.size + 2, 2, none⟩ = some (.slice oa on oc) ∧ w'.cell? ta = some (.int .i64 y)) 19 [(0, true), (1, true), (2, true), (3, true), (4, true), (5, true), (6, true), (7, true), (8, true), (9, true), (10, true), (11, true), (12, true), (13, false), (14, true), (15, true), (16, false), (17, false), (18, true)] (by kernel_rfl) (by kernel_rfl) ?_
      rw [hW.out]
      refine headY (v := ?_) (some 34) rfl rfl (Or.inl ⟨by rfl, ?_⟩) hS ?_
      rotate_left
      · rintro W' ⟨s0, s1, s2, s3, s4⟩; go_simp; try with_reducible rfl
      simp only [Act.put, List.setIfInBounds_toArray, List.set_cons_zero, List.set_cons_succ]
      refine headY (v := ?_) (some 35) rfl rfl (Or.inl ⟨by rfl, ?_⟩) hS ?_
      rotate_left
      · rintro W' ⟨s0, s1, s2, s3, s4⟩; go_simp; try with_reducible rfl
      simp only [Act.put, List.setIfInBounds_toArray, List.set_cons_zero, List.set_cons_succ]
      refine headY (v := ?_) (some 36) rfl rfl (Or.inl ⟨by rfl, ?_⟩) hS ?_
      rotate_left
      · rintro W' ⟨s0, s1, s2, s3, s4⟩; go_simp; try with_reducible rfl
      simp only [Act.put, List.setIfInBounds_toArray, List.set_cons_zero, List.set_cons_succ]
      refine headY (v := ?_) (some 37) rfl rfl (Or.inl ⟨by rfl, ?_⟩) hS ?_
      rotate_left
      · rintro W' ⟨s0, s1, s2, s3, s4⟩; go_simp; try with_reducible rfl
      simp only [Act.put, List.setIfInBounds_toArray, List.set_cons_zero, List.set_cons_succ]
      refine headY (v := ?_) (some 38) rfl rfl (Or.inl ⟨by rfl, ?_⟩) hS ?_
      rotate_left
      · rintro W' ⟨s0, s1, s2, s3, s4⟩; go_simp; try with_reducible rfl
      simp only [Act.put, List.setIfInBounds_toArray, List.set_cons_zero, List.set_cons_succ]
      refine headY (v := ?_) (some 39) rfl rfl (Or.inl ⟨by rfl, ?_⟩) hS ?_
      rotate_left
      · rintro W' ⟨s0, s1, s2, s3, s4⟩; go_simp; try with_reducible rfl
      simp only [Act.put, List.setIfInBounds_toArray, List.set_cons_zero, List.set_cons_succ]
      refine headY (v := ?_) (some 40) rfl rfl (Or.inl ⟨by rfl, ?_⟩) hS ?_
      rotate_left
      · rintro W' ⟨s0, s1, s2, s3, s4⟩; go_simp; try with_reducible rfl
      simp only [Act.put, List.setIfInBounds_toArray, List.set_cons_zero, List.set_cons_succ]
      refine headY (v := ?_) (some 41) rfl rfl (Or.inl ⟨by rfl, ?_⟩) hS ?_
      rotate_left
      · rintro W' ⟨s0, s1, s2, s3, s4⟩; go_simp; try with_reducible rfl
      simp only [Act.put, List.setIfInBounds_toArray, List.set_cons_zero, List.set_cons_succ]
      refine headY (v := ?_) (some 42) rfl rfl (Or.inl ⟨by rfl, ?_⟩) hS ?_
      rotate_left
      · rintro W' ⟨s0, s1, s2, s3, s4⟩; go_simp; try with_reducible rfl
      simp only [Act.put, List.setIfInBounds_toArray, List.set_cons_zero, List.set_cons_succ]
      refine headY (v := ?_) (some 43) rfl rfl (Or.inl ⟨by rfl, ?_⟩) hS ?_
      rotate_left
      · rintro W' ⟨s0, s1, s2, s3, s4⟩; go_simp; try with_reducible rfl
      simp only [Act.put, List.setIfInBounds_toArray, List.set_cons_zero, List.set_cons_succ]
      refine headY (v := ?_) (some 44) rfl rfl (Or.inl ⟨by rfl, ?_⟩) hS ?_
      rotate_left
      · rintro W' ⟨s0, s1, s2, s3, s4⟩; go_simp; try with_reducible rfl
      simp only [Act.put, List.setIfInBounds_toArray, List.set_cons_zero, List.set_cons_succ]
      refine headY (v := ?_) (some 45) rfl rfl (Or.inl ⟨by rfl, ?_⟩) hS ?_
      rotate_left
      · rintro W' ⟨s0, s1, s2, s3, s4⟩; go_simp; try with_reducible rfl
      simp only [Act.put, List.setIfInBounds_toArray, List.set_cons_zero, List.set_cons_succ]
      refine headY (v := ?_) (some 46) rfl rfl (Or.inl ⟨by rfl, ?_⟩) hS ?_
      rotate_left
      · rintro W' ⟨s0, s1, s2, s3, s4⟩; go_simp; try with_reducible rfl
      simp only [Act.put, List.setIfInBounds_toArray, List.set_cons_zero, List.set_cons_succ]
      refine headC rfl (fun KK hK => ?_)
      go_simp
      refine hval.out.mono ?_
      rintro e w5 ⟨rfl, rfl⟩
      refine hK _ _ hS ?_
      clear hK KK
      refine headY (v := ?_) (some 48) rfl rfl (Or.inl ⟨by rfl, ?_⟩) hS ?_
      rotate_left
      · rintro W' ⟨s0, s1, s2, s3, s4⟩; go_simp; try with_reducible rfl
      simp only [Act.put, List.setIfInBounds_toArray, List.set_cons_zero, List.set_cons_succ]
      refine headY (v := ?_) (some 49) rfl rfl (Or.inl ⟨by rfl, ?_⟩) hS ?_
      rotate_left
      · rintro W' ⟨s0, s1, s2, s3, s4⟩; go_simp; try with_reducible rfl
      simp only [Act.put, List.setIfInBounds_toArray, List.set_cons_zero, List.set_cons_succ]
      refine headC rfl (fun KK hK => ?_)
      go_simp
      refine hK _ _ hS1 ?_
      clear hK KK
      refine headC rfl (fun KK hK => ?_)
      refine step_appI rfl _ _ rfl (w.heap.size + 3) (.slice oa on oc) (.slice (some ⟨W.heap.size, 0, none⟩) 1 1) _ [y] rfl rfl hOl.out hlit.out.at (by rw [hol.out]; simp; omega) hBl ?_
      intro v9 w9 ho9 b9
      rw [← htk.out] at ho9
      obtain ⟨v9a, v9b, v9c, rfl⟩ := ho9.at.shape
      have s9 := b9.size
      have qo9 := qol.out.belowB b9 (by omega)
      have qz9 := qzl.out.belowB b9 (by omega)
      have qr9 := qrl.out.belowB b9 (by omega)
      have b99 : Below w.heap.size w w9 := (hBW.trans (bl.mono (by omega))).trans (b9.mono (by omega))
      replace ho9 := Lib.hid ho9
      have hS9 : w9.cell? ⟨w.heap.size, 0, none⟩ = some (.int .i64 K) ∧ w9.cell? ⟨w.heap.size, 1, none⟩ = some (.int .i64 R) ∧ w9.cell? ⟨w.heap.size, 2, none⟩ = some (.slice va vn vc) ∧ w9.cell? ⟨w.heap.size + 2, 2, none⟩ = some (.slice oa on oc) ∧ w9.cell? ta = some (.int .i64 y) := ⟨qr9.1.1, qr9.1.2.1, qr9.1.2.2, qo9.1.2.2, (b9.cell (by omega)).trans hS1.2.2.2.2⟩
      refine hK _ _ hS9 ?_
      clear hK KK
      refine headY (v := ?_) (some 52) rfl rfl (Or.inl ⟨by rfl, ?_⟩) hS9 ?_
      rotate_left
      · rintro W' ⟨s0, s1, s2, s3, s4⟩; go_simp; try with_reducible rfl
      simp only [Act.put, List.setIfInBounds_toArray]
      refine head0 ?_
      simp only [List.drop_succ_cons, List.drop_zero]
      obtain ⟨⟨o0, o1, o2⟩, g0, g1, g2⟩ := qo9
      have qo10 : Box3 (w9.setCell ⟨w.heap.size + 2, 2, none⟩ (.slice v9a v9b v9c)) (w.heap.size + 2) (.int .i64 K) (.int .i64 RR) (.slice v9a v9b v9c) := Box3.set2 ⟨⟨o0, o1, o2⟩, g0, g1, g2⟩ _
      have qz10 : Box3 (w9.setCell ⟨w.heap.size + 2, 2, none⟩ (.slice v9a v9b v9c)) (w.heap.size + 1) (.int .i64 0) (.int .i64 0) (.slice none 0 0) := qz9.far (by omega) _ _
      have qr10 : Box3 (w9.setCell ⟨w.heap.size + 2, 2, none⟩ (.slice v9a v9b v9c)) w.heap.size (.int .i64 K) (.int .i64 R) (.slice va vn vc) := qr9.far (by omega) _ _
      have ho10 := ho9.out.setBelowBase (a := ⟨w.heap.size + 2, 2, none⟩) (by simp) (.slice v9a v9b v9c)
      have b10 : Below w.heap.size w (w9.setCell ⟨w.heap.size + 2, 2, none⟩ (.slice v9a v9b v9c)) := b99.setCell (show w.heap.size ≤ (⟨w.heap.size + 2, 2, none⟩ : Addr).block from Nat.le_add_right _ _) _
      have s10 : w.heap.size + 3 ≤ (w9.setCell ⟨w.heap.size + 2, 2, none⟩ (.slice v9a v9b v9c)).heap.size := by simp [World.setCell]; omega
      replace qo10 := Lib.hid qo10
      replace qz10 := Lib.hid qz10
      replace qr10 := Lib.hid qr10
      replace qz9 := Lib.hid qz9
      replace qr9 := Lib.hid qr9
      replace ho10 := Lib.hid ho10
      clear hS hS1 hS9
      go_wp2
      refine NoPanic.normal ?_
      go_wp2
      go_roundw
      case measure => simp [intOf]; omega
      case rel => exact ⟨i + 1, by omega, by go_num, ⟨_, _, _, ho10.out, qo10.out⟩, qz10.out, qr10.out, b10, s10⟩
    · have dlt : decide ((i : Int) < (M : Int)) = false := decide_eq_false (by omega)
      have hfin : (wideT K R d T).take i = wideT K R d T := List.take_of_length_le (by rw [wideT_length, hM.out]; omega)
      have hO' := hO.out
      rw [hfin] at hO'
      have qo0 := qo.out
      have qz0 := qz.out
      obtain ⟨⟨o0, o1, o2⟩, -, -, -⟩ := qo0
      obtain ⟨⟨y0, y1, y2⟩, f0, f1, f2⟩ := qz0
      replace hO' := Lib.hid hO'
      replace hfin := Lib.hid hfin
      clear z0 z1 z2 hwd hdg
      go_wp2
      refine bodyPost_ret (v := .agg #[.int .i64 K, .int .i64 RR, .slice oa on oc]) (by simp [results, Tryz.results147, go_sem, y0, y1, y2]) rfl ⟨_, rfl, below_set3 hB (Nat.le_succ _) _ _ _, oa, on, oc, rfl, ?_⟩
      exact (((hO'.out.setBelowBase (a := ⟨w.heap.size + 1, 0, none⟩) (by simp) _).setBelowBase (a := ⟨w.heap.size + 1, 1, none⟩) (by simp) _).setBelowBase (a := ⟨w.heap.size + 1, 2, none⟩) (by simp) _).mono (by omega)

set_option maxHeartbeats 2000000 in
theorem ref_widen (K R d : Nat) (va : Option Addr) (vn vc : Nat) (T : List Int) (w : World) (h : IntsAt w (.slice va vn vc) T) (hr : RuleOk K R T) (hd : R + d ≤ 3) (RR : Int) (hRR : RR = ((R + d : Nat) : Int)) :
    Calls Tryz.prog 116 #[.agg #[.int .i64 K, .int .i64 R, .slice va vn vc], .int .i64 RR] w (Ret2 (fun x y w' => y = .agg #[.int .i64 0, .slice none 0 0, .slice none 0 0] ∧ ∃ a n c, x = .agg #[.int .i64 K, .int .i64 RR, .slice a n c] ∧ OwnI w.heap.size w' (.slice a n c) (wideT K R d T)) w) := by
  have b0 : Below w.heap.size w (((w.alloc (.cells #[.int .i64 K, .int .i64 R, .slice va vn vc] 24)).alloc (.cells #[.int .i64 0, .int .i64 0, .slice none 0 0] 24)).alloc (.cells #[.int .i64 0, .slice none 0 0, .slice none 0 0] 33)) := Below.step (belowAlloc w (.cells #[.int .i64 K, .int .i64 R, .slice va vn vc] 24)) (Below.step (belowAlloc _ (.cells #[.int .i64 0, .int .i64 0, .slice none 0 0] 24)) (belowAlloc _ (.cells #[.int .i64 0, .slice none 0 0, .slice none 0 0] 33)))
  have qr : Box3 (((w.alloc (.cells #[.int .i64 K, .int .i64 R, .slice va vn vc] 24)).alloc (.cells #[.int .i64 0, .int .i64 0, .slice none 0 0] 24)).alloc (.cells #[.int .i64 0, .slice none 0 0, .slice none 0 0] 33)) w.heap.size (.int .i64 K) (.int .i64 R) (.slice va vn vc) := by simp [Box3, go_sem]
  have qz : Box3 (((w.alloc (.cells #[.int .i64 K, .int .i64 R, .slice va vn vc] 24)).alloc (.cells #[.int .i64 0, .int .i64 0, .slice none 0 0] 24)).alloc (.cells #[.int .i64 0, .slice none 0 0, .slice none 0 0] 33)) (w.heap.size + 1) (.int .i64 0) (.int .i64 0) (.slice none 0 0) := by simp [Box3, go_sem]
  have qe : Box3 (((w.alloc (.cells #[.int .i64 K, .int .i64 R, .slice va vn vc] 24)).alloc (.cells #[.int .i64 0, .int .i64 0, .slice none 0 0] 24)).alloc (.cells #[.int .i64 0, .slice none 0 0, .slice none 0 0] 33)) (w.heap.size + 2) (.int .i64 0) (.slice none 0 0) (.slice none 0 0) := by simp [Box3, go_sem]
  have s0 : (((w.alloc (.cells #[.int .i64 K, .int .i64 R, .slice va vn vc] 24)).alloc (.cells #[.int .i64 0, .int .i64 0, .slice none 0 0] 24)).alloc (.cells #[.int .i64 0, .slice none 0 0, .slice none 0 0] 33)).heap.size = w.heap.size + 3 := by simp
  have hf := f05_fault 0 K R va vn vc T (((w.alloc (.cells #[.int .i64 K, .int .i64 R, .slice va vn vc] 24)).alloc (.cells #[.int .i64 0, .int .i64 0, .slice none 0 0] 24)).alloc (.cells #[.int .i64 0, .slice none 0 0, .slice none 0 0] 33)) (h.below b0)
  rw [hr.check] at hf
  have hR3 := hr.r3
  obtain ⟨W0, hW0⟩ : ∃ W : World, (((w.alloc (.cells #[.int .i64 K, .int .i64 R, .slice va vn vc] 24)).alloc (.cells #[.int .i64 0, .int .i64 0, .slice none 0 0] 24)).alloc (.cells #[.int .i64 0, .slice none 0 0, .slice none 0 0] 33)) = W := ⟨_, rfl⟩
  rw [hW0] at b0 qr qz qe s0 hf
  have hwide := fun (w' : World) (h' : IntsAt w' (.slice va vn vc) T) => ref_wide K R d va vn vc T w' h' hr hd RR hRR
  replace hf := Lib.hid hf
  replace hwide := Lib.hid hwide
  replace h := Lib.hid h
  replace hr := Lib.hid hr
  replace hW0 := Lib.hid hW0
  have e1 : (R : Int) ≤ RR := by omega
  have e2 : RR ≤ 3 := by omega
  have e3 : decide (RR < (R : Int)) = false := decide_eq_false (by omega)
  have e4 : decide ((3 : Int) < RR) = false := decide_eq_false (by omega)
  clear hRR
  have qr0 := qr
  obtain ⟨⟨z0, z1, z2⟩, -, -, -⟩ := qr0
  go_enter Tryz.func116, Tryz.ntmps116
  go_upto_region 1 with fail
  rw [hW0.out]
  go_wp2_with fail
  refine hf.out.mono ?_
  rintro e w1 ⟨x, rfl, b1, he⟩
  obtain rfl : x = .agg #[.int .i64 0, .slice none 0 0, .slice none 0 0] := he
  obtain ⟨be, ⟨⟨y0, y1, y2⟩, -, -, -⟩⟩ := err_box8 w1 (.int .i64 0) (.slice none 0 0) (.slice none 0 0)
  have c1e := Below.step b1 be
  obtain ⟨W2, hW2⟩ : ∃ W2 : World, w1.alloc (.cells #[.int .i64 0, .slice none 0 0, .slice none 0 0] 33) = W2 := ⟨_, rfl⟩
  rw [hW2] at be c1e y0 y1 y2
  replace hW2 := Lib.hid hW2
  clear z0 z1 z2
  go_upto_region 2 with fail
  rw [hW2.out]
  go_wp2_with fail
  refine (err_bad _ _ _ _ _ _ _ W2).mono ?_
  rintro e w3 ⟨_, rfl, b3, rfl⟩
  rw [show ((0 : Int) != 0) = false from rfl]
  have c3 := Below.step c1e b3
  obtain ⟨⟨z0, z1, z2⟩, -, -, -⟩ := qr.below c3
  clear y0 y1 y2
  have b03 := Below.step b0 c3
  go_wp2_with fail
  refine (hwide.out w3 (h.out.below b03)).mono ?_
  rintro e w4 ⟨x, rfl, b4, a, n, c, rfl, ho⟩
  have c4 := Below.step c3 b4
  have b04 := Below.step b03 b4
  obtain ⟨⟨z0', z1', z2'⟩, f0, f1, f2⟩ := qz.below c4
  obtain ⟨⟨y0, y1, y2⟩, g0, g1, g2⟩ := qe.below c4
  have s3 := c3.size
  replace ho := Lib.hid ho
  clear z0 z1 z2
  go_wp2
  refine bodyPost_ret (v := .tuple #[.agg #[.int .i64 K, .int .i64 RR, .slice a n c], .agg #[.int .i64 0, .slice none 0 0, .slice none 0 0]]) (by simp [results, Tryz.results116, go_sem, z0', z1', z2', y0, y1, y2]) rfl ⟨_, _, rfl, below_set3 (below_set3 b04 (Nat.le_succ _) _ _ _) (by omega) _ _ _, rfl, a, n, c, rfl, ?_⟩
  refine OwnI.mono ((((((ho.out.setBelowBase (a := ⟨w.heap.size + 1, 0, none⟩) ?_ _).setBelowBase (a := ⟨w.heap.size + 1, 1, none⟩) ?_ _).setBelowBase (a := ⟨w.heap.size + 1, 2, none⟩) ?_ _).setBelowBase (a := ⟨w.heap.size + 2, 0, none⟩) ?_ _).setBelowBase (a := ⟨w.heap.size + 2, 1, none⟩) ?_ _).setBelowBase (a := ⟨w.heap.size + 2, 2, none⟩) ?_ _) ?_ <;> (try show _ < w3.heap.size) <;> (try simp only []) <;> omega

set_option maxHeartbeats 2000000 in
theorem ref_working (K R : Nat) (va : Option Addr) (vn vc : Nat) (T : List Int) (w : World) (h : IntsAt w (.slice va vn vc) T) (hr : RuleOk K R T) :
    Calls Tryz.prog 66 #[.agg #[.int .i64 K, .int .i64 R, .slice va vn vc]] w (Ret1 (fun x w' => ∃ a n c, x = .agg #[.int .i64 K, .int .i64 (wkR R), .slice a n c] ∧ IntsAt w' (.slice a n c) (wkT K R T)) w) := by
  have b0 : Below w.heap.size w ((w.alloc (.cells #[.int .i64 K, .int .i64 R, .slice va vn vc] 24)).alloc (.cells #[.int .i64 0, .int .i64 0, .slice none 0 0] 24)) := Below.step (belowAlloc w (.cells #[.int .i64 K, .int .i64 R, .slice va vn vc] 24)) (belowAlloc _ (.cells #[.int .i64 0, .int .i64 0, .slice none 0 0] 24))
  have qr : Box3 ((w.alloc (.cells #[.int .i64 K, .int .i64 R, .slice va vn vc] 24)).alloc (.cells #[.int .i64 0, .int .i64 0, .slice none 0 0] 24)) w.heap.size (.int .i64 K) (.int .i64 R) (.slice va vn vc) := by simp [Box3, go_sem]
  have qz : Box3 ((w.alloc (.cells #[.int .i64 K, .int .i64 R, .slice va vn vc] 24)).alloc (.cells #[.int .i64 0, .int .i64 0, .slice none 0 0] 24)) (w.heap.size + 1) (.int .i64 0) (.int .i64 0) (.slice none 0 0) := by simp [Box3, go_sem]
  have s0 : ((w.alloc (.cells #[.int .i64 K, .int .i64 R, .slice va vn vc] 24)).alloc (.cells #[.int .i64 0, .int .i64 0, .slice none 0 0] 24)).heap.size = w.heap.size + 2 := by simp
  have hlow : ∀ j, j < T.length → (valAt (.slice va vn vc) j).block < w.heap.size := fun j hj => World.block_lt_of_cell? _ _ (h.cellD j hj)
  by_cases hR : R = 0
  · subst hR
    clear b0 qr qz s0
    have b0 : Below w.heap.size w ((w.alloc (.cells #[.int .i64 K, .int .i64 0, .slice va vn vc] 24)).alloc (.cells #[.int .i64 0, .int .i64 0, .slice none 0 0] 24)) := Below.step (belowAlloc w (.cells #[.int .i64 K, .int .i64 0, .slice va vn vc] 24)) (belowAlloc _ (.cells #[.int .i64 0, .int .i64 0, .slice none 0 0] 24))
    have qr : Box3 ((w.alloc (.cells #[.int .i64 K, .int .i64 0, .slice va vn vc] 24)).alloc (.cells #[.int .i64 0, .int .i64 0, .slice none 0 0] 24)) w.heap.size (.int .i64 K) (.int .i64 0) (.slice va vn vc) := by simp [Box3, go_sem]
    have qz : Box3 ((w.alloc (.cells #[.int .i64 K, .int .i64 0, .slice va vn vc] 24)).alloc (.cells #[.int .i64 0, .int .i64 0, .slice none 0 0] 24)) (w.heap.size + 1) (.int .i64 0) (.int .i64 0) (.slice none 0 0) := by simp [Box3, go_sem]
    have s0 : ((w.alloc (.cells #[.int .i64 K, .int .i64 0, .slice va vn vc] 24)).alloc (.cells #[.int .i64 0, .int .i64 0, .slice none 0 0] 24)).heap.size = w.heap.size + 2 := by simp
    obtain ⟨W0, hW0⟩ : ∃ W : World, ((w.alloc (.cells #[.int .i64 K, .int .i64 0, .slice va vn vc] 24)).alloc (.cells #[.int .i64 0, .int .i64 0, .slice none 0 0] 24)) = W := ⟨_, rfl⟩
    have hwd := fun (w' : World) (h' : IntsAt w' (.slice va vn vc) T) => ref_widen K 0 1 va vn vc T w' h' hr (by decide) 1 rfl
    rw [hW0] at b0 qr qz s0
    replace hwd := Lib.hid hwd
    replace h := Lib.hid h
    replace hr := Lib.hid hr
    replace hlow := Lib.hid hlow
    replace hW0 := Lib.hid hW0
    have qr0 := qr
    obtain ⟨⟨z0, z1, z2⟩, -, -, -⟩ := qr0
    go_enter Tryz.func66, Tryz.ntmps66
    go_upto_region 1 with fail
    rw [hW0.out]
    go_wp2_with fail
    refine (hwd.out W0 (h.out.below b0)).mono ?_
    rintro e w1 ⟨_, _, rfl, b1, rfl, a, n, c, rfl, ho⟩
    have c1 := Below.step b1 (Below.step (belowAlloc w1 (.cells #[.int .i64 K, .int .i64 1, .slice a n c] 24)) (belowAlloc _ (.cells #[.int .i64 0, .slice none 0 0, .slice none 0 0] 33)))
    have qx : Box3 ((w1.alloc (.cells #[.int .i64 K, .int .i64 1, .slice a n c] 24)).alloc (.cells #[.int .i64 0, .slice none 0 0, .slice none 0 0] 33)) w1.heap.size (.int .i64 K) (.int .i64 1) (.slice a n c) := by simp [Box3, go_sem]
    obtain ⟨⟨y0, y1, y2⟩, f0, f1, f2⟩ := qz.below c1
    have ho2 := (ho.alloc (.cells #[.int .i64 K, .int .i64 1, .slice a n c] 24)).alloc (.cells #[.int .i64 0, .slice none 0 0, .slice none 0 0] 33)
    have bE := Below.step b0 c1
    clear z0 z1 z2
    replace ho := Lib.hid ho
    replace ho2 := Lib.hid ho2
    go_wp2
    refine bodyPost_ret (v := .agg #[.int .i64 K, .int .i64 1, .slice a n c]) (by simp [results, Tryz.results66, go_sem, y0, y1, y2]) rfl ⟨_, rfl, below_set3 bE (Nat.le_succ _) _ _ _, a, n, c, rfl, ?_⟩
    refine OwnI.at (B := w.heap.size + 2) ?_
    rw [s0] at ho2
    exact ((ho2.out.setBelowBase (a := ⟨w.heap.size + 1, 0, none⟩) (by simp) _).setBelowBase (a := ⟨w.heap.size + 1, 1, none⟩) (by simp) _).setBelowBase (a := ⟨w.heap.size + 1, 2, none⟩) (by simp) _
  · have e1 : decide ((0 : Int) < (R : Int)) = true := decide_eq_true (by omega)
    have hk : wkR R = R := if_neg hR
    have hkT : wkT K R T = T := if_neg hR
    obtain ⟨W0, hW0⟩ : ∃ W : World, ((w.alloc (.cells #[.int .i64 K, .int .i64 R, .slice va vn vc] 24)).alloc (.cells #[.int .i64 0, .int .i64 0, .slice none 0 0] 24)) = W := ⟨_, rfl⟩
    rw [hW0] at b0 qr qz s0
    rw [hk, hkT]
    have b1 := below_set3 b0 (Nat.le_succ _) (.int .i64 K) (.int .i64 R) (.slice va vn vc)
    have hE := h.below b1
    replace h := Lib.hid h
    replace hE := Lib.hid hE
    replace hr := Lib.hid hr
    replace hlow := Lib.hid hlow
    replace hW0 := Lib.hid hW0
    clear hk hkT
    obtain ⟨⟨z0, z1, z2⟩, -, -, -⟩ := qr
    obtain ⟨⟨y0, y1, y2⟩, f0, f1, f2⟩ := qz
    go_enter Tryz.func66, Tryz.ntmps66
    go_upto_region 1 with fail
    rw [hW0.out]
    go_wp2
    refine bodyPost_ret (v := .agg #[.int .i64 K, .int .i64 R, .slice va vn vc]) (by simp [results, Tryz.results66, go_sem, y0, y1, y2]) rfl ⟨_, rfl, b1, va, vn, vc, rfl, hE.out⟩

theorem ref_count (K R : Nat) (va : Option Addr) (vn vc : Nat) (w : World) (hk1 : 1 ≤ K) (hk4 : K ≤ 4) (hR3 : R ≤ 3) :
    Calls Tryz.prog 41 #[.agg #[.int .i64 K, .int .i64 R, .slice va vn vc]] w (Ret1 (fun x _ => x = .int .i64 (pw K (2 * R) : Nat)) w) := by
  have b0 := belowAlloc w (.cells #[.int .i64 K, .int .i64 R, .slice va vn vc] 24)
  have hp := ref_power K (2 * (R : Int)) K (2 * R) (w.alloc (.cells #[.int .i64 K, .int .i64 R, .slice va vn vc] 24)) rfl (by omega) hk1 hk4 (by omega)
  replace hp := Lib.hid hp
  go_enter Tryz.func41, Tryz.ntmps41
  go_wp2_with fail
  refine hp.out.mono ?_
  rintro e w1 ⟨rfl, rfl⟩
  go_wp2
  go_ret
  exact ⟨_, rfl, b0, rfl⟩
end Go.Proofs.YtilpckngghffoaaGreatDoor
