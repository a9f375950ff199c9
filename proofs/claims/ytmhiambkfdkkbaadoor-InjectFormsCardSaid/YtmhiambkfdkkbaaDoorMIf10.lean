/-
  Proved: the law edenlaw14.InjectForms as its tied card: it returns true and never panics, for any rule and any list. No conditions beyond the card's own.
  Walk: forms.made at a function that has captured one variable.
  Walks: forms.Mirror and the function that it hands to forms.made.
  Walks: slices.Index, forms.Rename and the function that it hands to forms.made.
  Walks: forms.Rename.
  Plain mathematics: a renamed rule permutes on the same sides.
  Plain mathematics: the image and the twins of a renamed rule.
  Plain mathematics: with other names for the symbols a rule is one to one just if it is.
  Plain mathematics: the least radius of a rule.
  Walks: forms.inner and the function that it hands to forms.made; forms.Narrow.
  Walk: edenlaw14.InjectForms returns true.
  Opening what a call is handed: []int, api.Rule, the package-level errors.
-/
import Derived.Test.YtmhiambkfdkkbaaDoorMIf9
import Derived.Test.YtmhiambkfdkkbaaDoorRows
import Derived.ProofKit
import Derived.OpenShut
import Derived.ShutString
import Derived.ChangeOld
import Derived.LaidMore
import Derived.Stop.Joined
import Derived.Stop.LaidErr
import Derived.Lib.SmallJoins
import Derived.Test.YtmhiambkfdkkbaaDoorCards
import Derived.Test.YtmhiambkfdkkbaaDoorTie
import Derived.SevenTiedAt
namespace Go.Proofs.YtmhiambkfdkkbaaDoor
open Go.RowKit
set_option maxRecDepth 100000

set_option maxHeartbeats 800000 in
theorem made_one0 (K R F : Nat) (c1 : Value) (s : List Int → Int) (w : World) (hk1 : 1 ≤ K) (hk4 : K ≤ 4) (hR : R ≤ 3)
    (eg : ∀ args w, (callFunc F args).run Tryd.prog w = .ok (.enter F args) w)
    (hF : ∀ (v : Value) (ys : List Int) (w' : World), Below w.heap.size w w' → IntsAt w' v ys → Syms K ys → ys.length = 2 * R + 1 → Calls Tryd.prog F #[v, c1] w' (Ret1 (fun x _ => x = .int .i64 (s ys)) w')) :
    Calls Tryd.prog 60 #[.int .i64 K, .int .i64 R, .func (.func F) #[] #[c1]] w (Ret1 (fun x w' => ∃ a n c, x = .agg #[.int .i64 K, .int .i64 R, .slice a n c] ∧ OwnI w.heap.size w' (.slice a n c) (madeP K (2 * R + 1) s (pw K (2 * R + 1)))) w) := by
  have hpl := pw_le hk1 hk4 (i := 2 * R + 1) (by omega)
  replace hF := Lib.hid hF
  go_enter Tryd.func60, Tryd.ntmps60
  go_wp2_with fail
  refine (size_ok K R _ hk1 hk4 hR).mono ?_
  rintro e w' ⟨rfl, rfl⟩
  go_wp2_with fail
  have hb0 := belowAlloc w (.cells #[.int .i64 0, .int .i64 0, .slice none 0 0] 24)
  obtain ⟨tv, w1, hmk, ho1, hb1⟩ := run_makeI ((pw K (2 * R + 1) : Nat) : Int) (pw K (2 * R + 1)) (w.alloc (.cells #[.int .i64 0, .int .i64 0, .slice none 0 0] 24)) rfl (by omega)
  obtain ⟨ta, tn, tc, rfl⟩ := ho1.at.shape
  rw [hmk]
  simp only [Result.andThen]
  clear hmk
  generalize hN : 2 * R + 1 = N at *
  go_wp2_with fail
  obtain ⟨wv, w2, hmk2, ho2, hb2⟩ := run_makeI (2 * (R : Int) + 1) N (w1.alloc (.cells #[.int .i64 K, .int .i64 R, .slice ta tn tc] 24)) (by omega) (by omega)
  obtain ⟨wa, wn, wc, rfl⟩ := ho2.at.shape
  rw [hmk2]
  simp only [Result.andThen]
  clear hmk2
  obtain ⟨z0, z1, z2, -, -, -⟩ := cells3 hb2
  have lt := (ho1.at.len)
  rw [List.length_replicate] at lt
  have hN7 : N ≤ 7 := by omega
  replace hN := Lib.hid hN
  have ltb : ∀ k, (Value.slice ta tn tc).ownBlock = some k → k < w1.heap.size := fun k hk => (ho1.lt k hk).2
  have lwn := ho2.at.len
  rw [List.length_replicate] at lwn
  have ho1' := Lib.hid ((ho1.alloc (.cells #[.int .i64 K, .int .i64 R, .slice ta tn tc] 24)).below hb2)
  have zz := Lib.hid (And.intro z0 (And.intro z1 z2))
  have hbw := Lib.hid (hb1.trans ((Below.step (belowAlloc w1 (.cells #[.int .i64 K, .int .i64 R, .slice ta tn tc] 24)) hb2).mono hb1.size))
  replace ho2 := Lib.hid ho2
  replace ltb := Lib.hid ltb
  have hsz1 := hb1.size
  simp at hsz1
  have hM : pw K N = pw K N := rfl
  clear hM
  go_wp2
  go_loopw [32] (fun i wr => ∃ m : Nat, m ≤ pw K N ∧ i = .int .i64 m ∧ OwnI (w.heap.size + 1) wr (.slice ta tn tc) (madeP K N s m ++ List.replicate (pw K N - m) 0) ∧ (∃ p : List Int, p.length = N ∧ OwnI (w1.heap.size + 1) wr (.slice wa wn wc) p) ∧
      (wr.cell? ⟨w1.heap.size, 0, none⟩ = some (.int .i64 K) ∧ wr.cell? ⟨w1.heap.size, 1, none⟩ = some (.int .i64 R) ∧ wr.cell? ⟨w1.heap.size, 2, none⟩ = some (.slice ta tn tc)) ∧
      Below (w.heap.size + 1) (w.alloc (.cells #[.int .i64 0, .int .i64 0, .slice none 0 0] 24)) wr) (fun i _ => pw K N - (intOf i).toNat)
  case atStart => exact ⟨0, by omega, rfl, by simpa [madeP] using ho1'.out, ⟨List.replicate N 0, by simp, by simpa using ho2.out⟩, zz.out, by simpa using hbw.out⟩
  case round =>
    obtain ⟨m, hm, rfl, hT, ⟨p, hp, hP⟩, hz, hbO⟩ := hrel
    obtain ⟨wo, rfl⟩ : ∃ wo : World, wo = wr := ⟨_, rfl⟩
    replace hz := Lib.hid hz
    replace hT := Lib.hid hT
    by_cases hml : m < pw K N
    · have hsz2 : w1.heap.size < wo.heap.size := World.block_lt_of_cell? _ _ hz.out.1
      have hK0 : ((K : Int) == 0) = false := by rw [beq_eq_false_iff_ne]; omega
      have hK1 : ¬ (K : Int) = 0 := by omega
      have hK2 : (0 : Int) < K := by omega
      go_wp2
      go_loopw [12, 38] (fun x i wr => ∃ j : Nat, j ≤ N ∧ i = .int .i64 j ∧ x = .int .i64 (m / pw K j : Nat) ∧ OwnI (w1.heap.size + 1) wr (.slice wa wn wc) (p.take (N - j) ++ (digs K N m).drop (N - j)) ∧ Below (w1.heap.size + 1) wo wr) (fun _ i _ => N - (intOf i).toNat)
      case atStart => exact ⟨0, by omega, rfl, by simp [pw], by rw [Nat.sub_zero, List.drop_of_length_le (by rw [digs_length]; exact Nat.le_refl _), List.append_nil, List.take_of_length_le (by omega)]; exact hP, Below.refl _ _⟩
      case round =>
        obtain ⟨j, hj, rfl, rfl, hO, hbI⟩ := hrel
        obtain ⟨wi, rfl⟩ : ∃ wi : World, wi = wr := ⟨_, rfl⟩
        by_cases hjl : j < N
        · have hXl : (p.take (N - j) ++ (digs K N m).drop (N - j)).length = N := by simp [digs_length]; omega
          have i1 : ∀ w', (Instr.indexAt 22 (.slice wa wn wc) (.int .i64 ((N : Int) - 1 - (j : Int)))).run Tryd.prog w' = .ok (.pointer (some (valAt (.slice wa wn wc) (N - 1 - j)))) w' := by
            intro w'
            have := hO.at.idxI ((N : Int) - 1 - (j : Int)) (by omega) (by rw [hXl]; omega) w'
            rwa [show ((N : Int) - 1 - (j : Int)).toNat = N - 1 - j by omega] at this
          have c1 := hO.at.cellD (N - 1 - j) (by rw [hXl]; omega)
          have f1 := hO.frz (N - 1 - j) (by rw [hXl]; omega)
          have hS := hO.set (N - 1 - j) (by rw [hXl]; omega) ((m / pw K j % K : Nat) : Int)
          have hbS := hO.setBelow hbI (N - 1 - j) (by rw [hXl]; omega) (.int .i64 ((m / pw K j % K : Nat) : Int))
          rw [digs_fill K N m j hjl p hp] at hS
          replace hS := Lib.hid hS
          replace hbS := Lib.hid hbS
          have hqd : m / pw K j / K = m / pw K (j + 1) := by rw [Nat.div_div_eq_div_mul, ← pw_succ]
          replace hqd := Lib.hid hqd
          have hql : m / pw K j ≤ 16384 := Nat.le_trans (Nat.div_le_self _ _) (by omega)
          generalize (p.take (N - j) ++ (digs K N m).drop (N - j)).getD (N - 1 - j) 0 = y at c1
          clear hXl hO
          generalize m / pw K j = q at *
          rw [Int.natCast_emod] at hS hbS
          have hd0 : 0 ≤ (q : Int) / (K : Int) := Int.ediv_nonneg (by omega) (by omega)
          have hd1 : (q : Int) / (K : Int) ≤ 16384 := by
            have h1 : q / K ≤ q := Nat.div_le_self _ _
            have h2 : q / K ≤ 16384 := by omega
            exact_mod_cast h2
          have hdw : IntKind.i64.wrap ((q : Int) / (K : Int)) = (q : Int) / (K : Int) := wrapK (by omega) (by omega)
          go_wp2
          go_roundw
          case rel => exact ⟨j + 1, by omega, by go_num, by rw [← hqd.out]; simp, hS.out, hbS.out⟩
          case measure => simp [intOf]; omega
        · have hjN : j = N := by omega
          subst hjN
          rw [Nat.sub_self, List.take_zero, List.drop_zero, List.nil_append] at hO
          have hbW : Below w.heap.size w wi := ((belowAlloc w _).trans (hbO.mono (by omega))).trans (hbI.mono (by omega))
          have hz2 := hbI.cell (p := ⟨w1.heap.size, 2, none⟩) (by simp)
          have hTl : m < (madeP K j s m ++ List.replicate (pw K j - m) (0 : Int)).length := by simp [madeP_length]; omega
          have hTi := hT.out.belowB hbI (fun k hk => by have := ltb.out k hk; omega)
          have i2 := hTi.at.idx m hTl
          have c2 := hTi.at.cellD m hTl
          have f2 := hTi.frz m hTl
          have b2 := hTi.at.blk m hTl
          have z2i := hz2.trans hz.out.2.2
          have zbi : (⟨w1.heap.size, 2, none⟩ : Addr).block < wi.heap.size := World.block_lt_of_cell? _ _ z2i
          generalize (madeP K j s m ++ List.replicate (pw K j - m) (0 : Int)).getD m 0 = o at c2
          replace hTi := Lib.hid hTi
          replace hO := Lib.hid hO
          replace hbW := Lib.hid hbW
          replace hTl := Lib.hid hTl
          clear hz2
          have hvb : (valAt (.slice ta tn tc) m).block ≠ w1.heap.size := by
            have := ltb.out _ (hT.out.toV.blkB m (by simpa using hTl.out)).1
            omega
          have hdl : m + 1 ≤ pw K j := hml
          go_wp2
          go_region_held3 (fun w' => w'.cell? ⟨w1.heap.size, 2, none⟩ = some (.slice ta tn tc)) (go_keep)
            (first | (refine (hF.out _ (digs K j m) _ (by first | exact hbW.out.drew | exact hbW.out) (by first | exact hO.out.at.drew | exact hO.out.at) (digs_syms hk1 _ _) (by rw [digs_length])).mono ?_; rintro e w5 ⟨x5, rfl, hb5, rfl⟩; have y1 := (hb5.cell zbi).trans z2i; have y2 := (hb5.cell b2).trans c2; have y3 := (hb5.frozen b2).trans f2; have bb : Below wi.heap.size wi w5 := ((Below.refl _ _).drew).trans hb5))
          have hT5 := (hTi.out.drew.below hb5).set m hTl.out (s (digs K j m))
          rw [madeP_set K j s m _ hml] at hT5
          have hO5 := (hO.out.drew.below hb5).setOther (hTi.out.drew.below hb5) (by
            intro e
            have e1 := (hT.out.toV.blkB m (by simpa using hTl.out)).1
            have e2 := (hO.out.lt _ (e.trans e1)).1
            have e3 := ltb.out _ e1
            omega) m hTl.out (.int .i64 (s (digs K j m)))
          have hB5 := ((hbO.trans (hbI.mono (by omega))).trans (bb.mono (by omega))).setCell ((hTi.out.blkB m hTl.out)) (.int .i64 (s (digs K j m)))
          have x0 := (World.cell?_setCell_far w5 (valAt (.slice ta tn tc) m) ⟨w1.heap.size, 0, none⟩ (.int .i64 (s (digs K j m))) hvb).trans (((bb.cell (p := ⟨w1.heap.size, 0, none⟩) zbi)).trans ((hbI.cell (p := ⟨w1.heap.size, 0, none⟩) (by simp)).trans hz.out.1))
          have x1 := (World.cell?_setCell_far w5 (valAt (.slice ta tn tc) m) ⟨w1.heap.size, 1, none⟩ (.int .i64 (s (digs K j m))) hvb).trans (((bb.cell (p := ⟨w1.heap.size, 1, none⟩) zbi)).trans ((hbI.cell (p := ⟨w1.heap.size, 1, none⟩) (by simp)).trans hz.out.2.1))
          have x2 := (World.cell?_setCell_far w5 (valAt (.slice ta tn tc) m) ⟨w1.heap.size, 2, none⟩ (.int .i64 (s (digs K j m))) hvb).trans y1
          have xx := Lib.hid (And.intro x0 (And.intro x1 x2))
          clear x0 x1 x2
          replace hT5 := Lib.hid hT5
          replace hO5 := Lib.hid hO5
          replace hB5 := Lib.hid hB5
          go_wp2
          go_roundw
          case rel => exact ⟨m + 1, by omega, by go_num, hT5.out, ⟨digs K j m, digs_length .., hO5.out⟩, xx.out, hB5.out⟩
          case measure => simp [intOf]; omega
    · obtain rfl : m = pw K N := by omega
      rw [Nat.sub_self, List.replicate_zero, List.append_nil] at hT
      obtain ⟨z0, z1, z2⟩ := hz.out
      obtain ⟨y0, y1, y2, f0, f1, f2⟩ := cells3 (w := w) (show Below (w.alloc (.cells #[.int .i64 0, .int .i64 0, .slice none 0 0] 24)).heap.size _ wo by simpa using hbO)
      replace hbO := Lib.hid hbO
      go_wp2
      refine bodyPost_ret (v := .agg #[.int .i64 K, .int .i64 R, .slice ta tn tc]) (by simp [results, Tryd.results60, go_sem, y0, y1, y2]) rfl ⟨_, rfl, ?_, ta, tn, tc, rfl, ?_⟩
      · exact (((belowAlloc w _).trans (hbO.out.mono (by omega))).setCell (by simp) _).setCell (by simp) _ |>.setCell (by simp) _
      · rw [hN.out]; exact (((hT.out.setBelowBase (a := ⟨w.heap.size, 0, none⟩) (by simp) _).setBelowBase (a := ⟨w.heap.size, 1, none⟩) (by simp) _).setBelowBase (a := ⟨w.heap.size, 2, none⟩) (by simp) _).mono (Nat.le_succ _)

theorem made_one (K R F : Nat) (c1 : Value) (s : List Int → Int) (w : World) (hk1 : 1 ≤ K) (hk4 : K ≤ 4) (hR : R ≤ 3) (Ri : Int) (hRi : Ri = R)
    (eg : ∀ args w, (callFunc F args).run Tryd.prog w = .ok (.enter F args) w)
    (hF : ∀ (v : Value) (ys : List Int) (w' : World), Below w.heap.size w w' → IntsAt w' v ys → Syms K ys → ys.length = 2 * R + 1 → Calls Tryd.prog F #[v, c1] w' (Ret1 (fun x _ => x = .int .i64 (s ys)) w')) :
    Calls Tryd.prog 60 #[.int .i64 K, .int .i64 Ri, .func (.func F) #[] #[c1]] w (Ret1 (fun x w' => ∃ a n c, x = .agg #[.int .i64 K, .int .i64 R, .slice a n c] ∧ OwnI w.heap.size w' (.slice a n c) (madeP K (2 * R + 1) s (pw K (2 * R + 1)))) w) := by
  subst hRi
  exact made_one0 K R F c1 s w hk1 hk4 hR eg hF
end Go.Proofs.YtmhiambkfdkkbaaDoor

namespace Go.Proofs.YtmhiambkfdkkbaaDoor
open Go.RowKit
set_option maxRecDepth 100000

theorem fmirror1_any (K R : Nat) (va : Option Addr) (vn vc : Nat) (T : List Int) (p : Nat) (v : Value) (ys : List Int) (w : World)
    (h : IntsAt w (.slice va vn vc) T) (hr : RuleOk K R T) (hv : IntsAt w v ys) (hy : Syms K ys) (hyl : ys.length = 2 * R + 1)
    (x0 : w.cell? ⟨p, 0, none⟩ = some (.int .i64 K)) (x1 : w.cell? ⟨p, 1, none⟩ = some (.int .i64 R)) (x2 : w.cell? ⟨p, 2, none⟩ = some (.slice va vn vc)) :
    Calls Tryd.prog 61 #[v, .pointer (some ⟨p, 0, none⟩)] w (Ret1 (fun x _ => x = .int .i64 (T.getD (numW K ys.reverse) 0)) w) := by
  have hR := hr.r3
  have hle : ys.length ≤ 7 := by omega
  replace h := Lib.hid h
  replace hv := Lib.hid hv
  replace hy := Lib.hid hy
  replace hyl := Lib.hid hyl
  replace hr := Lib.hid hr
  have yy := Lib.hid (And.intro x0 (And.intro x1 x2))
  clear x0 x1 x2
  generalize hY : T.getD (numW K ys.reverse) 0 = Y
  replace hY := Lib.hid hY
  go_enter Tryd.func61, Tryd.ntmps61
  go_wp2_with fail
  refine (clone_any v ys _ hv.out (by omega)).mono ?_
  rintro e w1 ⟨x, rfl, b1, ho⟩
  have s1 := b1.size
  go_wp2_with fail
  refine (reverse_own _ x ys _ ho (by omega)).mono ?_
  rintro e w2 ⟨rfl, ho2, b2⟩
  have b12 := b1.trans b2
  obtain ⟨y0, y1, y2⟩ := keep3 b12 yy.out
  replace ho2 := Lib.hid ho2
  go_wp2_with fail
  refine (symbol_any K R va vn vc T x _ _ (h.out.below b12) hr.out ho2.out.at (fun z hz => hy.out z (List.mem_reverse.1 hz)) (by rw [List.length_reverse]; exact hyl.out)).mono ?_
  rintro e w3 ⟨x, rfl, b3, rfl⟩
  rw [hY.out]
  go_wp2
  go_ret
  exact ⟨_, rfl, Below.step b12 b3, rfl⟩

theorem eg_fmirror1 (args : Array Value) (w : World) : (callFunc 61 args).run Tryd.prog w = .ok (.enter 61 args) w := by kernel_rfl

theorem madeP_mir {K n : Nat} {T : List Int} (h : T.length = pw K n) : madeP K n (fun ys => T.getD (numW K ys.reverse) 0) (pw K n) = mirT K n T := by
  rw [madeP, mirT, h]

theorem fmirror_bad (r : Nat → Addr) (k R : Int) (va : Option Addr) (vn vc : Nat) (T : List Int) (t : Int × List (ByteArray × Int)) (w : World) (hg : Glob r w) (h : IntsAt w (.slice va vn vc) T) (hc : checkP k R T = some t) :
    Calls Tryd.prog 24 #[.agg #[.int .i64 k, .int .i64 R, .slice va vn vc]] w (Ret2 (fun x y w' => x = zR ∧ ErrIs r w' (under sForms 0 (some t)) y) w) := by
  have b0 := Below.step (belowAlloc w (.cells #[.int .i64 k, .int .i64 R, .slice va vn vc] 24)) (belowAlloc _ (.cells #[.int .i64 0, .int .i64 0, .slice none 0 0] 24))
  have q2 : Box3 ((w.alloc (.cells #[.int .i64 k, .int .i64 R, .slice va vn vc] 24)).alloc (.cells #[.int .i64 0, .int .i64 0, .slice none 0 0] 24)) (w.heap.size + 1) (.int .i64 0) (.int .i64 0) (.slice none 0 0) := by simp [Box3, go_sem]
  replace hg := Lib.hid (hg.below b0)
  replace h := Lib.hid (h.below b0)
  replace hc := Lib.hid hc
  go_enter Tryd.func24, Tryd.ntmps24
  go_wp2_with fail
  refine (forms_check r _ k R va vn vc T _ hg.out h.out).mono ?_
  rintro e w1 ⟨x, rfl, hb, he⟩
  rw [hc.out] at he
  obtain ⟨T1, a1, rfl⟩ := ErrIs.some_shape he
  replace he := Lib.hid he
  obtain ⟨⟨y0, y1, y2⟩, f0, f1, f2⟩ := q2.below hb
  go_wp2
  rw [setCell_self3 y0 y1 y2]
  exact bodyPost_ret (v := .tuple #[zR, .iface T1 (.pointer (some a1))]) (by simp [results, Tryd.results24, go_sem, y0, y1, y2]) rfl ⟨_, _, rfl, Below.step b0 hb, rfl, he.out⟩

set_option maxHeartbeats 800000 in
theorem fmirror_ok (r : Nat → Addr) (K R : Nat) (va : Option Addr) (vn vc : Nat) (T : List Int) (w : World) (hg : Glob r w) (h : IntsAt w (.slice va vn vc) T) (hr : RuleOk K R T) :
    Calls Tryd.prog 24 #[.agg #[.int .i64 K, .int .i64 R, .slice va vn vc]] w (Ret2 (fun x y w' => y = .nilIface ∧ ∃ a n c, x = .agg #[.int .i64 K, .int .i64 R, .slice a n c] ∧ OwnI w.heap.size w' (.slice a n c) (mirT K (2 * R + 1) T)) w) := by
  have b0 := Below.step (belowAlloc w (.cells #[.int .i64 K, .int .i64 R, .slice va vn vc] 24)) (belowAlloc _ (.cells #[.int .i64 0, .int .i64 0, .slice none 0 0] 24))
  have q2 : Box3 ((w.alloc (.cells #[.int .i64 K, .int .i64 R, .slice va vn vc] 24)).alloc (.cells #[.int .i64 0, .int .i64 0, .slice none 0 0] 24)) (w.heap.size + 1) (.int .i64 0) (.int .i64 0) (.slice none 0 0) := by simp [Box3, go_sem]
  have q1 : Box3 ((w.alloc (.cells #[.int .i64 K, .int .i64 R, .slice va vn vc] 24)).alloc (.cells #[.int .i64 0, .int .i64 0, .slice none 0 0] 24)) w.heap.size (.int .i64 K) (.int .i64 R) (.slice va vn vc) := by simp [Box3, go_sem]
  have hk1 := hr.k1
  have hk4 := hr.k4
  have hR3 := hr.r3
  have hck := Lib.hid hr.check
  replace hg := Lib.hid (hg.below b0)
  replace h := Lib.hid (h.below b0)
  replace hr := Lib.hid hr
  go_enter Tryd.func24, Tryd.ntmps24
  go_wp2_with fail
  refine (forms_check r _ K R va vn vc T _ hg.out h.out).mono ?_
  rintro e w1 ⟨x, rfl, hb, he⟩
  rw [hck.out] at he
  obtain rfl := ErrIs.none_eq he
  have q11 := q1.below hb
  have q11x := q11
  obtain ⟨⟨z0, z1, z2⟩, -, -, -⟩ := q11x
  have s1 := hb.size
  simp only [World.size_alloc] at s1
  go_wp2_with fail
  refine (made_one K R _ _ (fun ys => T.getD (numW K ys.reverse) 0) _ hk1 hk4 hR3 _ rfl eg_fmirror1 (fun v ys w' hB hv hy hyl => by
    have := q11.below hB
    exact fmirror1_any K R va vn vc T _ v ys w' ((h.out.below hb).below hB) hr.out hv hy hyl this.1.1 this.1.2.1 this.1.2.2)).mono ?_
  rintro e w2 ⟨x, rfl, b2, a, n, c, rfl, ho⟩
  rw [madeP_mir hr.out.len] at ho
  obtain ⟨⟨y0, y1, y2⟩, f0, f1, f2⟩ := q2.below (Below.step hb b2)
  replace ho := Lib.hid ho
  clear z0 z1 z2
  go_wp2
  refine bodyPost_ret (v := .tuple #[.agg #[.int .i64 K, .int .i64 R, .slice a n c], .nilIface]) (by simp [results, Tryd.results24, go_sem, y0, y1, y2]) rfl ⟨_, _, rfl, below_set3 (Below.step b0 (Below.step hb b2)) (Nat.le_succ _) _ _ _, rfl, a, n, c, rfl, ?_⟩
  exact (((ho.out.setBelowBase (a := ⟨w.heap.size + 1, 0, none⟩) (by simp; omega) _).setBelowBase (a := ⟨w.heap.size + 1, 1, none⟩) (by simp; omega) _).setBelowBase (a := ⟨w.heap.size + 1, 2, none⟩) (by simp; omega) _).mono (by omega)
end Go.Proofs.YtmhiambkfdkkbaaDoor

namespace Go.Proofs.YtmhiambkfdkkbaaDoor
open Go.RowKit
set_option maxRecDepth 100000

/-- The first place of x. -/
def invP (p : List Int) (x : Int) : Int := idxOf (fun y => x == y) p

theorem index_any (v : Value) (xs : List Int) (x : Int) (w : World) (h : IntsAt w v xs) :
    Calls Tryd.prog 69 #[v, .int .i64 x] w fun e w' => e = .returned (.int .i64 (invP xs x)) ∧ w = w' := by
  have hlen := h.len
  have hm := h.len_le
  replace h := Lib.hid h
  go_enter Tryd.func69, Tryd.ntmps69
  go_wp2
  go_loop [8] (fun i => ∃ j : Nat, j ≤ xs.length ∧ i = .int .i64 j ∧ ∀ t (ht : t < xs.length), t < j → (x == xs[t]) = false) (fun i => xs.length - (intOf i).toNat)
  case atStart => exact ⟨0, by omega, rfl, fun t ht h => by omega⟩
  case round =>
    obtain ⟨j, hj, rfl, hne⟩ := hrel
    by_cases hjl : j < xs.length
    · have i1 := h.out.idx j hjl
      have c1 := h.out.cell j hjl
      by_cases he : (x == xs[j]) = true
      · have hr : Hid (invP xs x = j) := Lib.hid (idxOf_at j hjl he (fun t ht htj => hne t ht htj))
        have he' : x = xs[j] := by simpa using he
        rw [← he'] at c1
        clear he he'
        replace hne := Lib.hid hne
        go_wp2
        go_ret
        exact ⟨ret_int hr.out.symm, rfl⟩
      · have hn : Hid (∀ t (ht : t < xs.length), t < j + 1 → (x == xs[t]) = false) := Lib.hid (fun t ht htj => by
          by_cases e : t = j
          · subst e; simpa using he
          · exact hne t ht (by omega))
        have he' : (x == xs[j]) = false := by simpa using he
        obtain ⟨y, hy⟩ : ∃ y, y = xs[j] := ⟨_, rfl⟩
        rw [← hy] at c1 he'
        clear he hne hy
        go_wp2
        go_round
        case rel => exact ⟨j + 1, by omega, by go_num, hn.out⟩
        case measure => simp [intOf]; omega
    · have hr : Hid (invP xs x = -1) := Lib.hid (idxOf_neg (fun y hy => by
        obtain ⟨t, ht, rfl⟩ := List.mem_iff_getElem.1 hy
        exact hne t ht (by omega)))
      replace hne := Lib.hid hne
      go_wp2
      go_ret
      exact ⟨ret_int hr.out.symm, rfl⟩

/-- The names' list is one: each symbol once. -/
def permOk (K : Nat) (p : List Int) : Bool := decide (p.length = K) && decide (srt p = (List.range K).map (fun i : Nat => (i : Int)))
theorem srt_perm (p : List Int) : (srt p).Perm p := List.mergeSort_perm ..
theorem permOk_mem {K : Nat} {p : List Int} (h : permOk K p = true) (x : Int) : x ∈ p ↔ 0 ≤ x ∧ x < K := by
  simp only [permOk, Bool.and_eq_true, decide_eq_true_eq] at h
  rw [← (srt_perm p).mem_iff, h.2, List.mem_map]
  constructor
  · rintro ⟨i, hi, rfl⟩; have := List.mem_range.1 hi; omega
  · intro hx; exact ⟨x.toNat, List.mem_range.2 (by omega), by omega⟩
theorem permOk_syms {K : Nat} {p : List Int} (h : permOk K p = true) : Syms K p := fun x hx => (permOk_mem h x).1 hx
theorem permOk_len {K : Nat} {p : List Int} (h : permOk K p = true) : p.length = K := by
  simp only [permOk, Bool.and_eq_true, decide_eq_true_eq] at h; exact h.1
theorem invP_spec {K : Nat} {p : List Int} (h : permOk K p = true) {x : Int} (h0 : 0 ≤ x) (h1 : x < K) : ∃ i : Nat, invP p x = i ∧ i < K ∧ p.getD i 0 = x := by
  have hm := (permOk_mem h x).2 ⟨h0, h1⟩
  obtain ⟨j, hj, hje⟩ := List.mem_iff_getElem.1 hm
  rcases idxOf_cases (fun y => x == y) p with ⟨_, hn⟩ | ⟨k, hk, hkl, hp, _⟩
  · have := hn _ (List.getElem_mem hj); rw [hje] at this; simp at this
  · refine ⟨k, hk, by rw [← permOk_len h]; exact hkl, ?_⟩
    simp only [List.getD, List.getElem?_eq_getElem hkl, Option.getD_some]
    exact (show x = p[k] by simpa using hp).symm

/-- The symbol of a window by the other names. -/
def renF (K : Nat) (T p ys : List Int) : Int := p.getD (T.getD (numW K (ys.map (invP p))) 0).toNat 0
def renT (K n : Nat) (T p : List Int) : List Int := madeP K n (renF K T p) (pw K n)
theorem invP_syms {K : Nat} {p ys : List Int} (h : permOk K p = true) (hy : Syms K ys) : Syms K (ys.map (invP p)) := by
  intro z hz
  obtain ⟨y, hyy, rfl⟩ := List.mem_map.1 hz
  obtain ⟨i, e, hi, _⟩ := invP_spec h (hy y hyy).1 (hy y hyy).2
  rw [e]; omega

theorem fill_front' (A B : List Int) (j : Nat) (hj : j < A.length) (hl : B.length = A.length) : (A.take j ++ B.drop j).set j A[j] = A.take (j + 1) ++ B.drop (j + 1) := by
  have e : (A.take j).length = j := by simp; omega
  rw [List.set_append_right _ _ (by omega), e, Nat.sub_self, List.drop_eq_getElem_cons (show j < B.length by omega), List.set_cons_zero, take_snoc A j hj, List.append_assoc, List.singleton_append]
theorem map_fill (f : Int → Int) (A B : List Int) (j : Nat) (hj : j < A.length) (hl : B.length = A.length) : ((A.map f).take j ++ B.drop j).set j (f A[j]) = (A.map f).take (j + 1) ++ B.drop (j + 1) := by
  have := fill_front' (A.map f) B j (by simpa using hj) (by simpa using hl)
  simpa using this

set_option maxHeartbeats 1000000 in
theorem frename1_any (K R : Nat) (va : Option Addr) (vn vc : Nat) (T : List Int) (pa : Option Addr) (pn pc : Nat) (p : List Int) (b q : Nat) (v : Value) (ys : List Int) (w : World)
    (h : IntsAt w (.slice va vn vc) T) (hr : RuleOk K R T) (hp : IntsAt w (.slice pa pn pc) p) (hpo : permOk K p = true) (hv : IntsAt w v ys) (hy : Syms K ys) (hyl : ys.length = 2 * R + 1)
    (c0 : w.cell? ⟨b, 0, none⟩ = some (.slice pa pn pc)) (x0 : w.cell? ⟨q, 0, none⟩ = some (.int .i64 K)) (x1 : w.cell? ⟨q, 1, none⟩ = some (.int .i64 R)) (x2 : w.cell? ⟨q, 2, none⟩ = some (.slice va vn vc)) :
    Calls Tryd.prog 68 #[v, .pointer (some ⟨b, 0, none⟩), .pointer (some ⟨q, 0, none⟩)] w (Ret1 (fun x _ => x = .int .i64 (renF K T p ys)) w) := by
  have hk1 := hr.k1
  have hR := hr.r3
  have hyl7 : ys.length ≤ 7 := by omega
  have hlen := hv.len
  have hsy := invP_syms hpo hy
  have hyv : T.getD (numW K (ys.map (invP p))) 0 < K ∧ 0 ≤ T.getD (numW K (ys.map (invP p))) 0 := by
    have := hr.syms.getD (by omega) (numW K (ys.map (invP p))); omega
  have hpl := permOk_len hpo
  replace h := Lib.hid h
  replace hp := Lib.hid hp
  replace hpo := Lib.hid hpo
  replace hv := Lib.hid hv
  replace hy := Lib.hid hy
  replace hyl := Lib.hid hyl
  replace hr := Lib.hid hr
  replace hsy := Lib.hid hsy
  replace hpl := Lib.hid hpl
  replace x0 := Lib.hid x0
  replace x1 := Lib.hid x1
  replace x2 := Lib.hid x2
  go_enter Tryd.func68, Tryd.ntmps68
  go_wp2_with (at_make; refine wpl_make rfl _ _ rfl _ rfl rfl (by omega) (by omega) ?_)
  intro ov w1 ho b1
  replace ho := Lib.hid ho
  go_wp2
  go_loopw [13] (fun i wr => ∃ j : Nat, j ≤ ys.length ∧ i = .int .i64 j ∧ OwnI w.heap.size wr ov ((ys.map (invP p)).take j ++ (List.replicate ys.length (0 : Int)).drop j) ∧ Below w.heap.size w wr) (fun i _ => ys.length - (intOf i).toNat)
  case atStart => exact ⟨0, by omega, rfl, by simpa using ho.out, b1⟩
  case round =>
    obtain ⟨j, hj, rfl, hO, hB⟩ := hrel
    obtain ⟨wi, rfl⟩ : ∃ wi : World, wi = wr := ⟨_, rfl⟩
    have cb := cell_keep hB c0
    by_cases hjl : j < ys.length
    · have hXl : ((ys.map (invP p)).take j ++ (List.replicate ys.length (0 : Int)).drop j).length = ys.length := by simp; omega
      have i1 := (hv.out.below hB).idx j hjl
      have c1 := (hv.out.below hB).cell j hjl
      have i2 := hO.at.idx j (by rw [hXl]; exact hjl)
      have c2 := hO.at.cellD j (by rw [hXl]; exact hjl)
      have f2 := hO.frz j (by rw [hXl]; exact hjl)
      have hS := hO.set j (by rw [hXl]; exact hjl) (invP p ys[j])
      have hbS := hO.setBelow hB j (by rw [hXl]; exact hjl) (.int .i64 (invP p ys[j]))
      rw [map_fill (invP p) ys _ j hjl (by simp)] at hS
      have hIx := index_any (.slice pa pn pc) p ys[j] wi (hp.out.below hB)
      obtain ⟨y, hy'⟩ : ∃ y, y = ys[j] := ⟨_, rfl⟩
      rw [← hy'] at c1 hS hbS hIx
      obtain ⟨z, hz⟩ : ∃ z, z = invP p y := ⟨_, rfl⟩
      rw [← hz] at hS hbS hIx
      obtain ⟨z', hz'⟩ : ∃ z', z' = ((ys.map (invP p)).take j ++ (List.replicate ys.length (0 : Int)).drop j).getD j 0 := ⟨_, rfl⟩
      rw [← hz'] at c2
      replace hS := Lib.hid hS
      replace hbS := Lib.hid hbS
      clear hXl hO hy' hz hz'
      replace hIx := Lib.hid hIx
      go_wp2_with (go_at_call 69; refine hIx.out.mono ?_; rintro e w' ⟨rfl, rfl⟩)
      go_roundw
      case rel => exact ⟨j + 1, by omega, by go_num, hS.out, hbS.out⟩
      case measure => simp [intOf]; omega
    · obtain rfl : ys.length = j := by omega
      rw [List.take_of_length_le (by simp), List.drop_of_length_le (by simp), List.append_nil] at hO
      go_wp2
      have hTi := h.out.below hB
      have hPi := hp.out.below hB
      obtain ⟨yi, hyi⟩ : ∃ yi : Nat, T.getD (numW K (ys.map (invP p))) 0 = yi := ⟨(T.getD (numW K (ys.map (invP p))) 0).toNat, by omega⟩
      have i3 := hPi.idx yi (by rw [hpl.out]; omega)
      have c3 := hPi.cellD yi (by rw [hpl.out]; omega)
      have hres : Hid (renF K T p ys = p.getD yi 0) := Lib.hid (by rw [renF, hyi]; rfl)
      have hyi' := Lib.hid hyi
      obtain ⟨W, hW⟩ : ∃ W : World, W = wi.drew := ⟨_, rfl⟩
      have hol : Hid ((ys.map (invP p)).length = 2 * R + 1) := Lib.hid (by rw [List.length_map]; exact hyl.out)
      have hS : W.cell? ⟨b, 0, none⟩ = some (.slice pa pn pc) ∧ W.cell? ⟨q, 0, none⟩ = some (.int .i64 K) ∧ W.cell? ⟨q, 1, none⟩ = some (.int .i64 R) ∧ W.cell? ⟨q, 2, none⟩ = some (.slice va vn vc) ∧ W.cell? (valAt (.slice pa pn pc) yi) = some (.int .i64 (p.getD yi 0)) := by
        have k0 := cell_keep hB x0.out
        have k1 := cell_keep hB x1.out
        have k2 := cell_keep hB x2.out
        rw [hW]; exact ⟨cb, k0, k1, k2, c3⟩
      have hTW := Lib.hid (show IntsAt W _ _ by rw [hW]; exact hTi.drew)
      have hOW := Lib.hid (show OwnI w.heap.size W _ _ by rw [hW]; exact hO.drew)
      have hBW := Lib.hid (show Below w.heap.size w W by rw [hW]; exact hB.drew)
      obtain ⟨ya, hya⟩ : ∃ ya, ya = valAt (.slice pa pn pc) yi := ⟨_, rfl⟩
      obtain ⟨yv, hyv'⟩ : ∃ yv, yv = p.getD yi 0 := ⟨_, rfl⟩
      rw [← hya, ← hyv'] at hS
      rw [← hya] at i3
      rw [← hyv'] at hres
      refine wp_region_plan (fun w' => w'.cell? ⟨b, 0, none⟩ = some (.slice pa pn pc) ∧ w'.cell? ⟨q, 0, none⟩ = some (.int .i64 K) ∧ w'.cell? ⟨q, 1, none⟩ = some (.int .i64 R) ∧ w'.cell? ⟨q, 2, none⟩ = some (.slice va vn vc) ∧ w'.cell? ya = some (.int .i64 yv)) 6 [(0, true), (1, true), (2, true), (3, false), (4, true), (5, true)] (by kernel_rfl) (by kernel_rfl) ?_
      rw [← hW]
      replace hW := Lib.hid hW
      clear c3 hya hyv' cb hyi
      refine headY (v := ?_) (some 25) rfl rfl (Or.inl ⟨by rfl, ?_⟩) hS ?_
      rotate_left
      · rintro W' ⟨s0, s1, s2, s3, s4⟩; go_simp; try with_reducible rfl
      simp only [Act.put, List.setIfInBounds_toArray, List.set_cons_zero, List.set_cons_succ]
      refine headY (v := ?_) (some 26) rfl rfl (Or.inl ⟨by rfl, ?_⟩) hS ?_
      rotate_left
      · rintro W' ⟨s0, s1, s2, s3, s4⟩; go_simp; try with_reducible rfl
      simp only [Act.put, List.setIfInBounds_toArray, List.set_cons_zero, List.set_cons_succ]
      refine headY (v := ?_) (some 27) rfl rfl (Or.inl ⟨by rfl, ?_⟩) hS ?_
      rotate_left
      · rintro W' ⟨s0, s1, s2, s3, s4⟩; go_simp; try with_reducible rfl
      simp only [Act.put, List.setIfInBounds_toArray, List.set_cons_zero, List.set_cons_succ]
      refine headC rfl (fun KK hK => ?_)
      go_simp
      refine (symbol_any K R va vn vc T ov _ _ hTW.out hr.out hOW.out.at hsy.out hol.out).mono ?_
      rintro e w7 ⟨x, rfl, b7, rfl⟩
      rw [hyi'.out]
      have hS7 : w7.cell? ⟨b, 0, none⟩ = some (.slice pa pn pc) ∧ w7.cell? ⟨q, 0, none⟩ = some (.int .i64 K) ∧ w7.cell? ⟨q, 1, none⟩ = some (.int .i64 R) ∧ w7.cell? ⟨q, 2, none⟩ = some (.slice va vn vc) ∧ w7.cell? ya = some (.int .i64 yv) :=
        ⟨cell_keep b7 hS.1, cell_keep b7 hS.2.1, cell_keep b7 hS.2.2.1, cell_keep b7 hS.2.2.2.1, (b7.cell (World.block_lt_of_cell? _ _ hS.2.2.2.2)).trans hS.2.2.2.2⟩
      refine hK _ _ hS7 ?_
      clear hK KK
      refine headY (v := ?_) (some 29) rfl rfl (Or.inl ⟨by rfl, ?_⟩) hS7 ?_
      rotate_left
      · rintro W' ⟨s0, s1, s2, s3, s4⟩; go_simp; try with_reducible rfl
      simp only [Act.put, List.setIfInBounds_toArray, List.set_cons_zero, List.set_cons_succ]
      refine headY (v := ?_) (some 30) rfl rfl (Or.inl ⟨by rfl, ?_⟩) hS7 ?_
      rotate_left
      · rintro W' ⟨s0, s1, s2, s3, s4⟩; go_simp; try with_reducible rfl
      simp only [Act.put, List.setIfInBounds_toArray, List.set_cons_zero, List.set_cons_succ]

      refine head0 ?_
      simp only [List.drop_succ_cons, List.drop_zero]
      have hBe := Lib.hid (Below.step hBW.out b7)
      clear hS hS7
      go_wp2
      refine NoPanic.normal ?_
      go_wp2
      go_ret
      exact ⟨_, rfl, hBe.out, by rw [hres.out]; rfl⟩
end Go.Proofs.YtmhiambkfdkkbaaDoor

namespace Go.Proofs.YtmhiambkfdkkbaaDoor
open Go.RowKit
set_option maxRecDepth 100000

theorem frename_bad1 (r : Nat → Addr) (k R : Int) (va : Option Addr) (vn vc : Nat) (T : List Int) (pa : Option Addr) (pn pc : Nat) (t : Int × List (ByteArray × Int)) (w : World) (hg : Glob r w) (h : IntsAt w (.slice va vn vc) T) (hc : checkP k R T = some t) :
    Calls Tryd.prog 26 #[.agg #[.int .i64 k, .int .i64 R, .slice va vn vc], .slice pa pn pc] w (Ret2 (fun x y w' => x = zR ∧ ErrIs r w' (under sForms 0 (some t)) y) w) := by
  have b0 := Below.step (Below.step (belowAlloc w (.cells #[.int .i64 k, .int .i64 R, .slice va vn vc] 24)) (belowAlloc _ (.cells #[.slice pa pn pc] 22))) (belowAlloc _ (.cells #[.int .i64 0, .int .i64 0, .slice none 0 0] 24))
  obtain ⟨w0, hw0⟩ : ∃ w0, w0 = ((w.alloc (.cells #[.int .i64 k, .int .i64 R, .slice va vn vc] 24)).alloc (.cells #[.slice pa pn pc] 22)).alloc (.cells #[.int .i64 0, .int .i64 0, .slice none 0 0] 24) := ⟨_, rfl⟩
  have q1 : Box3 w0 w.heap.size (.int .i64 k) (.int .i64 R) (.slice va vn vc) := by simp [hw0, Box3, go_sem]
  have q2 : w0.cell? ⟨w.heap.size + 1, 0, none⟩ = some (.slice pa pn pc) := by simp [hw0, go_sem]
  have q3 : Box3 w0 (w.heap.size + 1 + 1) (.int .i64 0) (.int .i64 0) (.slice none 0 0) := by simp [hw0, Box3, go_sem]
  have s0 : w0.heap.size = w.heap.size + 3 := by simp [hw0]
  rw [← hw0] at b0
  replace hg := Lib.hid (hg.below b0)
  replace h := Lib.hid (h.below b0)
  replace hc := Lib.hid hc
  go_enter Tryd.func26, Tryd.ntmps26
  go_wp2_with fail
  rw [← hw0]
  clear hw0
  refine (forms_check r _ k R va vn vc T _ hg.out h.out).mono ?_
  rintro e w1 ⟨x, rfl, hb, he⟩
  rw [hc.out] at he
  obtain ⟨T1, a1, rfl⟩ := ErrIs.some_shape he
  replace he := Lib.hid he
  obtain ⟨⟨y0, y1, y2⟩, f0, f1, f2⟩ := q3.below hb
  go_wp2
  rw [setCell_self3 y0 y1 y2]
  exact bodyPost_ret (v := .tuple #[zR, .iface T1 (.pointer (some a1))]) (by simp [results, Tryd.results26, go_sem, y0, y1, y2]) rfl ⟨_, _, rfl, Below.step b0 hb, rfl, he.out⟩

set_option maxHeartbeats 800000 in
theorem frename_bad2 (r : Nat → Addr) (K R : Nat) (va : Option Addr) (vn vc : Nat) (T : List Int) (pa : Option Addr) (pn pc : Nat) (p : List Int) (w : World) (hg : Glob r w) (h : IntsAt w (.slice va vn vc) T) (hr : RuleOk K R T) (hp : IntsAt w (.slice pa pn pc) p) (hpl : p.length ≤ 17592186044416) (hne : p.length ≠ K) :
    Calls Tryd.prog 26 #[.agg #[.int .i64 K, .int .i64 R, .slice va vn vc], .slice pa pn pc] w (Ret2 (fun x y w' => x = zR ∧ ErrIs r w' (fresh sForms 0 3) y) w) := by
  have b0 := Below.step (Below.step (belowAlloc w (.cells #[.int .i64 K, .int .i64 R, .slice va vn vc] 24)) (belowAlloc _ (.cells #[.slice pa pn pc] 22))) (belowAlloc _ (.cells #[.int .i64 0, .int .i64 0, .slice none 0 0] 24))
  obtain ⟨w0, hw0⟩ : ∃ w0, w0 = ((w.alloc (.cells #[.int .i64 K, .int .i64 R, .slice va vn vc] 24)).alloc (.cells #[.slice pa pn pc] 22)).alloc (.cells #[.int .i64 0, .int .i64 0, .slice none 0 0] 24) := ⟨_, rfl⟩
  have q1 : Box3 w0 w.heap.size (.int .i64 K) (.int .i64 R) (.slice va vn vc) := by simp [hw0, Box3, go_sem]
  have q2 : w0.cell? ⟨w.heap.size + 1, 0, none⟩ = some (.slice pa pn pc) := by simp [hw0, go_sem]
  have q3 : Box3 w0 (w.heap.size + 1 + 1) (.int .i64 0) (.int .i64 0) (.slice none 0 0) := by simp [hw0, Box3, go_sem]
  have s0 : w0.heap.size = w.heap.size + 3 := by simp [hw0]
  rw [← hw0] at b0
  replace hg := Lib.hid (hg.below b0)
  replace h := Lib.hid (h.below b0)
  have hk1 := hr.k1
  have hk4 := hr.k4
  have hR3 := hr.r3
  have hck := Lib.hid hr.check
  replace hp := Lib.hid (hp.below b0)
  have hplen := hp.out.len
  replace hr := Lib.hid hr
  have hnb : ((p.length : Int) != (K : Int)) = true := by rw [bne_iff_ne]; omega
  clear hne
  go_enter Tryd.func26, Tryd.ntmps26
  go_wp2_with fail
  rw [← hw0]
  clear hw0
  refine (forms_check r _ K R va vn vc T _ hg.out h.out).mono ?_
  rintro e w1 ⟨x, rfl, hb, he⟩
  rw [hck.out] at he
  obtain rfl := ErrIs.none_eq he
  have q21 := cell_keep hb q2
  go_wp2_with fail
  refine (vals_any pa pn pc _).mono ?_
  rintro e w2 ⟨rfl, rfl⟩
  have b2 := Below.step hb (belowAlloc w1 (.cells #[.slice pa pn pc] 22))
  go_wp2_with fail
  refine (sorted_any w1.heap.size (.slice pa pn pc) p hpl _ (by simp) (by simp) (hp.out.below b2)).mono ?_
  rintro e w3 ⟨sv, rfl, b3, hsv⟩
  have b03 := Below.step b2 b3
  have s3 := b03.size
  have q13 := q1.below b03
  have q23 := cell_keep b03 q2
  have q33 := q3.below b03
  obtain ⟨⟨z0, z1, z2⟩, -, -, -⟩ := q13
  have cp := q23
  replace hsv := Lib.hid hsv
  clear q23 q2 q21
  go_wp2_with fail
  refine (forms_wrong r _ _ _ (hg.out.below b03) (by decide) (by decide)).mono ?_
  rintro e w4 ⟨x, rfl, b4, he⟩
  obtain ⟨T1, a1, rfl⟩ := ErrIs.some_shape he
  replace he := Lib.hid he
  obtain ⟨⟨y0, y1, y2⟩, f0, f1, f2⟩ := q33.below b4
  clear z0 z1 z2 cp
  go_wp2
  rw [setCell_self3 y0 y1 y2]
  exact bodyPost_ret (v := .tuple #[zR, .iface T1 (.pointer (some a1))]) (by simp [results, Tryd.results26, go_sem, y0, y1, y2]) rfl ⟨_, _, rfl, Below.step b0 (Below.step b03 b4), rfl, he.out⟩

theorem eg_frename1 (args : Array Value) (w : World) : (callFunc 68 args).run Tryd.prog w = .ok (.enter 68 args) w := by kernel_rfl

theorem srt_eq_of {K : Nat} {p : List Int} (hl : p.length = K) (h : ∀ t, t < K → (srt p).getD t 0 = t) : permOk K p = true := by
  simp only [permOk, hl, decide_true, Bool.true_and, decide_eq_true_eq]
  refine List.ext_getElem (by rw [srt_length]; simp [hl]) fun i h1 h2 => ?_
  have h3 : i < K := by simpa using h2
  have := h i h3
  simp only [List.getD, List.getElem?_eq_getElem h1, Option.getD_some] at this
  rw [this]; simp
theorem permOk_srt {K : Nat} {p : List Int} (h : permOk K p = true) (t : Nat) (ht : t < K) : (srt p).getD t 0 = t := by
  simp only [permOk, Bool.and_eq_true, decide_eq_true_eq] at h
  rw [h.2]; simp [List.getD, ht]

set_option maxHeartbeats 1000000 in
theorem frename_bad3 (r : Nat → Addr) (K R : Nat) (va : Option Addr) (vn vc : Nat) (T : List Int) (pa : Option Addr) (pn pc : Nat) (p : List Int) (w : World) (hg : Glob r w) (h : IntsAt w (.slice va vn vc) T) (hr : RuleOk K R T) (hp : IntsAt w (.slice pa pn pc) p) (hpl : p.length ≤ 17592186044416) (hpk : p.length = K) (hno : permOk K p = false) :
    Calls Tryd.prog 26 #[.agg #[.int .i64 K, .int .i64 R, .slice va vn vc], .slice pa pn pc] w (Ret2 (fun x y w' => x = zR ∧ ErrIs r w' (fresh sForms 0 3) y) w) := by
  have b0 := Below.step (Below.step (belowAlloc w (.cells #[.int .i64 K, .int .i64 R, .slice va vn vc] 24)) (belowAlloc _ (.cells #[.slice pa pn pc] 22))) (belowAlloc _ (.cells #[.int .i64 0, .int .i64 0, .slice none 0 0] 24))
  obtain ⟨w0, hw0⟩ : ∃ w0, w0 = ((w.alloc (.cells #[.int .i64 K, .int .i64 R, .slice va vn vc] 24)).alloc (.cells #[.slice pa pn pc] 22)).alloc (.cells #[.int .i64 0, .int .i64 0, .slice none 0 0] 24) := ⟨_, rfl⟩
  have q1 : Box3 w0 w.heap.size (.int .i64 K) (.int .i64 R) (.slice va vn vc) := by simp [hw0, Box3, go_sem]
  have q2 : w0.cell? ⟨w.heap.size + 1, 0, none⟩ = some (.slice pa pn pc) := by simp [hw0, go_sem]
  have q3 : Box3 w0 (w.heap.size + 1 + 1) (.int .i64 0) (.int .i64 0) (.slice none 0 0) := by simp [hw0, Box3, go_sem]
  have s0 : w0.heap.size = w.heap.size + 3 := by simp [hw0]
  rw [← hw0] at b0
  replace hg := Lib.hid (hg.below b0)
  replace h := Lib.hid (h.below b0)
  have hk1 := hr.k1
  have hk4 := hr.k4
  have hR3 := hr.r3
  have hck := Lib.hid hr.check
  replace hp := Lib.hid (hp.below b0)
  have hplen := hp.out.len
  replace hr := Lib.hid hr
  have hnb : ((p.length : Int) != (K : Int)) = false := by rw [bne_eq_false_iff_eq]; omega
  have hpK := Lib.hid hpk
  clear hpk
  replace hno := Lib.hid hno
  go_enter Tryd.func26, Tryd.ntmps26
  go_wp2_with fail
  rw [← hw0]
  clear hw0
  refine (forms_check r _ K R va vn vc T _ hg.out h.out).mono ?_
  rintro e w1 ⟨x, rfl, hb, he⟩
  rw [hck.out] at he
  obtain rfl := ErrIs.none_eq he
  have q21 := cell_keep hb q2
  go_wp2_with fail
  refine (vals_any pa pn pc _).mono ?_
  rintro e w2 ⟨rfl, rfl⟩
  have b2 := Below.step hb (belowAlloc w1 (.cells #[.slice pa pn pc] 22))
  go_wp2_with fail
  refine (sorted_any w1.heap.size (.slice pa pn pc) p hpl _ (by simp) (by simp) (hp.out.below b2)).mono ?_
  rintro e w3 ⟨sv, rfl, b3, hsv⟩
  have b03 := Below.step b2 b3
  have s3 := b03.size
  have q13 := q1.below b03
  have q23 := cell_keep b03 q2
  have q33 := q3.below b03
  have q13x := q13
  obtain ⟨⟨z0, z1, z2⟩, -, -, -⟩ := q13x
  have cp := q23
  have hsl := hsv.at.len
  rw [srt_length, hpK.out] at hsl
  replace hsv := Lib.hid hsv
  clear q2 q21
  go_wp2
  go_loop [28] (fun i => ∃ j : Nat, j ≤ K ∧ i = .int .i64 j ∧ ∀ t, t < j → (srt p).getD t 0 = t) (fun i => K - (intOf i).toNat)
  case atStart => exact ⟨0, by omega, rfl, fun t ht => by omega⟩
  case round =>
    obtain ⟨j, hj, rfl, hne⟩ := hrel
    by_cases hjK : j < K
    · have i1 := hsv.out.at.idx j (by rw [srt_length, hpK.out]; exact hjK)
      have c1 := hsv.out.at.cellD j (by rw [srt_length, hpK.out]; exact hjK)
      by_cases he : (srt p).getD j 0 = j
      · have hn : Hid (∀ t, t < j + 1 → (srt p).getD t 0 = t) := Lib.hid (fun t ht => by
          by_cases e : t = j
          · subst e; exact he
          · exact hne t (by omega))
        rw [he] at c1
        clear hne he
        go_wp2
        go_round
        case rel => exact ⟨j + 1, by omega, by go_num, hn.out⟩
        case measure => simp [intOf]; omega
      · have hnj : ((j : Int) != (srt p).getD j 0) = true := by rw [bne_iff_ne]; exact fun e => he e.symm
        replace hne := Lib.hid hne
        obtain ⟨y, hy⟩ : ∃ y, y = (srt p).getD j 0 := ⟨_, rfl⟩
        rw [← hy] at c1 hnj
        clear he hy
        go_wp2_with fail
        refine (forms_wrong r _ _ _ (hg.out.below b03) (by decide) (by decide)).mono ?_
        rintro e w4 ⟨x, rfl, b4, he⟩
        obtain ⟨T1, a1, rfl⟩ := ErrIs.some_shape he
        replace he := Lib.hid he
        obtain ⟨⟨y0, y1, y2⟩, f0, f1, f2⟩ := q33.below b4
        clear z0 z1 z2 cp
        go_wp2
        rw [setCell_self3 y0 y1 y2]
        exact bodyPost_ret (v := .tuple #[zR, .iface T1 (.pointer (some a1))]) (by simp [results, Tryd.results26, go_sem, y0, y1, y2]) rfl ⟨_, _, rfl, Below.step b0 (Below.step b03 b4), rfl, he.out⟩

    · exfalso
      have := srt_eq_of hpK.out (fun t ht => hne t (by omega))
      rw [hno.out] at this
      cases this

set_option maxHeartbeats 1000000 in
theorem frename_ok (r : Nat → Addr) (K R : Nat) (va : Option Addr) (vn vc : Nat) (T : List Int) (pa : Option Addr) (pn pc : Nat) (p : List Int) (w : World) (hg : Glob r w) (h : IntsAt w (.slice va vn vc) T) (hr : RuleOk K R T) (hp : IntsAt w (.slice pa pn pc) p) (hpl : p.length ≤ 17592186044416) (hpo : permOk K p = true) :
    Calls Tryd.prog 26 #[.agg #[.int .i64 K, .int .i64 R, .slice va vn vc], .slice pa pn pc] w (Ret2 (fun x y w' => y = .nilIface ∧ ∃ a n c, x = .agg #[.int .i64 K, .int .i64 R, .slice a n c] ∧ OwnI w.heap.size w' (.slice a n c) (renT K (2 * R + 1) T p)) w) := by
  have b0 := Below.step (Below.step (belowAlloc w (.cells #[.int .i64 K, .int .i64 R, .slice va vn vc] 24)) (belowAlloc _ (.cells #[.slice pa pn pc] 22))) (belowAlloc _ (.cells #[.int .i64 0, .int .i64 0, .slice none 0 0] 24))
  obtain ⟨w0, hw0⟩ : ∃ w0, w0 = ((w.alloc (.cells #[.int .i64 K, .int .i64 R, .slice va vn vc] 24)).alloc (.cells #[.slice pa pn pc] 22)).alloc (.cells #[.int .i64 0, .int .i64 0, .slice none 0 0] 24) := ⟨_, rfl⟩
  have q1 : Box3 w0 w.heap.size (.int .i64 K) (.int .i64 R) (.slice va vn vc) := by simp [hw0, Box3, go_sem]
  have q2 : w0.cell? ⟨w.heap.size + 1, 0, none⟩ = some (.slice pa pn pc) := by simp [hw0, go_sem]
  have q3 : Box3 w0 (w.heap.size + 1 + 1) (.int .i64 0) (.int .i64 0) (.slice none 0 0) := by simp [hw0, Box3, go_sem]
  have s0 : w0.heap.size = w.heap.size + 3 := by simp [hw0]
  rw [← hw0] at b0
  replace hg := Lib.hid (hg.below b0)
  replace h := Lib.hid (h.below b0)
  have hk1 := hr.k1
  have hk4 := hr.k4
  have hR3 := hr.r3
  have hck := Lib.hid hr.check
  replace hp := Lib.hid (hp.below b0)
  have hplen := hp.out.len
  replace hr := Lib.hid hr
  have hpK := Lib.hid (permOk_len hpo)
  have hnb : ((p.length : Int) != (K : Int)) = false := by rw [bne_eq_false_iff_eq]; have := hpK.out; omega
  replace hpo := Lib.hid hpo
  go_enter Tryd.func26, Tryd.ntmps26
  go_wp2_with fail
  rw [← hw0]
  clear hw0
  refine (forms_check r _ K R va vn vc T _ hg.out h.out).mono ?_
  rintro e w1 ⟨x, rfl, hb, he⟩
  rw [hck.out] at he
  obtain rfl := ErrIs.none_eq he
  have q21 := cell_keep hb q2
  go_wp2_with fail
  refine (vals_any pa pn pc _).mono ?_
  rintro e w2 ⟨rfl, rfl⟩
  have b2 := Below.step hb (belowAlloc w1 (.cells #[.slice pa pn pc] 22))
  go_wp2_with fail
  refine (sorted_any w1.heap.size (.slice pa pn pc) p hpl _ (by simp) (by simp) (hp.out.below b2)).mono ?_
  rintro e w3 ⟨sv, rfl, b3, hsv⟩
  have b03 := Below.step b2 b3
  have s3 := b03.size
  have q13 := q1.below b03
  have q23 := cell_keep b03 q2
  have q33 := q3.below b03
  have q13x := q13
  obtain ⟨⟨z0, z1, z2⟩, -, -, -⟩ := q13x
  have cp := q23
  have hsl := hsv.at.len
  rw [srt_length, hpK.out] at hsl
  replace hsv := Lib.hid hsv
  clear q2 q21
  go_wp2
  go_loop [28] (fun i => ∃ j : Nat, j ≤ K ∧ i = .int .i64 j ∧ ∀ t, t < j → (srt p).getD t 0 = t) (fun i => K - (intOf i).toNat)
  case atStart => exact ⟨0, by omega, rfl, fun t ht => by omega⟩
  case round =>
    obtain ⟨j, hj, rfl, hne⟩ := hrel
    by_cases hjK : j < K
    · have i1 := hsv.out.at.idx j (by rw [srt_length, hpK.out]; exact hjK)
      have c1 := hsv.out.at.cellD j (by rw [srt_length, hpK.out]; exact hjK)
      have he := permOk_srt hpo.out j hjK
      have hn : Hid (∀ t, t < j + 1 → (srt p).getD t 0 = t) := Lib.hid (fun t ht => by
          by_cases e : t = j
          · subst e; exact he
          · exact hne t (by omega))
      rw [he] at c1
      clear hne he
      go_wp2
      go_round
      case rel => exact ⟨j + 1, by omega, by go_num, hn.out⟩
      case measure => simp [intOf]; omega
    · replace hne := Lib.hid hne
      go_wp2_with fail
      refine (made_two K R _ _ _ (renF K T p) _ hk1 hk4 hR3 _ rfl eg_frename1 (fun v ys w' hB hv hy hyl => by
        have e3 := q13.below hB
        exact frename1_any K R va vn vc T pa pn pc p _ _ v ys w' ((h.out.below b03).below hB) hr.out ((hp.out.below b03).below hB) hpo.out hv hy hyl (cell_keep hB q23) e3.1.1 e3.1.2.1 e3.1.2.2)).mono ?_
      rintro e w4 ⟨x, rfl, b4, a, n, c, rfl, ho⟩
      obtain ⟨⟨y0, y1, y2⟩, f0, f1, f2⟩ := q33.below b4
      replace ho := Lib.hid ho
      clear z0 z1 z2 cp
      go_wp2
      refine bodyPost_ret (v := .tuple #[.agg #[.int .i64 K, .int .i64 R, .slice a n c], .nilIface]) (by simp [results, Tryd.results26, go_sem, y0, y1, y2]) rfl ⟨_, _, rfl, below_set3 (Below.step b0 (Below.step b03 b4)) (by omega) _ _ _, rfl, a, n, c, rfl, ?_⟩
      exact (((ho.out.setBelowBase (a := ⟨w.heap.size + 1 + 1, 0, none⟩) (by simp; omega) _).setBelowBase (a := ⟨w.heap.size + 1 + 1, 1, none⟩) (by simp; omega) _).setBelowBase (a := ⟨w.heap.size + 1 + 1, 2, none⟩) (by simp; omega) _).mono (by omega)

/-- forms.Rename's fault. -/
def renameP (k R : Int) (T p : List Int) : PErr :=
  match checkP k R T with
  | some t => under sForms 0 (some t)
  | none => if permOk k.toNat p = true then none else fresh sForms 0 3

theorem frename_any (r : Nat → Addr) (k R : Int) (va : Option Addr) (vn vc : Nat) (T : List Int) (pa : Option Addr) (pn pc : Nat) (p : List Int) (w : World) (hg : Glob r w) (h : IntsAt w (.slice va vn vc) T) (hp : IntsAt w (.slice pa pn pc) p) (hpl : p.length ≤ 17592186044416) :
    Calls Tryd.prog 26 #[.agg #[.int .i64 k, .int .i64 R, .slice va vn vc], .slice pa pn pc] w (Ret2 (fun x y w' => ErrIs r w' (renameP k R T p) y ∧ (renameP k R T p ≠ none → x = zR) ∧
      (renameP k R T p = none → ∃ a n c, x = .agg #[.int .i64 k, .int .i64 R, .slice a n c] ∧ OwnI w.heap.size w' (.slice a n c) (renT k.toNat (2 * R.toNat + 1) T p))) w) := by
  cases hc : checkP k R T with
  | some t =>
    have e : renameP k R T p = under sForms 0 (some t) := by simp [renameP, hc]
    refine (frename_bad1 r k R va vn vc T pa pn pc t w hg h hc).mono ?_
    rintro _ w' ⟨x, y, he, hb, hx, hy⟩
    exact ⟨x, y, he, hb, by rw [e]; exact hy, fun _ => hx, (fun q => by rw [e] at q; cases q)⟩
  | none =>
    obtain ⟨K, Q, rfl, rfl, hr⟩ := checkP_none hc
    cases hpo : permOk K p with
    | true =>
      have e : renameP K Q T p = none := by simp [renameP, hc, hpo]
      refine (frename_ok r K Q va vn vc T pa pn pc p w hg h hr hp hpl hpo).mono ?_
      rintro _ w' ⟨x, y, he, hb, rfl, hx⟩
      exact ⟨x, _, he, hb, by rw [e]; rfl, fun q => absurd e q, fun _ => hx⟩
    | false =>
      have e : renameP K Q T p = fresh sForms 0 3 := by simp [renameP, hc, hpo]
      by_cases hl : p.length = K
      · refine (frename_bad3 r K Q va vn vc T pa pn pc p w hg h hr hp hpl hl hpo).mono ?_
        rintro _ w' ⟨x, y, he, hb, hx, hy⟩
        exact ⟨x, y, he, hb, by rw [e]; exact hy, fun _ => hx, (fun q => by rw [e] at q; cases q)⟩
      · refine (frename_bad2 r K Q va vn vc T pa pn pc p w hg h hr hp hpl hl).mono ?_
        rintro _ w' ⟨x, y, he, hb, hx, hy⟩
        exact ⟨x, y, he, hb, by rw [e]; exact hy, fun _ => hx, (fun q => by rw [e] at q; cases q)⟩
end Go.Proofs.YtmhiambkfdkkbaaDoor

namespace Go.Proofs.YtmhiambkfdkkbaaDoor

theorem permOk_nodup {K : Nat} {p : List Int} (h : permOk K p = true) : p.Nodup := by
  simp only [permOk, Bool.and_eq_true, decide_eq_true_eq] at h
  rw [← (srt_perm p).nodup_iff, h.2]
  exact List.pairwise_map.2 (List.nodup_range.imp fun hne e => hne (by omega))
theorem permOk_inj {K : Nat} {p : List Int} (h : permOk K p = true) {i j : Nat} (hi : i < K) (hj : j < K) (e : p.getD i 0 = p.getD j 0) : i = j := by
  have hn := List.pairwise_iff_getElem.1 (permOk_nodup h)
  have hl := permOk_len h
  simp only [List.getD, List.getElem?_eq_getElem (show i < p.length by omega), List.getElem?_eq_getElem (show j < p.length by omega), Option.getD_some] at e
  rcases Nat.lt_trichotomy i j with hij | hij | hij
  · exact absurd e (hn i j (by omega) (by omega) hij)
  · exact hij
  · exact absurd e.symm (hn j i (by omega) (by omega) hij)
theorem invP_inj {K : Nat} {p : List Int} (h : permOk K p = true) {x y : Int} (a : 0 ≤ x) (b : x < K) (c : 0 ≤ y) (d : y < K) (hne : x ≠ y) : invP p x ≠ invP p y := by
  obtain ⟨i, ei, _, gi⟩ := invP_spec h a b
  obtain ⟨j, ej, _, gj⟩ := invP_spec h c d
  intro e
  rw [ei, ej] at e
  have : i = j := by omega
  subst this
  exact hne (gi.symm.trans gj)
theorem pf_bd {K : Nat} {p : List Int} (h : permOk K p = true) {x : Int} (a : 0 ≤ x) (b : x < K) : 0 ≤ p.getD x.toNat 0 ∧ p.getD x.toNat 0 < K := by
  have := (permOk_syms h).getD (by omega) x.toNat
  exact this
theorem invP_pf {K : Nat} {p : List Int} (h : permOk K p = true) {x : Int} (a : 0 ≤ x) (b : x < K) : invP p (p.getD x.toNat 0) = x := by
  have hb := pf_bd h a b
  obtain ⟨i, ei, hi, gi⟩ := invP_spec h hb.1 hb.2
  have := permOk_inj h hi (show x.toNat < K by omega) gi
  omega

theorem renT_length (K n : Nat) (T p : List Int) : (renT K n T p).length = pw K n := madeP_length ..
theorem renT_at {K n : Nat} (hK : 1 ≤ K) (T p : List Int) (w : List Int) (hw : Syms K w) (hl : w.length = n) : (renT K n T p).getD (numW K w) 0 = renF K T p w := by
  have hlt := numW_lt w hw
  rw [hl] at hlt
  have : (renT K n T p).getD (numW K w) 0 = renF K T p (digs K n (numW K w)) := by simp [renT, madeP, List.getD, hlt]
  rw [this, ← hl, digs_numW hK w hw]
theorem renF_bd {K R : Nat} {T p : List Int} (h : RuleOk K R T) (hp : permOk K p = true) (w : List Int) : 0 ≤ renF K T p w ∧ renF K T p w < K := by
  have := h.k1
  have hT := h.syms.getD (by omega) (numW K (w.map (invP p)))
  exact pf_bd hp hT.1 hT.2
theorem renT_ok {K R : Nat} {T p : List Int} (h : RuleOk K R T) (hp : permOk K p = true) : RuleOk K R (renT K (2 * R + 1) T p) :=
  ⟨h.k1, h.k4, h.r3, renT_length .., fun y hy => by
    obtain ⟨i, _, rfl⟩ := List.mem_map.1 hy
    exact renF_bd h hp _⟩
theorem renF_ne {K R : Nat} {T p : List Int} (h : RuleOk K R T) (hp : permOk K p = true) {w v : List Int} : renF K T p w ≠ renF K T p v ↔ T.getD (numW K (w.map (invP p))) 0 ≠ T.getD (numW K (v.map (invP p))) 0 := by
  have hk := h.k1
  have h1 := h.syms.getD (by omega) (numW K (w.map (invP p)))
  have h2 := h.syms.getD (by omega) (numW K (v.map (invP p)))
  constructor
  · intro hne e; exact hne (by rw [renF, renF, e])
  · intro hne e
    have := permOk_inj hp (by omega) (by omega) (show p.getD _ 0 = p.getD _ 0 from e)
    exact hne (by omega)
/-- The word by the other names. -/
theorem map_inv_pf {K : Nat} {p : List Int} (hp : permOk K p = true) {u : List Int} (hu : Syms K u) : (u.map fun x => p.getD x.toNat 0).map (invP p) = u := by
  rw [List.map_map]
  conv => rhs; rw [← List.map_id u]
  refine List.map_congr_left fun x hx => ?_
  have := hu x hx
  exact invP_pf hp this.1 this.2
theorem map_pf_syms {K : Nat} {p : List Int} (hp : permOk K p = true) {u : List Int} (hu : Syms K u) : Syms K (u.map fun x => p.getD x.toNat 0) := fun y hy => by
  obtain ⟨x, hx, rfl⟩ := List.mem_map.1 hy
  exact pf_bd hp (hu x hx).1 (hu x hx).2

theorem ren_leftW {K R : Nat} {T p : List Int} (h : RuleOk K R T) (hp : permOk K p = true) : LeftW K (2 * R) (renT K (2 * R + 1) T p) ↔ LeftW K (2 * R) T := by
  have hk := h.k1
  constructor
  · intro hw u hu hl s t a b c d hne
    have hs := pf_bd hp a b
    have ht := pf_bd hp c d
    have := hw (u.map fun x => p.getD x.toNat 0) (map_pf_syms hp hu) (by simpa using hl) (p.getD s.toNat 0) (p.getD t.toNat 0) hs.1 hs.2 ht.1 ht.2 (fun e => hne (by have := permOk_inj hp (by omega) (by omega) e; omega))
    rw [renT_at hk _ _ _ (syms_cons hs.1 hs.2 (map_pf_syms hp hu)) (by simp [hl]), renT_at hk _ _ _ (syms_cons ht.1 ht.2 (map_pf_syms hp hu)) (by simp [hl]), renF_ne h hp, List.map_cons, List.map_cons, map_inv_pf hp hu, invP_pf hp a b, invP_pf hp c d] at this
    exact this
  · intro hw u hu hl s t a b c d hne
    rw [renT_at hk _ _ _ (syms_cons a b hu) (by simp [hl]), renT_at hk _ _ _ (syms_cons c d hu) (by simp [hl]), renF_ne h hp, List.map_cons, List.map_cons]
    have is := invP_syms hp (syms_cons a b (show Syms K [] from fun x hx => by cases hx)) (invP p s) (by simp)
    have it := invP_syms hp (syms_cons c d (show Syms K [] from fun x hx => by cases hx)) (invP p t) (by simp)
    exact hw _ (invP_syms hp hu) (by simpa using hl) _ _ is.1 is.2 it.1 it.2 (invP_inj hp a b c d hne)
theorem ren_rightW {K R : Nat} {T p : List Int} (h : RuleOk K R T) (hp : permOk K p = true) : RightW K (2 * R) (renT K (2 * R + 1) T p) ↔ RightW K (2 * R) T := by
  have hk := h.k1
  constructor
  · intro hw u hu hl s t a b c d hne
    have hs := pf_bd hp a b
    have ht := pf_bd hp c d
    have := hw (u.map fun x => p.getD x.toNat 0) (map_pf_syms hp hu) (by simpa using hl) (p.getD s.toNat 0) (p.getD t.toNat 0) hs.1 hs.2 ht.1 ht.2 (fun e => hne (by have := permOk_inj hp (by omega) (by omega) e; omega))
    rw [renT_at hk _ _ _ (syms_snoc hs.1 hs.2 (map_pf_syms hp hu)) (by simp [hl]), renT_at hk _ _ _ (syms_snoc ht.1 ht.2 (map_pf_syms hp hu)) (by simp [hl]), renF_ne h hp, List.map_append, List.map_append, map_inv_pf hp hu, List.map_singleton, List.map_singleton, invP_pf hp a b, invP_pf hp c d] at this
    exact this
  · intro hw u hu hl s t a b c d hne
    rw [renT_at hk _ _ _ (syms_snoc a b hu) (by simp [hl]), renT_at hk _ _ _ (syms_snoc c d hu) (by simp [hl]), renF_ne h hp, List.map_append, List.map_append, List.map_singleton, List.map_singleton]
    have is := invP_syms hp (syms_cons a b (show Syms K [] from fun x hx => by cases hx)) (invP p s) (by simp)
    have it := invP_syms hp (syms_cons c d (show Syms K [] from fun x hx => by cases hx)) (invP p t) (by simp)
    exact hw _ (invP_syms hp hu) (by simpa using hl) _ _ is.1 is.2 it.1 it.2 (invP_inj hp a b c d hne)
theorem ren_sides {K R : Nat} {T p : List Int} (h : RuleOk K R T) (hp : permOk K p = true) :
    unlikeP K (renT K (2 * R + 1) T p) ((renT K (2 * R + 1) T p).length / K) = unlikeP K T (T.length / K) ∧ unlikeP K (renT K (2 * R + 1) T p) 1 = unlikeP K T 1 := by
  constructor
  · rw [Bool.eq_iff_iff, unlike_leftW (renT_ok h hp), unlike_leftW h, ren_leftW h hp]
  · rw [Bool.eq_iff_iff, unlike_rightW (renT_ok h hp), unlike_rightW h, ren_rightW h hp]
end Go.Proofs.YtmhiambkfdkkbaaDoor

namespace Go.Proofs.YtmhiambkfdkkbaaDoor

theorem map_pf_inv {K : Nat} {p : List Int} (hp : permOk K p = true) {u : List Int} (hu : Syms K u) : (u.map (invP p)).map (fun x => p.getD x.toNat 0) = u := by
  rw [List.map_map]
  conv => rhs; rw [← List.map_id u]
  refine List.map_congr_left fun x hx => ?_
  have := hu x hx
  obtain ⟨i, ei, _, gi⟩ := invP_spec hp this.1 this.2
  show p.getD (invP p x).toNat 0 = x
  rw [ei, Int.toNat_natCast, gi]
theorem img_ren {K R : Nat} {T p : List Int} (hK : 1 ≤ K) {x : List Int} (hx : Syms K x) : imgP K R (renT K (2 * R + 1) T p) x = (imgP K R T (x.map (invP p))).map (fun s => p.getD s.toNat 0) := by
  refine List.ext_getElem (by simp [imgP_length]) fun i h1 h2 => ?_
  have h1' := h1
  rw [imgP_length] at h1'
  have e1 := imgP_getD K R (renT K (2 * R + 1) T p) x i h1'
  rw [List.getD_eq_getElem?_getD, List.getElem?_eq_getElem h1, Option.getD_some] at e1
  have hj : i < (x.map (invP p)).length - 2 * R := by rw [List.length_map]; exact h1'
  have e2 := imgP_getD K R T (x.map (invP p)) _ hj
  rw [List.getD_eq_getElem?_getD, List.getElem?_eq_getElem (by rw [imgP_length]; exact hj), Option.getD_some] at e2
  rw [List.getElem_map, e1, e2, renT_at hK T p _ (syms_take (syms_drop hx _) _) (by simp; omega), renF, List.map_take, List.map_drop]
theorem twins_ren {K R : Nat} {T p : List Int} (h : RuleOk K R T) (hp : permOk K p = true) {a b : List Int} (t : IsTwins K R (renT K (2 * R + 1) T p) a b) : IsTwins K R T (a.map (invP p)) (b.map (invP p)) := by
  have hl := t.len
  have hw := t.low
  refine ⟨invP_syms hp t.sa, invP_syms hp t.sb, by simpa using hl, fun e => t.ne ?_, by simpa using hw, ?_, ?_, ?_⟩
  · rw [← map_pf_inv hp t.sa, e, map_pf_inv hp t.sb]
  · rw [← List.map_take, ← List.map_take, t.front]
  · rw [← List.map_drop, ← List.map_drop, List.length_map, List.length_map, t.back]
  · have := t.img
    rw [img_ren h.k1 t.sa, img_ren h.k1 t.sb] at this
    rw [← map_inv_pf hp (imgP_syms h.k1 h.syms (R := R) (w := a.map (invP p))), this, map_inv_pf hp (imgP_syms h.k1 h.syms)]
theorem ren_twins {K R : Nat} {T p : List Int} (h : RuleOk K R T) (hp : permOk K p = true) {a b : List Int} (t : IsTwins K R T a b) : IsTwins K R (renT K (2 * R + 1) T p) (a.map fun x => p.getD x.toNat 0) (b.map fun x => p.getD x.toNat 0) := by
  have hl := t.len
  have hw := t.low
  refine ⟨map_pf_syms hp t.sa, map_pf_syms hp t.sb, by simpa using hl, fun e => t.ne ?_, by simpa using hw, ?_, ?_, ?_⟩
  · rw [← map_inv_pf hp t.sa, e, map_inv_pf hp t.sb]
  · rw [← List.map_take, ← List.map_take, t.front]
  · rw [← List.map_drop, ← List.map_drop, List.length_map, List.length_map, t.back]
  · rw [img_ren h.k1 (map_pf_syms hp t.sa), img_ren h.k1 (map_pf_syms hp t.sb), map_inv_pf hp t.sa, map_inv_pf hp t.sb, t.img]
theorem twinLen_ren {K R : Nat} {T p : List Int} (h : RuleOk K R T) (hp : permOk K p = true) {n : Nat} (t : TwinLen K R T n) : TwinLen K R (renT K (2 * R + 1) T p) n :=
  twinLen_of (fun a b t => ⟨_, _, ren_twins h hp t, by simp⟩) (fun a b t => ⟨_, _, twins_ren h hp t, by simp⟩) t
end Go.Proofs.YtmhiambkfdkkbaaDoor

namespace Go.Proofs.YtmhiambkfdkkbaaDoor

theorem getD_mapI {f : Int → Int} {x : List Int} {n : Nat} (h : n < x.length) : (x.map f).getD n 0 = f (x.getD n 0) := by simp [List.getD, h]
theorem getD_in {K : Int} {x : List Int} (h : Syms K x) {i : Nat} (hi : i < x.length) : 0 ≤ x.getD i 0 ∧ x.getD i 0 < K := by
  have e : x.getD i 0 = x[i] := by simp [List.getD, hi]
  rw [e]; exact h _ (List.getElem_mem hi)
theorem split_ren {K R : Nat} {T p : List Int} (h : RuleOk K R T) (hp : permOk K p = true) {n : Nat} (t : Split K R (renT K (2 * R + 1) T p) n) : Split K R T n := by
  obtain ⟨x, y, sx, sy, lx, ly, hne, e⟩ := t
  refine ⟨x.map (invP p), y.map (invP p), invP_syms hp sx, invP_syms hp sy, by simpa using lx, by simpa using ly, ?_, ?_⟩
  · rw [getD_mapI (by omega), getD_mapI (by omega)]
    intro q
    apply hne
    have ax := getD_in sx (i := n) (by omega)
    have ay := getD_in sy (i := n) (by omega)
    obtain ⟨i, ei, _, gi⟩ := invP_spec hp ax.1 ax.2
    obtain ⟨j, ej, _, gj⟩ := invP_spec hp ay.1 ay.2
    rw [ei, ej] at q
    obtain rfl : i = j := by omega
    rw [← gi, ← gj]
  · rw [img_ren h.k1 sx, img_ren h.k1 sy] at e
    rw [← map_inv_pf hp (imgP_syms h.k1 h.syms (R := R) (w := x.map (invP p))), e, map_inv_pf hp (imgP_syms h.k1 h.syms)]
theorem ren_split {K R : Nat} {T p : List Int} (h : RuleOk K R T) (hp : permOk K p = true) {n : Nat} (t : Split K R T n) : Split K R (renT K (2 * R + 1) T p) n := by
  obtain ⟨x, y, sx, sy, lx, ly, hne, e⟩ := t
  refine ⟨x.map fun s => p.getD s.toNat 0, y.map fun s => p.getD s.toNat 0, map_pf_syms hp sx, map_pf_syms hp sy, by simpa using lx, by simpa using ly, ?_, ?_⟩
  · rw [getD_mapI (by omega), getD_mapI (by omega)]
    intro q
    apply hne
    have ax := getD_in sx (i := n) (by omega)
    have ay := getD_in sy (i := n) (by omega)
    have e1 := map_inv_pf hp (u := [x.getD n 0]) (by intro z hz; rw [List.mem_singleton] at hz; subst hz; exact ax)
    have e2 := map_inv_pf hp (u := [y.getD n 0]) (by intro z hz; rw [List.mem_singleton] at hz; subst hz; exact ay)
    simp only [List.map_cons, List.map_nil] at e1 e2
    rw [q, e2] at e1
    injection e1 with e1 _
    exact e1.symm
  · rw [img_ren h.k1 (map_pf_syms hp sx), img_ren h.k1 (map_pf_syms hp sy), map_inv_pf hp sx, map_inv_pf hp sy, e]
theorem notOne_ren {K R : Nat} {T p : List Int} (h : RuleOk K R T) (hp : permOk K p = true) : NotOne K R (renT K (2 * R + 1) T p) ↔ NotOne K R T :=
  ⟨fun t n => split_ren h hp (t n), fun t n => ren_split h hp (t n)⟩
end Go.Proofs.YtmhiambkfdkkbaaDoor

namespace Go.Proofs.YtmhiambkfdkkbaaDoor

theorem tab_ext {a b : List Int} (hl : a.length = b.length) (h : ∀ t, t < a.length → a.getD t 0 = b.getD t 0) : a = b :=
  List.ext_getElem hl fun t h1 h2 => by have := h t h1; simpa [List.getD, h1, h2] using this
theorem wideT_get {K R d : Nat} {T : List Int} {i : Nat} (h : i < pw K (2 * (R + d) + 1)) : (wideT K R d T).getD i 0 = T.getD (numW K (((digs K (2 * (R + d) + 1) i).drop d).take (2 * R + 1))) 0 := by
  simp [wideT, List.getD, h]
theorem wideT_zero {K R : Nat} {T : List Int} (h : RuleOk K R T) : wideT K R 0 T = T := by
  refine tab_ext (by rw [wideT_length, h.len]; rfl) fun t ht => ?_
  rw [wideT_length] at ht
  rw [wideT_get ht, List.drop_zero, Nat.add_zero, List.take_of_length_le (by rw [digs_length]; omega), numW_digs h.k1 _ _ (by simpa using ht)]
theorem wideT_wideT {K Q e d : Nat} {N : List Int} (hK : 1 ≤ K) : wideT K (Q + e) d (wideT K Q e N) = wideT K Q (e + d) N := by
  refine tab_ext (by rw [wideT_length, wideT_length, Nat.add_assoc]) fun t ht => ?_
  rw [wideT_length] at ht
  rw [wideT_get ht, wideT_at hK _ (syms_take (syms_drop (digs_syms hK _ _) _) _) (by rw [List.length_take, List.length_drop, digs_length]; omega), wideT_get (by rw [← Nat.add_assoc]; exact ht)]
  congr 2
  rw [List.drop_take, List.take_take, List.drop_drop, Nat.min_eq_left (by omega), Nat.add_comm d e, Nat.add_assoc]
/-- Without the outermost symbols on both sides. -/
def narrT (K Q : Nat) (T : List Int) : List Int := (List.range (pw K (2 * Q + 1))).map fun i => T.getD (numW K ([0] ++ digs K (2 * Q + 1) i ++ [0])) 0
theorem narrT_length (K Q : Nat) (T : List Int) : (narrT K Q T).length = pw K (2 * Q + 1) := by simp [narrT]
theorem narrT_ok {K Q : Nat} {T : List Int} (h : RuleOk K (Q + 1) T) : RuleOk K Q (narrT K Q T) :=
  ⟨h.k1, h.k4, by have := h.r3; omega, narrT_length .., fun y hy => by
    obtain ⟨i, _, rfl⟩ := List.mem_map.1 hy
    exact h.syms.getD (by have := h.k1; omega) _⟩
theorem narrT_wide {K Q : Nat} {N : List Int} (h : RuleOk K Q N) : narrT K Q (wideT K Q 1 N) = N := by
  have hK := h.k1
  refine tab_ext (by rw [narrT_length, h.len]) fun t ht => ?_
  rw [narrT_length] at ht
  have hs : Syms K ([0] ++ digs K (2 * Q + 1) t ++ [0]) := by
    intro y hy
    rcases List.mem_append.1 hy with hy | hy
    · rcases List.mem_append.1 hy with hy | hy
      · rw [List.mem_singleton] at hy; subst hy; omega
      · exact digs_syms hK _ _ y hy
    · rw [List.mem_singleton] at hy; subst hy; omega
  have : (narrT K Q (wideT K Q 1 N)).getD t 0 = (wideT K Q 1 N).getD (numW K ([0] ++ digs K (2 * Q + 1) t ++ [0])) 0 := by simp [narrT, List.getD, ht]
  rw [this, wideT_at hK _ hs (by simp [digs_length]; omega)]
  have e : (([0] ++ digs K (2 * Q + 1) t ++ [0] : List Int).drop 1).take (2 * Q + 1) = digs K (2 * Q + 1) t := by
    rw [List.append_assoc, List.drop_left' (by rfl), List.take_left' (digs_length ..)]
  rw [e, numW_digs hK _ _ ht]
/-- The radius is the least. -/
def Least (K R : Nat) (T : List Int) : Prop := ∀ Q N, R = Q + 1 → RuleOk K Q N → T ≠ wideT K Q 1 N
theorem least_of {K Q : Nat} {T : List Int} (h : wideT K Q 1 (narrT K Q T) ≠ T) : Least K (Q + 1) T := fun P N e hN ht => by
  obtain rfl : Q = P := by omega
  exact h (by rw [ht, narrT_wide hN])
/-- What Narrow makes of a rule. -/
def NarrIs (K R : Nat) (T : List Int) (Q : Nat) (N : List Int) : Prop := RuleOk K Q N ∧ Least K Q N ∧ ∃ d, R = Q + d ∧ T = wideT K Q d N
theorem wideT_inj {K Q d : Nat} {N M : List Int} (h : RuleOk K Q N) (k : RuleOk K Q M) (e : wideT K Q d N = wideT K Q d M) : N = M := by
  induction d with
  | zero => rwa [wideT_zero h, wideT_zero k] at e
  | succ d ih =>
    by_cases hd : Q + d ≤ 3
    · apply ih
      rw [← wideT_wideT h.k1, ← wideT_wideT h.k1] at e
      rw [← narrT_wide (wideT_ok h hd), e, narrT_wide (wideT_ok k hd)]
    · have h1 := h.k1
      refine tab_ext (by rw [h.len, k.len]) fun t ht => ?_
      rw [h.len] at ht
      have hs : Syms K (List.replicate (d + 1) 0 ++ digs K (2 * Q + 1) t ++ List.replicate (d + 1) 0) := by
        intro y hy
        rcases List.mem_append.1 hy with hy | hy
        · rcases List.mem_append.1 hy with hy | hy
          · rw [List.eq_of_mem_replicate hy]; omega
          · exact digs_syms h1 _ _ y hy
        · rw [List.eq_of_mem_replicate hy]; omega
      have hc : ((List.replicate (d + 1) 0 ++ digs K (2 * Q + 1) t ++ List.replicate (d + 1) 0 : List Int).drop (d + 1)).take (2 * Q + 1) = digs K (2 * Q + 1) t := by
        rw [List.append_assoc, List.drop_left' (by simp), List.take_left' (digs_length ..)]
      have a := wideT_at (R := Q) (d := d + 1) (T := N) h1 _ hs (by simp [digs_length]; omega)
      have b := wideT_at (R := Q) (d := d + 1) (T := M) h1 _ hs (by simp [digs_length]; omega)
      rw [hc, numW_digs h1 _ _ ht] at a b
      rw [← a, ← b, e]
/-- It is just one. -/
theorem NarrIs.unique {K R Q P : Nat} {T N M : List Int} (h : NarrIs K R T Q N) (k : NarrIs K R T P M) : Q = P ∧ N = M := by
  obtain ⟨h1, h2, d, rfl, e⟩ := h
  obtain ⟨k1, k2, c, hc, e'⟩ := k
  have hK := h1.k1
  have key : ∀ {Q P : Nat} {N M : List Int} {d c : Nat}, RuleOk K Q N → RuleOk K P M → Least K P M → Q + d = P + c → P ≤ 3 → wideT K Q d N = wideT K P c M → ¬ Q < P := by
    intro Q P N M d c hN hM hl hdc hP he hlt
    obtain ⟨j, rfl⟩ : ∃ j, P = Q + j + 1 := ⟨P - Q - 1, by omega⟩
    obtain rfl : d = (j + 1) + c := by omega
    rw [← wideT_wideT hN.k1] at he
    have hw : wideT K Q (j + 1) N = M := wideT_inj (Q := Q + (j + 1)) (wideT_ok hN (by omega)) hM he
    refine hl (Q + j) (wideT K Q j N) rfl (wideT_ok hN (by omega)) ?_
    rw [wideT_wideT hN.k1, hw]
  have hr := h1.r3
  have hr' := k1.r3
  have n1 := key h1 k1 k2 hc hr' (e.symm.trans e')
  have n2 := key k1 h1 h2 hc.symm hr (e'.symm.trans e)
  obtain rfl : Q = P := by omega
  obtain rfl : d = c := by omega
  exact ⟨rfl, wideT_inj h1 k1 (e.symm.trans e')⟩
end Go.Proofs.YtmhiambkfdkkbaaDoor

namespace Go.Proofs.YtmhiambkfdkkbaaDoor
open Go.RowKit
set_option maxRecDepth 100000

set_option maxHeartbeats 1000000 in
theorem inner1_any (K Q P : Nat) (hP : P = Q + 1) (va : Option Addr) (vn vc : Nat) (T : List Int) (p : Nat) (v : Value) (ys : List Int) (w : World)
    (h : IntsAt w (.slice va vn vc) T) (hr : RuleOk K P T) (hv : IntsAt w v ys) (hy : Syms K ys) (hyl : ys.length = 2 * Q + 1)
    (x0 : w.cell? ⟨p, 0, none⟩ = some (.int .i64 K)) (x1 : w.cell? ⟨p, 1, none⟩ = some (.int .i64 P)) (x2 : w.cell? ⟨p, 2, none⟩ = some (.slice va vn vc)) :
    Calls Tryd.prog 96 #[v, .pointer (some ⟨p, 0, none⟩)] w (Ret1 (fun x _ => x = .int .i64 (T.getD (numW K ([0] ++ ys ++ [0])) 0)) w) := by
  have hR := hr.r3
  have hK := hr.k1
  have lv := hv.len
  obtain ⟨ua, un, uc, rfl⟩ := hv.shape
  obtain ⟨L, hL⟩ : ∃ L, ys.length = L := ⟨_, rfl⟩
  have hL7 : L ≤ 7 := by omega
  obtain ⟨ov, w1, hmk, hout, hb1⟩ := run_makeI ((L : Int) + 2) (L + 2) w (by omega) (by omega)
  obtain ⟨dp, dLen, dCap, hsl, hd1, hd2⟩ := hout.post 1 (by simp)
  have hsl2 : ∀ w', (Instr.slice 22 ov (some (.int .i64 1)) none none).run Tryd.prog w' = .ok (.slice dp dLen dCap) w' := hsl
  have hol : (List.replicate (L + 2) (0 : Int)).length = L + 2 := by simp
  obtain ⟨w2, hcp, ho2, hb2, _⟩ := run_copyI 1 3 dp dLen dCap hout (hv.below hb1) rfl (by omega) (by omega) (fun hh => hd2 (by omega))
  have e1 : (List.replicate (L + 2) (0 : Int)).take 1 ++ ys ++ (List.replicate (L + 2) (0 : Int)).drop (1 + ys.length) = [0] ++ ys ++ [0] := by
    rw [List.take_replicate, List.drop_replicate, hL, show min 1 (L + 2) = 1 by omega, show L + 2 - (1 + L) = 1 by omega]; rfl
  rw [e1] at ho2
  have hb12 := hb1.trans hb2
  have hs : Syms K ([0] ++ ys ++ [0]) := by
    intro y hy'
    rcases List.mem_append.1 hy' with hy' | hy'
    · rcases List.mem_append.1 hy' with hy' | hy'
      · rw [List.mem_singleton] at hy'; subst hy'; omega
      · exact hy y hy'
    · rw [List.mem_singleton] at hy'; subst hy'; omega
  have hsl3 : ([0] ++ ys ++ [0]).length = 2 * P + 1 := by simp; omega
  generalize ([0] ++ ys ++ [0]) = zs at *
  replace hP := Lib.hid hP
  generalize hY : T.getD (numW K zs) 0 = Y
  obtain ⟨oa, on, oc, rfl⟩ := hout.at.shape
  obtain ⟨y0, y1, y2⟩ := keep3 hb12 ⟨x0, x1, x2⟩
  rw [hL] at lv hcp
  replace hY := Lib.hid hY
  replace h := Lib.hid (h.below hb12)
  replace hr := Lib.hid hr
  replace hs := Lib.hid hs
  replace hsl3 := Lib.hid hsl3
  replace hL := Lib.hid hL
  replace hyl := Lib.hid hyl
  replace ho2 := Lib.hid ho2
  clear hd1 hd2 hsl hout hol e1 hv hy
  go_enter Tryd.func96, Tryd.ntmps96
  go_wp2_with fail
  refine (symbol_any K P va vn vc T (.slice oa on oc) zs w2 h.out hr.out ho2.out.at hs.out hsl3.out).mono ?_
  rintro e w3 ⟨x, rfl, b3, rfl⟩
  rw [hY.out]
  go_wp2
  go_ret
  exact ⟨_, rfl, Below.step hb12 b3, rfl⟩
theorem eg_inner1 (args : Array Value) (w : World) : (callFunc 96 args).run Tryd.prog w = .ok (.enter 96 args) w := by kernel_rfl
theorem madeP_narr (K Q : Nat) (T : List Int) : madeP K (2 * Q + 1) (fun ys => T.getD (numW K ([0] ++ ys ++ [0])) 0) (pw K (2 * Q + 1)) = narrT K Q T := rfl

theorem inner_zero (K : Nat) (va : Option Addr) (vn vc : Nat) (w : World) :
    Calls Tryd.prog 65 #[.agg #[.int .i64 K, .int .i64 0, .slice va vn vc]] w (Ret2 (fun x y _ => x = .agg #[.int .i64 K, .int .i64 0, .slice va vn vc] ∧ y = .bool false) w) := by
  have b1 := Below.step (belowAlloc w (.cells #[.int .i64 K, .int .i64 0, .slice va vn vc] 24)) (belowAlloc _ (.cells #[.int .i64 K, .int .i64 0, .slice va vn vc] 24))
  go_enter Tryd.func65, Tryd.ntmps65
  go_wp2
  refine bodyPost_ret (v := .tuple #[.agg #[.int .i64 K, .int .i64 0, .slice va vn vc], .bool false]) (by simp [results, Tryd.results65, go_sem]) rfl ⟨_, _, rfl, b1, rfl, rfl⟩

set_option maxHeartbeats 1000000 in
theorem inner_pos (K Q : Nat) (va : Option Addr) (vn vc : Nat) (T : List Int) (w : World) (h : IntsAt w (.slice va vn vc) T) (hr : RuleOk K (Q + 1) T) :
    Calls Tryd.prog 65 #[.agg #[.int .i64 K, .int .i64 ((Q + 1 : Nat) : Int), .slice va vn vc]] w (Ret2 (fun x y w' => ∃ a n c, x = .agg #[.int .i64 K, .int .i64 Q, .slice a n c] ∧ OwnI w.heap.size w' (.slice a n c) (narrT K Q T) ∧ y = .bool (decide (wideT K Q 1 (narrT K Q T) = T))) w) := by
  have b0 := Below.step (belowAlloc w (.cells #[.int .i64 K, .int .i64 ((Q + 1 : Nat) : Int), .slice va vn vc] 24)) (belowAlloc _ (.cells #[.int .i64 0, .int .i64 0, .slice none 0 0] 24))
  have q2 : Box3 ((w.alloc (.cells #[.int .i64 K, .int .i64 ((Q + 1 : Nat) : Int), .slice va vn vc] 24)).alloc (.cells #[.int .i64 0, .int .i64 0, .slice none 0 0] 24)) (w.heap.size + 1) (.int .i64 0) (.int .i64 0) (.slice none 0 0) := by simp [Box3, go_sem]
  have q1 : Box3 ((w.alloc (.cells #[.int .i64 K, .int .i64 ((Q + 1 : Nat) : Int), .slice va vn vc] 24)).alloc (.cells #[.int .i64 0, .int .i64 0, .slice none 0 0] 24)) w.heap.size (.int .i64 K) (.int .i64 ((Q + 1 : Nat) : Int)) (.slice va vn vc) := by simp [Box3, go_sem]
  have hk1 := hr.k1
  have hk4 := hr.k4
  have hR3 := hr.r3
  obtain ⟨Ri, hRi⟩ : ∃ Ri : Int, ((Q + 1 : Nat) : Int) = Ri := ⟨_, rfl⟩
  rw [hRi] at b0 q1 q2 ⊢
  have hR0 : (Ri == 0) = false := by rw [beq_eq_false_iff_ne]; omega
  have hR1 : ¬ Ri = 0 := by omega
  have hR2 : Ri - 1 = (Q : Int) := by omega
  have hQ3 : Q ≤ 3 := by omega
  have hRi3 : 0 ≤ Ri ∧ Ri ≤ 3 := by omega
  replace hRi := Lib.hid hRi
  replace h := Lib.hid (h.below b0)
  replace hr := Lib.hid hr
  obtain ⟨W0, hW0⟩ : ∃ W0 : World, W0 = (w.alloc (.cells #[.int .i64 K, .int .i64 Ri, .slice va vn vc] 24)).alloc (.cells #[.int .i64 0, .int .i64 0, .slice none 0 0] 24) := ⟨_, rfl⟩
  have s0 : W0.heap.size = w.heap.size + 2 := by rw [hW0]; simp
  rw [← hW0] at b0 q1 q2 h
  have q1x := q1
  obtain ⟨⟨z0, z1, z2⟩, -, -, -⟩ := q1x
  replace hW0 := Lib.hid hW0
  replace s0 := Lib.hid s0
  go_enter Tryd.func65, Tryd.ntmps65
  go_wp2_with fail
  rw [← hW0.out]
  refine (made_one K Q _ _ (fun ys => T.getD (numW K ([0] ++ ys ++ [0])) 0) W0 hk1 hk4 hQ3 _ rfl eg_inner1 (fun v ys w' hB hv hy hyl => by
    have := q1.below hB
    exact inner1_any K Q (Q + 1) rfl va vn vc T _ v ys w' (h.out.below hB) hr.out hv hy hyl this.1.1 (by rw [hRi.out]; exact this.1.2.1) this.1.2.2)).mono ?_
  rintro e w1 ⟨x, rfl, b1, a, n, c, rfl, ho⟩
  rw [madeP_narr] at ho
  have ba := belowAlloc w1 (.cells #[.int .i64 K, .int .i64 Q, .slice a n c] 24)
  have b12 := Below.step b1 ba
  have qi : Box3 (w1.alloc (.cells #[.int .i64 K, .int .i64 Q, .slice a n c] 24)) w1.heap.size (.int .i64 K) (.int .i64 Q) (.slice a n c) := by simp [Box3, go_sem]
  have q12 := q1.below b12
  have q22 := q2.below b12
  obtain ⟨W, hW⟩ : ∃ W : World, W = (w1.alloc (.cells #[.int .i64 K, .int .i64 Q, .slice a n c] 24)).drew := ⟨_, rfl⟩
  have ho2 : OwnI W0.heap.size W (.slice a n c) (narrT K Q T) := by rw [hW]; exact (ho.below ba).drew
  have q1W : Box3 W w.heap.size (.int .i64 K) (.int .i64 Ri) (.slice va vn vc) := by rw [hW]; exact q12
  have qiW : Box3 W w1.heap.size (.int .i64 K) (.int .i64 Q) (.slice a n c) := by rw [hW]; exact qi
  have q2W : Box3 W (w.heap.size + 1) (.int .i64 0) (.int .i64 0) (.slice none 0 0) := by rw [hW]; exact q22
  have bW : Below W0.heap.size W0 W := by rw [hW]; exact b12.drew
  have hTW := h.out.below bW
  have s1 := b1.size
  replace ho := Lib.hid ho
  replace ho2 := Lib.hid ho2
  replace hTW := Lib.hid hTW
  clear z0 z1 z2
  go_upto_region 4 with fail
  refine wp_region_plan (fun w' => w'.cell? ⟨w1.heap.size, 0, none⟩ = some (.int .i64 K) ∧ w'.cell? ⟨w1.heap.size, 1, none⟩ = some (.int .i64 Q) ∧ w'.cell? ⟨w1.heap.size, 2, none⟩ = some (.slice a n c) ∧ w'.cell? ⟨w.heap.size, 1, none⟩ = some (.int .i64 Ri) ∧ w'.cell? ⟨w.heap.size, 2, none⟩ = some (.slice va vn vc)) 9 [(0, true), (1, true), (2, true), (3, true), (6, true), (7, true), (4, false), (5, true), (8, false)] (by kernel_rfl) (by kernel_rfl) ?_
  rw [← hW]
  replace hW := Lib.hid hW
  have hS : W.cell? ⟨w1.heap.size, 0, none⟩ = some (.int .i64 K) ∧ W.cell? ⟨w1.heap.size, 1, none⟩ = some (.int .i64 Q) ∧ W.cell? ⟨w1.heap.size, 2, none⟩ = some (.slice a n c) ∧ W.cell? ⟨w.heap.size, 1, none⟩ = some (.int .i64 Ri) ∧ W.cell? ⟨w.heap.size, 2, none⟩ = some (.slice va vn vc) := ⟨qiW.1.1, qiW.1.2.1, qiW.1.2.2, q1W.1.2.1, q1W.1.2.2⟩
  refine headY (v := ?_) (some 16) rfl rfl (Or.inl ⟨by rfl, ?_⟩) hS ?_
  rotate_left
  · rintro W' ⟨s0, s1, s2, s3, s4⟩; go_simp; try with_reducible rfl
  simp only [Act.put, List.setIfInBounds_toArray, List.set_cons_zero, List.set_cons_succ]
  refine headY (v := ?_) (some 17) rfl rfl (Or.inl ⟨by rfl, ?_⟩) hS ?_
  rotate_left
  · rintro W' ⟨s0, s1, s2, s3, s4⟩; go_simp; try with_reducible rfl
  simp only [Act.put, List.setIfInBounds_toArray, List.set_cons_zero, List.set_cons_succ]
  refine headY (v := ?_) (some 18) rfl rfl (Or.inl ⟨by rfl, ?_⟩) hS ?_
  rotate_left
  · rintro W' ⟨s0, s1, s2, s3, s4⟩; go_simp; try with_reducible rfl
  simp only [Act.put, List.setIfInBounds_toArray, List.set_cons_zero, List.set_cons_succ]
  refine headY (v := ?_) (some 19) rfl rfl (Or.inl ⟨by rfl, ?_⟩) hS ?_
  rotate_left
  · rintro W' ⟨s0, s1, s2, s3, s4⟩; go_simp; try with_reducible rfl
  simp only [Act.put, List.setIfInBounds_toArray, List.set_cons_zero, List.set_cons_succ]
  refine headY (v := ?_) (some 22) rfl rfl (Or.inl ⟨by rfl, ?_⟩) hS ?_
  rotate_left
  · rintro W' ⟨s0, s1, s2, s3, s4⟩; go_simp; try with_reducible rfl
  simp only [Act.put, List.setIfInBounds_toArray, List.set_cons_zero, List.set_cons_succ]
  refine headY (v := ?_) (some 23) rfl rfl (Or.inl ⟨by rfl, ?_⟩) hS ?_
  rotate_left
  · rintro W' ⟨s0, s1, s2, s3, s4⟩; go_simp; try with_reducible rfl
  simp only [Act.put, List.setIfInBounds_toArray, List.set_cons_zero, List.set_cons_succ]
  refine headC rfl (fun KK hK => ?_)
  go_simp
  refine (widened_any K Q 1 a n c (narrT K Q T) W ho2.out.at (narrT_ok hr.out) hR3 Ri hRi.out.symm).mono ?_
  rintro e w3 ⟨x, rfl, b3, a3, n3, c3, rfl, ho3⟩
  have kb : ∀ {p : Addr} {v : Value}, W.cell? p = some v → w3.cell? p = some v := fun {p v} hp => (b3.cell (World.block_lt_of_cell? _ _ hp)).trans hp
  have hS3 : w3.cell? ⟨w1.heap.size, 0, none⟩ = some (.int .i64 K) ∧ w3.cell? ⟨w1.heap.size, 1, none⟩ = some (.int .i64 Q) ∧ w3.cell? ⟨w1.heap.size, 2, none⟩ = some (.slice a n c) ∧ w3.cell? ⟨w.heap.size, 1, none⟩ = some (.int .i64 Ri) ∧ w3.cell? ⟨w.heap.size, 2, none⟩ = some (.slice va vn vc) := ⟨kb hS.1, kb hS.2.1, kb hS.2.2.1, kb hS.2.2.2.1, kb hS.2.2.2.2⟩
  clear kb
  replace ho3 := Lib.hid ho3
  have hfd := field_T
  refine hK _ _ hS3 ?_
  clear hK KK
  refine headY (v := ?_) (some 21) rfl rfl (Or.inl ⟨by rfl, ?_⟩) hS3 ?_
  rotate_left
  · rintro W' ⟨s0, s1, s2, s3, s4⟩; go_simp; try with_reducible rfl
  simp only [Act.put, List.setIfInBounds_toArray, List.set_cons_zero, List.set_cons_succ]
  refine headC rfl (fun KK hK => ?_)
  go_simp
  refine (equal_any (.slice a3 n3 c3) (.slice va vn vc) _ _ w3 ho3.out.at (hTW.out.below b3)).mono ?_
  rintro e w4 h4
  obtain ⟨rfl, b4⟩ := h4.below
  clear h4
  have kb : ∀ {p : Addr} {v : Value}, w3.cell? p = some v → w4.cell? p = some v := fun {p v} hp => (b4.cell (World.block_lt_of_cell? _ _ hp)).trans hp
  have hS4 : w4.cell? ⟨w1.heap.size, 0, none⟩ = some (.int .i64 K) ∧ w4.cell? ⟨w1.heap.size, 1, none⟩ = some (.int .i64 Q) ∧ w4.cell? ⟨w1.heap.size, 2, none⟩ = some (.slice a n c) ∧ w4.cell? ⟨w.heap.size, 1, none⟩ = some (.int .i64 Ri) ∧ w4.cell? ⟨w.heap.size, 2, none⟩ = some (.slice va vn vc) := ⟨kb hS3.1, kb hS3.2.1, kb hS3.2.2.1, kb hS3.2.2.2.1, kb hS3.2.2.2.2⟩
  clear kb
  refine hK _ _ hS4 ?_
  clear hK KK
  refine head0 ?_
  simp only [List.drop_succ_cons, List.drop_zero]
  clear hS hS3 hS4
  have b34 := Below.step b3 b4
  obtain ⟨⟨y0, y1, y2⟩, f0, f1, f2⟩ := q2W.below b34
  have bE := Below.step b0 (Below.step bW b34)
  generalize hdd : decide (wideT K Q 1 (narrT K Q T) = T) = dd
  replace hdd := Lib.hid hdd
  clear q1W qiW q1 q2 qi q12 q22 q2W hfd
  go_wp2
  refine NoPanic.normal ?_
  go_wp2
  refine bodyPost_ret (v := .tuple #[.agg #[.int .i64 K, .int .i64 Q, .slice a n c], .bool dd]) (by simp [results, Tryd.results65, go_sem, y0, y1, y2]) rfl ⟨_, _, rfl, below_set3 bE (Nat.le_succ _) _ _ _, a, n, c, rfl, ?_, by rw [hdd.out]⟩
  have := s0.out
  exact ((((ho2.out.below b34).setBelowBase (a := ⟨w.heap.size + 1, 0, none⟩) (by simp; omega) _).setBelowBase (a := ⟨w.heap.size + 1, 1, none⟩) (by simp; omega) _).setBelowBase (a := ⟨w.heap.size + 1, 2, none⟩) (by simp; omega) _).mono (by omega)

/-- What inner leaves. -/
def InnerPost (B K Q : Nat) (N : List Int) (x y : Value) (w' : World) : Prop :=
  ∃ (Q' : Nat) (a : Option Addr) (n c : Nat), x = .agg #[.int .i64 K, .int .i64 Q', .slice a n c] ∧ ∃ ok, y = .bool ok ∧ (ok = true → ∃ N', Q = Q' + 1 ∧ OwnI B w' (.slice a n c) N' ∧ RuleOk K Q' N' ∧ N = wideT K Q' 1 N') ∧ (ok = false → Least K Q N)
theorem inner_any (K Q : Nat) (va : Option Addr) (vn vc : Nat) (N : List Int) (w : World) (h : IntsAt w (.slice va vn vc) N) (hr : RuleOk K Q N) :
    Calls Tryd.prog 65 #[.agg #[.int .i64 K, .int .i64 Q, .slice va vn vc]] w (Ret2 (InnerPost w.heap.size K Q N) w) := by
  cases Q with
  | zero =>
    refine (inner_zero K va vn vc w).mono ?_
    rintro e w' ⟨x, y, rfl, b, rfl, rfl⟩
    exact ⟨.agg #[.int .i64 K, .int .i64 0, .slice va vn vc], .bool false, rfl, b, 0, va, vn, vc, rfl, false, rfl, (fun h => by cases h), fun _ P M e => by omega⟩
  | succ Q =>
    refine (inner_pos K Q va vn vc N w h hr).mono ?_
    rintro e w' ⟨x, y, rfl, b, a, n, c, rfl, ho, rfl⟩
    refine ⟨_, _, rfl, b, Q, a, n, c, rfl, _, rfl, fun h => ?_, fun h => ?_⟩
    · exact ⟨_, rfl, ho, narrT_ok hr, (of_decide_eq_true h).symm⟩
    · exact least_of (of_decide_eq_false h)

theorem narrow_bad (r : Nat → Addr) (k R : Int) (va : Option Addr) (vn vc : Nat) (T : List Int) (t : Int × List (ByteArray × Int)) (w : World) (hg : Glob r w) (h : IntsAt w (.slice va vn vc) T) (hc : checkP k R T = some t) :
    Calls Tryd.prog 25 #[.agg #[.int .i64 k, .int .i64 R, .slice va vn vc]] w (Ret2 (fun x y w' => x = zR ∧ ErrIs r w' (under sForms 0 (some t)) y) w) := by
  have b0 := Below.step (belowAlloc w (.cells #[.int .i64 k, .int .i64 R, .slice va vn vc] 24)) (belowAlloc _ (.cells #[.int .i64 0, .int .i64 0, .slice none 0 0] 24))
  have q2 : Box3 ((w.alloc (.cells #[.int .i64 k, .int .i64 R, .slice va vn vc] 24)).alloc (.cells #[.int .i64 0, .int .i64 0, .slice none 0 0] 24)) (w.heap.size + 1) (.int .i64 0) (.int .i64 0) (.slice none 0 0) := by simp [Box3, go_sem]
  replace hg := Lib.hid (hg.below b0)
  replace h := Lib.hid (h.below b0)
  replace hc := Lib.hid hc
  go_enter Tryd.func25, Tryd.ntmps25
  go_wp2_with fail
  refine (forms_check r _ k R va vn vc T _ hg.out h.out).mono ?_
  rintro e w1 ⟨x, rfl, hb, he⟩
  rw [hc.out] at he
  obtain ⟨T1, a1, rfl⟩ := ErrIs.some_shape he
  replace he := Lib.hid he
  obtain ⟨⟨y0, y1, y2⟩, f0, f1, f2⟩ := q2.below hb
  go_wp2
  rw [setCell_self3 y0 y1 y2]
  exact bodyPost_ret (v := .tuple #[zR, .iface T1 (.pointer (some a1))]) (by simp [results, Tryd.results25, go_sem, y0, y1, y2]) rfl ⟨_, _, rfl, Below.step b0 hb, rfl, he.out⟩

set_option maxHeartbeats 2000000 in
theorem narrow_ok (r : Nat → Addr) (K R : Nat) (va : Option Addr) (vn vc : Nat) (T : List Int) (w : World) (hg : Glob r w) (h : IntsAt w (.slice va vn vc) T) (hr : RuleOk K R T) :
    Calls Tryd.prog 25 #[.agg #[.int .i64 K, .int .i64 R, .slice va vn vc]] w (Ret2 (fun x y w' => y = .nilIface ∧ ∃ Q N a n c, x = .agg #[.int .i64 K, .int .i64 ((Q : Nat) : Int), .slice a n c] ∧ OwnI w.heap.size w' (.slice a n c) N ∧ NarrIs K R T Q N) w) := by
  have b0 := Below.step (belowAlloc w (.cells #[.int .i64 K, .int .i64 R, .slice va vn vc] 24)) (belowAlloc _ (.cells #[.int .i64 0, .int .i64 0, .slice none 0 0] 24))
  have q2 : Box3 ((w.alloc (.cells #[.int .i64 K, .int .i64 R, .slice va vn vc] 24)).alloc (.cells #[.int .i64 0, .int .i64 0, .slice none 0 0] 24)) (w.heap.size + 1) (.int .i64 0) (.int .i64 0) (.slice none 0 0) := by simp [Box3, go_sem]
  have q1 : Box3 ((w.alloc (.cells #[.int .i64 K, .int .i64 R, .slice va vn vc] 24)).alloc (.cells #[.int .i64 0, .int .i64 0, .slice none 0 0] 24)) w.heap.size (.int .i64 K) (.int .i64 R) (.slice va vn vc) := by simp [Box3, go_sem]
  have hR3 := hr.r3
  have hck := Lib.hid hr.check
  have hwz := wideT_zero hr
  replace hwz := Lib.hid hwz
  obtain ⟨W0, hW0⟩ : ∃ W0 : World, W0 = (w.alloc (.cells #[.int .i64 K, .int .i64 R, .slice va vn vc] 24)).alloc (.cells #[.int .i64 0, .int .i64 0, .slice none 0 0] 24) := ⟨_, rfl⟩
  have s0 : W0.heap.size = w.heap.size + 2 := by rw [hW0]; simp
  rw [← hW0] at b0 q1 q2
  replace hg := Lib.hid (hg.below b0)
  replace h := Lib.hid (h.below b0)
  replace hr := Lib.hid hr
  replace hW0 := Lib.hid hW0
  replace s0 := Lib.hid s0
  go_enter Tryd.func25, Tryd.ntmps25
  go_wp2_with fail
  rw [← hW0.out]
  refine (forms_check r _ K R va vn vc T _ hg.out h.out).mono ?_
  rintro e w1 ⟨x, rfl, hb, he⟩
  rw [hck.out] at he
  obtain rfl := ErrIs.none_eq he
  obtain ⟨⟨z0, z1, z2⟩, f0, f1, f2⟩ := q1.below hb
  go_wp2_with fail
  refine (widened_any K R 0 va vn vc T w1 (h.out.below hb) hr.out (by omega) R rfl).mono ?_
  rintro e w2 ⟨x, rfl, b2, a, n, c, rfl, ho⟩
  rw [hwz.out] at ho
  rw [Nat.add_zero]
  have s1 := hb.size
  have q12 := q1.below (Below.step hb b2)
  have q22 := q2.below (Below.step hb b2)
  obtain ⟨W3, hW3⟩ : ∃ W3 : World, W3 = ((w2.setCell ⟨w.heap.size, 0, none⟩ (.int .i64 K)).setCell ⟨w.heap.size, 1, none⟩ (.int .i64 R)).setCell ⟨w.heap.size, 2, none⟩ (.slice a n c) := ⟨_, rfl⟩
  have q1W : Box3 W3 w.heap.size (.int .i64 K) (.int .i64 R) (.slice a n c) := by rw [hW3]; exact q12.st3 _ _ _
  have q2W : Box3 W3 (w.heap.size + 1) (.int .i64 0) (.int .i64 0) (.slice none 0 0) := by rw [hW3]; exact q22.st3_far (by omega) _ _ _
  have hoW : OwnI (w.heap.size + 2) W3 (.slice a n c) T := by rw [hW3]; exact (ho.mono (by have := s0.out; omega)).set3 (by omega) _ _ _
  have bW : Below w.heap.size w W3 := by rw [hW3]; exact below_st3 (Below.step b0 (Below.step hb b2)) (Nat.le_refl _) _ _ _
  have sW : w.heap.size + 2 ≤ W3.heap.size := by
    have e := b2.size
    have e2 := s0.out
    have e3 : W3.heap.size = w2.heap.size := by rw [hW3]; exact st3_size _ _ _ _ _
    omega
  replace hW3 := Lib.hid hW3
  replace hoW := Lib.hid hoW
  clear z0 z1 z2 f0 f1 f2 q1 q2 q22 ho
  obtain ⟨⟨z0, z1, z2⟩, f0, f1, f2⟩ := q12
  go_wp2_with fail
  rw [← hW3.out]
  refine (inner_any K R a n c T W3 hoW.out.at hr.out).mono ?_
  rintro e w4 ⟨x, y, rfl, b4, Q', a', n', c', rfl, ok, rfl, hyes, hno⟩
  have ba := belowAlloc w4 (.cells #[.int .i64 K, .int .i64 Q', .slice a' n' c'] 24)
  have b4a := Below.step b4 ba
  have qi : Box3 (w4.alloc (.cells #[.int .i64 K, .int .i64 Q', .slice a' n' c'] 24)) w4.heap.size (.int .i64 K) (.int .i64 Q') (.slice a' n' c') := by simp [Box3, go_sem]
  have q1W' : Box3 (w4.alloc (.cells #[.int .i64 K, .int .i64 Q', .slice a' n' c'] 24)) w.heap.size (.int .i64 K) (.int .i64 R) (.slice a n c) := q1W.below b4a
  have q2W' := q2W.below b4a
  have hoW' := hoW.out.below b4a
  have s4 := b4.size
  have bE := bW.trans (b4a.mono bW.size)
  replace hyes := Lib.hid hyes
  replace hno := Lib.hid hno
  replace hoW' := Lib.hid hoW'
  clear z0 z1 z2 f0 f1 f2
  go_wp2_with fail
  go_loopw [5, 6] (fun pv kv wr => ∃ (Q : Nat) (N : List Int) (a : Option Addr) (n c Q' : Nat) (a' : Option Addr) (n' c' : Nat) (ok : Bool) (b5 : Nat), pv = .pointer (some ⟨b5, 0, none⟩) ∧ kv = .bool ok ∧
      Box3 wr w.heap.size (.int .i64 K) (.int .i64 Q) (.slice a n c) ∧ Box3 wr b5 (.int .i64 K) (.int .i64 Q') (.slice a' n' c') ∧ w.heap.size + 2 ≤ b5 ∧ OwnI (w.heap.size + 2) wr (.slice a n c) N ∧ RuleOk K Q N ∧ (∃ d, R = Q + d ∧ T = wideT K Q d N) ∧
      (ok = true → ∃ N', Q = Q' + 1 ∧ OwnI (w.heap.size + 2) wr (.slice a' n' c') N' ∧ RuleOk K Q' N' ∧ N = wideT K Q' 1 N') ∧ (ok = false → Least K Q N) ∧ Box3 wr (w.heap.size + 1) (.int .i64 0) (.int .i64 0) (.slice none 0 0) ∧ Below w.heap.size w wr)
    (fun _ _ wr => match wr.cell? ⟨w.heap.size, 1, none⟩ with | some v => (intOf v).toNat | none => 0)
  case atStart =>
    refine ⟨R, T, a, n, c, Q', a', n', c', ok, _, rfl, rfl, q1W', qi, by omega, hoW'.out, hr.out, ⟨0, rfl, hwz.out.symm⟩, fun h => ?_, hno.out, q2W', bE⟩
    obtain ⟨N', e1, e2, e3, e4⟩ := hyes.out h
    exact ⟨N', e1, (e2.below ba).mono sW, e3, e4⟩
  case round =>
    clear hyes hno hoW' q1W' qi q2W' q2W
    obtain ⟨Q, N, a, n, c, Q', a', n', c', ok, b5, rfl, rfl, qr, qi, hb5, hoN, hrN, hd, hyes, hno, qz, bR⟩ := hrel
    obtain ⟨wo, rfl⟩ : ∃ wo : World, wo = wr := ⟨_, rfl⟩
    cases ok with
    | true =>
      obtain ⟨N', eQ, hoN', hrN', eN⟩ := hyes rfl
      obtain ⟨d, eR, eT⟩ := hd
      have hd' : R = Q' + (1 + d) ∧ T = wideT K Q' (1 + d) N' := ⟨by omega, by rw [eT, eN, eQ, wideT_wideT hrN'.k1]⟩
      have szo : b5 < wo.heap.size := World.block_lt_of_cell? _ _ qi.1.1
      obtain ⟨W5, hW5⟩ : ∃ W5 : World, W5 = ((wo.setCell ⟨w.heap.size, 0, none⟩ (.int .i64 K)).setCell ⟨w.heap.size, 1, none⟩ (.int .i64 Q')).setCell ⟨w.heap.size, 2, none⟩ (.slice a' n' c') := ⟨_, rfl⟩
      have qr5 : Box3 W5 w.heap.size (.int .i64 K) (.int .i64 Q') (.slice a' n' c') := by rw [hW5]; exact qr.st3 _ _ _
      have qz5 : Box3 W5 (w.heap.size + 1) (.int .i64 0) (.int .i64 0) (.slice none 0 0) := by rw [hW5]; exact qz.st3_far (by omega) _ _ _
      have qi5 : Box3 W5 b5 (.int .i64 K) (.int .i64 Q') (.slice a' n' c') := by rw [hW5]; exact qi.st3_far (by omega) _ _ _
      have ho5 : OwnI (w.heap.size + 2) W5 (.slice a' n' c') N' := by rw [hW5]; exact hoN'.set3 (by omega) _ _ _
      have b05 : Below w.heap.size w W5 := by rw [hW5]; exact below_st3 bR (Nat.le_refl _) _ _ _
      have sz0 : W5.heap.size = wo.heap.size := by rw [hW5]; exact st3_size _ _ _ _ _
      have s5 : w.heap.size + 2 ≤ W5.heap.size := by omega
      have ba5 := belowAlloc W5 (.cells #[.int .i64 K, .int .i64 Q', .slice a' n' c'] 24)
      have hoA := ho5.below ba5
      have qrA := qr5.below ba5
      have qj : Box3 (W5.alloc (.cells #[.int .i64 K, .int .i64 Q', .slice a' n' c'] 24)) wo.heap.size (.int .i64 K) (.int .i64 Q') (.slice a' n' c') := by rw [← sz0]; simp [Box3, go_sem]
      replace hW5 := Lib.hid hW5
      replace hoA := Lib.hid hoA
      have hcw := Lib.hid qr.1.2.1
      obtain ⟨⟨i0, i1, i2⟩, -, -, -⟩ := qi
      obtain ⟨⟨z0, z1, z2⟩, f0, f1, f2⟩ := qr
      clear hoN hyes hno eN eR eT hoN'
      replace eQ := Lib.hid eQ
      replace hd' := Lib.hid hd'
      replace hrN' := Lib.hid hrN'
      go_upto_region 9 with fail
      rw [← hW5.out]
      clear z0 z1 z2 f0 f1 f2 i0 i1 i2
      obtain ⟨⟨i0, i1, i2⟩, -, -, -⟩ := qi5
      have qrAx := qrA
      obtain ⟨⟨z0, z1, z2⟩, -, -, -⟩ := qrAx
      go_wp2_with fail
      refine (inner_any K Q' a' n' c' N' _ hoA.out.at hrN'.out).mono ?_
      rintro e w6 ⟨x, y, rfl, b6, Q2, a2, n2, c2, rfl, ok2, rfl, hy2, hn2⟩
      clear z0 z1 z2 i0 i1 i2
      have qj6 := qj.below b6
      have qr6 := qrA.below b6
      have qz6 := (qz5.below ba5).below b6
      have b56 := Below.step ba5 b6
      have ho6 := hoA.out.below b6
      have s6 : wo.heap.size < w6.heap.size := World.block_lt_of_cell? _ _ qj6.1.1
      obtain ⟨W7, hW7⟩ : ∃ W7 : World, W7 = ((w6.setCell ⟨wo.heap.size, 0, none⟩ (.int .i64 K)).setCell ⟨wo.heap.size, 1, none⟩ (.int .i64 Q2)).setCell ⟨wo.heap.size, 2, none⟩ (.slice a2 n2 c2) := ⟨_, rfl⟩
      have qr7 : Box3 W7 w.heap.size (.int .i64 K) (.int .i64 Q') (.slice a' n' c') := by rw [hW7]; exact qr6.st3_far (by omega) _ _ _
      have qz7 : Box3 W7 (w.heap.size + 1) (.int .i64 0) (.int .i64 0) (.slice none 0 0) := by rw [hW7]; exact qz6.st3_far (by omega) _ _ _
      have qj7 : Box3 W7 wo.heap.size (.int .i64 K) (.int .i64 Q2) (.slice a2 n2 c2) := by rw [hW7]; exact qj6.st3 _ _ _
      have b57 : Below W5.heap.size W5 W7 := by rw [hW7]; exact below_st3 b56 (by omega) _ _ _
      have ho7 := ho5.below b57
      have hy7 : ok2 = true → ∃ N'', Q' = Q2 + 1 ∧ OwnI (w.heap.size + 2) W7 (.slice a2 n2 c2) N'' ∧ RuleOk K Q2 N'' ∧ N' = wideT K Q2 1 N'' := fun h => by
        obtain ⟨N'', e1, e2, e3, e4⟩ := hy2 h
        refine ⟨N'', e1, ?_, e3, e4⟩
        rw [hW7]
        exact (e2.set3 (b := wo.heap.size) (by simp; omega) _ _ _).mono (by simp; omega)
      have bE7 := b05.trans (b57.mono b05.size)
      replace hW7 := Lib.hid hW7
      replace hy7 := Lib.hid hy7
      replace hn2 := Lib.hid hn2
      replace ho7 := Lib.hid ho7
      replace ho6 := Lib.hid ho6
      replace hy2 := Lib.hid hy2
      have qr8 := qr7
      obtain ⟨⟨r0, r1, r2⟩, -, -, -⟩ := qr8
      obtain ⟨⟨j0, j1, j2⟩, g0, g1, g2⟩ := qj6
      go_wp2
      go_roundw
      case rel =>
        rw [← hW7.out]
        exact ⟨Q', N', a', n', c', Q2, a2, n2, c2, ok2, wo.heap.size, rfl, rfl, qr7, qj7, by omega, ho7.out, hrN'.out, ⟨_, hd'.out.1, hd'.out.2⟩, hy7.out, hn2.out, qz7, bE7⟩
      case measure =>
        rw [← hW7.out]
        have := eQ.out
        rw [r1, hcw.out]
        simp [intOf]; omega
    | false =>
      obtain ⟨d, eR, eT⟩ := hd
      have hl := hno rfl
      clear hyes hno qi
      replace hl := Lib.hid hl
      replace eR := Lib.hid eR
      replace eT := Lib.hid eT
      replace hrN := Lib.hid hrN
      replace hoN := Lib.hid hoN
      obtain ⟨⟨z0, z1, z2⟩, f0, f1, f2⟩ := qr
      obtain ⟨⟨y0, y1, y2⟩, g0, g1, g2⟩ := qz
      go_wp2
      refine bodyPost_ret (v := .tuple #[.agg #[.int .i64 K, .int .i64 Q, .slice a n c], .nilIface]) (by simp [results, Tryd.results25, go_sem, y0, y1, y2]) rfl ⟨_, _, rfl, below_set3 bR (Nat.le_succ _) _ _ _, rfl, Q, N, a, n, c, rfl, ?_, hrN.out, hl.out, d, eR.out, eT.out⟩
      exact (hoN.out.set3 (b := w.heap.size + 1) (by omega) _ _ _).mono (by omega)
end Go.Proofs.YtmhiambkfdkkbaaDoor

namespace Go.Proofs.YtmhiambkfdkkbaaDoor
open Go.RowKit
set_option maxRecDepth 100000

theorem narr_len14 {K R Q : Nat} {T N : List Int} (hr : RuleOk K R T) (h : NarrIs K R T Q N) (hl : T.length ≤ 256) : N.length ≤ 256 := by
  obtain ⟨h1, _, d, rfl, _⟩ := h
  rw [hr.len] at hl
  rw [h1.len]
  exact Nat.le_trans (pw_mono h1.k1 (by omega)) hl
theorem bool_of_iff {Y Z : Bool} {p q : Prop} (h : Y = true ↔ ¬ p) (k : Z = true ↔ ¬ q) (e : p ↔ q) : Y = Z := by
  cases Y <;> cases Z
  · rfl
  · have := h.2 (fun hp => k.1 rfl (e.1 hp)); cases this
  · have := k.2 (fun hp => h.1 rfl (e.2 hp)); cases this
  · rfl

theorem injectForms_bad (r : Nat → Addr) (k R : Int) (va : Option Addr) (vn vc : Nat) (T : List Int) (v : Value) (t : Int × List (ByteArray × Int)) (w : World) (hg : Glob r w) (h : IntsAt w (.slice va vn vc) T) (hc : smallP k R T = some t) :
    Calls Tryd.prog 6 #[.agg #[.int .i64 k, .int .i64 R, .slice va vn vc], v] w (Ret1 (fun x _ => x = .bool true) w) := by
  have b0 := belowAlloc w (.cells #[.int .i64 k, .int .i64 R, .slice va vn vc] 24)
  have q : Box3 (w.alloc (.cells #[.int .i64 k, .int .i64 R, .slice va vn vc] 24)) w.heap.size (.int .i64 k) (.int .i64 R) (.slice va vn vc) := by simp [Box3, go_sem]
  replace hg := Lib.hid (hg.below b0)
  replace h := Lib.hid (h.below b0)
  replace hc := Lib.hid hc
  go_enter Tryd.func6, Tryd.ntmps6
  go_wp2_with fail
  refine (awake14 r _ hg.out).mono ?_
  rintro e w1 ⟨_, rfl, b1, rfl⟩
  obtain ⟨⟨z0, z1, z2⟩, -, -, -⟩ := q.below b1
  go_wp2_with fail
  refine (one_bad r k R va vn vc T t w1 (hg.out.below b1) (h.out.below b1) hc.out).mono ?_
  rintro e w2 ⟨x, y, z, u, rfl, b2, rfl, rfl, rfl, hu⟩
  obtain ⟨T2, a2, rfl⟩ : ∃ T a, u = .iface T (.pointer (some a)) := by
    unfold under at hu
    exact ErrIs.some_shape hu
  have bb := Below.step b0 (Below.step b1 (Below.step b2 (Below.step (belowAlloc w2 (.cells #[.int .i64 0, .slice none 0 0, .slice none 0 0, .slice none 0 0] 26)) (belowAlloc _ (.cells #[.int .i64 0, .slice none 0 0, .slice none 0 0, .slice none 0 0] 26)))))
  clear z0 z1 z2 hu
  go_wp2
  go_ret
  exact ⟨_, rfl, bb, rfl⟩

set_option maxHeartbeats 2000000 in
theorem injectForms_ok (r : Nat → Addr) (K R : Nat) (va : Option Addr) (vn vc : Nat) (T : List Int) (pa : Option Addr) (pn pc : Nat) (p : List Int) (w : World) (hg : Glob r w) (h : IntsAt w (.slice va vn vc) T) (hr : RuleOk K R T) (hl : T.length ≤ 256) (hp : IntsAt w (.slice pa pn pc) p) (hpl : p.length ≤ 17592186044416) :
    Calls Tryd.prog 6 #[.agg #[.int .i64 K, .int .i64 R, .slice va vn vc], .slice pa pn pc] w (Ret1 (fun x _ => x = .bool true) w) := by
  have b0 := belowAlloc w (.cells #[.int .i64 K, .int .i64 R, .slice va vn vc] 24)
  have q : Box3 (w.alloc (.cells #[.int .i64 K, .int .i64 R, .slice va vn vc] 24)) w.heap.size (.int .i64 K) (.int .i64 R) (.slice va vn vc) := by simp [Box3, go_sem]
  have hone := fun (R : Nat) (T : List Int) (hr : RuleOk K R T) (hl : T.length ≤ 256) (va : Option Addr) (vn vc : Nat) (w' : World) (hgl : Glob r w') (hT : IntsAt w' (.slice va vn vc) T) => one_ok r K R va vn vc T w' hgl hT hr hl
  have hK1 := hr.k1
  replace hone := Lib.hid hone
  replace hg := Lib.hid (hg.below b0)
  replace h := Lib.hid (h.below b0)
  replace hp := Lib.hid (hp.below b0)
  have hmr := Lib.hid (mirT_ok hr)
  have hml : Hid ((mirT K (2 * R + 1) T).length ≤ 256) := Lib.hid (by rw [mirT_length]; exact hl)
  replace hr := Lib.hid hr
  replace hl := Lib.hid hl
  go_enter Tryd.func6, Tryd.ntmps6
  go_wp2_with fail
  refine (awake14 r _ hg.out).mono ?_
  rintro e w1 ⟨_, rfl, b1, rfl⟩
  obtain ⟨⟨z0, z1, z2⟩, -, -, -⟩ := q.below b1
  go_wp2_with fail
  refine (hone.out R T hr.out hl.out va vn vc w1 (hg.out.below b1) (h.out.below b1)).mono ?_
  rintro e w2 ⟨y1, a, b, e1, rfl, b2, hp1⟩
  obtain ⟨rfl, Y, rfl, hY, a21, n21, c21, a22, n22, c22, a23, n23, c23, a24, n24, c24, a25, n25, c25, a26, n26, c26, rfl, rfl⟩ := hp1.ans
  have b12 := Below.step b1 (Below.step b2 (Below.step (belowAlloc w2 (.cells #[.int .i64 0, .slice a21 n21 c21, .slice a22 n22 c22, .slice a23 n23 c23] 26)) (belowAlloc _ (.cells #[.int .i64 0, .slice a24 n24 c24, .slice a25 n25 c25, .slice a26 n26 c26] 26))))
  have bx2 := Below.step b2 (Below.step (belowAlloc w2 (.cells #[.int .i64 0, .slice a21 n21 c21, .slice a22 n22 c22, .slice a23 n23 c23] 26)) (belowAlloc _ (.cells #[.int .i64 0, .slice a24 n24 c24, .slice a25 n25 c25, .slice a26 n26 c26] 26)))
  clear hp1
  clear z0 z1 z2
  obtain ⟨⟨z0, z1, z2⟩, -, -, -⟩ := q.below b12
  replace hY := Lib.hid hY
  go_wp2_with fail
  refine (fmirror_ok r K R va vn vc T _ (hg.out.below b12) (h.out.below b12) hr.out).mono ?_
  rintro e w3 ⟨_, _, rfl, b3, rfl, ma, mn, mc, rfl, hm⟩
  have b3a := Below.step b3 (belowAlloc w3 (.cells #[.int .i64 K, .int .i64 R, .slice ma mn mc] 24))
  have qm : Box3 (w3.alloc (.cells #[.int .i64 K, .int .i64 R, .slice ma mn mc] 24)) w3.heap.size (.int .i64 K) (.int .i64 R) (.slice ma mn mc) := by simp [Box3, go_sem]
  replace hm := Lib.hid (hm.alloc (.cells #[.int .i64 K, .int .i64 R, .slice ma mn mc] 24))
  have b13 := Below.step b12 b3a
  clear z0 z1 z2
  obtain ⟨⟨z0, z1, z2⟩, -, -, -⟩ := q.below b13
  go_wp2_with fail
  refine (narrow_ok r K R va vn vc T _ (hg.out.below b13) (h.out.below b13) hr.out).mono ?_
  rintro e w4 ⟨_, _, rfl, b4, rfl, Q, N, na, nn, nc, rfl, hn, hN⟩
  have b4a := Below.step b4 (belowAlloc w4 (.cells #[.int .i64 K, .int .i64 Q, .slice na nn nc] 24))
  have qn : Box3 (w4.alloc (.cells #[.int .i64 K, .int .i64 Q, .slice na nn nc] 24)) w4.heap.size (.int .i64 K) (.int .i64 Q) (.slice na nn nc) := by simp [Box3, go_sem]
  replace hn := Lib.hid (hn.alloc (.cells #[.int .i64 K, .int .i64 Q, .slice na nn nc] 24))
  have hnl := Lib.hid (narr_len14 hr.out hN hl.out)
  have b14 := Below.step b13 b4a
  clear z0 z1 z2
  replace hN := Lib.hid hN
  obtain ⟨⟨z0, z1, z2⟩, -, -, -⟩ := qm.below b4a
  go_wp2_with fail
  refine (hone.out R _ hmr.out hml.out ma mn mc _ (hg.out.below b14) (hm.out.at.below b4a)).mono ?_
  rintro e w5 ⟨y1, a, b, e1, rfl, b5, hp1⟩
  obtain ⟨rfl, Y2, rfl, hY2, a51, n51, c51, a52, n52, c52, a53, n53, c53, a54, n54, c54, a55, n55, c55, a56, n56, c56, rfl, rfl⟩ := hp1.ans
  have b15 := Below.step b14 (Below.step b5 (Below.step (belowAlloc w5 (.cells #[.int .i64 0, .slice a51 n51 c51, .slice a52 n52 c52, .slice a53 n53 c53] 26)) (belowAlloc _ (.cells #[.int .i64 0, .slice a54 n54 c54, .slice a55 n55 c55, .slice a56 n56 c56] 26))))
  have bx5 := Below.step b5 (Below.step (belowAlloc w5 (.cells #[.int .i64 0, .slice a51 n51 c51, .slice a52 n52 c52, .slice a53 n53 c53] 26)) (belowAlloc _ (.cells #[.int .i64 0, .slice a54 n54 c54, .slice a55 n55 c55, .slice a56 n56 c56] 26)))
  clear hp1
  obtain rfl : Y2 = Y := bool_of_iff hY2 hY.out (notOne_mir hr.out)
  clear z0 z1 z2 hY2
  obtain ⟨⟨z0, z1, z2⟩, -, -, -⟩ := qn.below bx5
  go_wp2_with fail
  refine (hone.out Q N hN.out.1 hnl.out na nn nc _ (hg.out.below b15) (hn.out.at.below bx5)).mono ?_
  rintro e w6 ⟨y1, a, b, e1, rfl, b6, hp1⟩
  obtain ⟨rfl, Y3, rfl, hY3, a61, n61, c61, a62, n62, c62, a63, n63, c63, a64, n64, c64, a65, n65, c65, a66, n66, c66, rfl, rfl⟩ := hp1.ans
  have b16 := Below.step b15 (Below.step b6 (Below.step (belowAlloc w6 (.cells #[.int .i64 0, .slice a61 n61 c61, .slice a62 n62 c62, .slice a63 n63 c63] 26)) (belowAlloc _ (.cells #[.int .i64 0, .slice a64 n64 c64, .slice a65 n65 c65, .slice a66 n66 c66] 26))))
  have bx6 := Below.step b6 (Below.step (belowAlloc w6 (.cells #[.int .i64 0, .slice a61 n61 c61, .slice a62 n62 c62, .slice a63 n63 c63] 26)) (belowAlloc _ (.cells #[.int .i64 0, .slice a64 n64 c64, .slice a65 n65 c65, .slice a66 n66 c66] 26)))
  clear hp1
  obtain rfl : Y3 = Y2 := by
    obtain ⟨_, _, d, rfl, hT⟩ := hN.out
    have hY' := hY.out
    rw [hT] at hY'
    exact bool_of_iff hY3 hY' (notOne_wide hK1).symm
  clear z0 z1 z2 hY3
  obtain ⟨⟨z0, z1, z2⟩, -, -, -⟩ := q.below b16
  have hYY : (Y3 != Y3) = false := by simp
  go_wp2_with fail
  refine (frename_any r K R va vn vc T pa pn pc p _ (hg.out.below b16) (h.out.below b16) (hp.out.below b16) hpl).mono ?_
  rintro e w7 ⟨xq, yq, rfl, b7, heq, hq1, hq2⟩
  clear z0 z1 z2
  cases hq : renameP K R T p with
  | some t =>
    rw [hq] at heq
    obtain ⟨T5, a5, rfl⟩ := ErrIs.some_shape heq
    obtain rfl := hq1 (by rw [hq]; simp)
    clear hq1 hq2 heq
    replace hq := Lib.hid hq
    have bC := Below.step b0 (Below.step b16 (Below.step b7 (belowAlloc w7 (.cells #[.int .i64 0, .int .i64 0, .slice none 0 0] 24))))
    go_wp2
    go_ret
    exact ⟨_, rfl, bC, rfl⟩
  | none =>
    rw [hq] at heq
    obtain rfl := heq.none_eq
    obtain ⟨qa, qn', qc, rfl, hoq⟩ := hq2 hq
    have hpo : permOk K p = true := by
      cases hpo : permOk K p with
      | true => rfl
      | false => simp [renameP, hr.out.check, hpo, fresh] at hq
    rw [Int.toNat_natCast, Int.toNat_natCast] at hoq
    clear hq1 hq2 heq
    replace hq := Lib.hid hq
    have hrr := Lib.hid (renT_ok hr.out hpo)
    have hrl : Hid ((renT K (2 * R + 1) T p).length ≤ 256) := Lib.hid (by rw [renT_length, ← hr.out.len]; exact hl.out)
    replace hpo := Lib.hid hpo
    have b7a := Below.step b7 (belowAlloc w7 (.cells #[.int .i64 K, .int .i64 R, .slice qa qn' qc] 24))
    have b17 := Below.step b16 b7a
    replace hoq := Lib.hid (hoq.alloc (.cells #[.int .i64 K, .int .i64 R, .slice qa qn' qc] 24))
    go_wp2_with fail
    refine (hone.out R _ hrr.out hrl.out qa qn' qc _ (hg.out.below b17) hoq.out.at).mono ?_
    rintro e w8 ⟨y1, a, b, e1, rfl, b8, hp1⟩
    obtain ⟨rfl, Y4, rfl, hY4, a81, n81, c81, a82, n82, c82, a83, n83, c83, a84, n84, c84, a85, n85, c85, a86, n86, c86, rfl, rfl⟩ := hp1.ans
    have b18 := Below.step b17 (Below.step b8 (Below.step (belowAlloc w8 (.cells #[.int .i64 0, .slice a81 n81 c81, .slice a82 n82 c82, .slice a83 n83 c83] 26)) (belowAlloc _ (.cells #[.int .i64 0, .slice a84 n84 c84, .slice a85 n85 c85, .slice a86 n86 c86] 26))))
    have bx8 := Below.step b8 (Below.step (belowAlloc w8 (.cells #[.int .i64 0, .slice a81 n81 c81, .slice a82 n82 c82, .slice a83 n83 c83] 26)) (belowAlloc _ (.cells #[.int .i64 0, .slice a84 n84 c84, .slice a85 n85 c85, .slice a86 n86 c86] 26)))
    clear hp1
    obtain rfl : Y4 = Y3 := bool_of_iff hY4 hY.out (notOne_ren hr.out hpo.out)
    have bE := Below.step b0 b18
    have hY2 : (Y4 == Y4) = true := by simp
    clear hY4
    go_wp2
    go_ret
    exact ⟨_, rfl, bE, rfl⟩

theorem injectForms_any (r : Nat → Addr) (k R : Int) (v : Value) (T : List Int) (u : Value) (p : List Int) (w : World) (hg : Glob r w) (h : IntsAt w v T) (hp : IntsAt w u p) (hpl : p.length ≤ 17592186043904) :
    Calls Tryd.prog 6 #[.agg #[.int .i64 k, .int .i64 R, v], u] w (Ret1 (fun x _ => x = .bool true) w) := by
  obtain ⟨va, vn, vc, rfl⟩ := h.shape
  obtain ⟨pa, pn, pc, rfl⟩ := hp.shape
  cases hc : smallP k R T with
  | some t => exact injectForms_bad r k R va vn vc T _ t w hg h hc
  | none =>
    obtain ⟨hck, hl⟩ := smallP_none hc
    obtain ⟨K, Q, rfl, rfl, hr⟩ := checkP_none hck
    exact injectForms_ok r K Q va vn vc T pa pn pc p w hg h hr hl hp (by omega)
end Go.Proofs.YtmhiambkfdkkbaaDoor

namespace Go.Proofs.YtmhiambkfdkkbaaDoor
open Go.ChangeShapes Go.WideShapes Go.ChangeAt Go.RowKit Go.Joins
set_option maxRecDepth 100000

theorem own : ownKnob Tryd.prog.godebug = none := by kernel_rfl
theorem laidOut : laidOutB Tryd.prog = true := by kernel_rfl
theorem cellsInt : Tryd.prog.cellsOf 3 = 1 := by kernel_rfl
theorem uInt : Tryd.prog.underlying 3 = some (.int .i64) := by kernel_rfl
theorem bytesInt : Tryd.prog.bytesOf 3 = 8 := by kernel_rfl

theorem i64_of_wf {n : Int} (h : (Lit.int .i64 n).wf = true) : I64 n := by
  have := bounds_i64 h
  unfold I64
  omega

/-- A []int that came in. -/
theorem open_intsV {H : Type} {enc : TypeId × Value → H} {W : World} {held : Bool} {fuel : Nat} {v : Value} {y : DataW H × List MemPlace}
    (h : DataW.trod enc Tryd.prog W 0 (fun _ => true) held fuel 22 [v] = some y) (hw : ∀ n ∈ y.1.weights Tryd.prog 22, n ≤ reachBytes) :
    ∃ xs, IntsAt W v xs ∧ xs.length ≤ 17592186043904 ∧ ∀ x ∈ xs, I64 x := by
  rcases open_ints uInts uInt cellsInt h with ⟨hcs, _⟩ | ⟨a, len, cap, zs, hcs, _, hl, hm, hz, hx, hcell, hwz⟩
  · simp at hcs
    subst hcs
    exact ⟨[], (OwnI.nil 0 W).at, by simp, by simp⟩
  · simp at hcs
    subst hcs
    simp only [if_true] at hz
    have hzl : (zs.take len).length = len := by simp; omega
    refine ⟨zs.take len, ⟨some a, cap, by rw [hzl], by rw [hzl]; exact hl, hm, (fun e => by cases e), fun i hi => ?_⟩, ?_, fun x hx => i64_of_wf (hwz x (List.mem_of_mem_take hx))⟩
    · have hi' : i < zs.length := by rw [hzl] at hi; omega
      show W.cell? (a.add i) = _
      rw [hcell i hi']
      simp [List.getD, hi']
    · rw [hx] at hw
      have := hw ((lits (H := H) .i64 (zs.take len)).length * 8 + (lits (H := H) .i64 (zs.drop len)).length * 8) (by
        simp only [DataW.weights, uInts, bytesInt, List.mem_cons]
        left; omega)
      simp only [lits, List.length_map, reachBytes] at this
      omega

theorem open_intsT {H : Type} {enc : TypeId × Value → H} {W : World} {held : Bool} {v : Value} {d : DataW H} {p : List MemPlace} {b0 : Nat}
    (hv : Value.okWide Tryd.prog W .any b0 22 v) (h : DataW.Trod enc Tryd.prog W 0 (fun _ => true) held 22 v d p) (hw : ∀ n ∈ d.weights Tryd.prog 22, n ≤ reachBytes) :
    ∃ xs, IntsAt W v xs ∧ xs.length ≤ 17592186043904 ∧ ∀ x ∈ xs, I64 x := by
  obtain ⟨a, l, c, rfl⟩ := okWide_slice uInts hv
  obtain ⟨fuel, hf⟩ := h
  exact open_intsV (y := (d, p)) (by simpa [Value.cells] using hf) hw

theorem weights_each3 {H : Type} {t0 t1 t2 : TypeId} {y0 y1 y2 : DataW H} {n : Nat} (h : n ∈ y2.weights Tryd.prog t2) : n ∈ DataW.weightsEach Tryd.prog [t0, t1, t2] [y0, y1, y2] := by
  simp only [DataW.weightsEach, List.mem_append]
  exact .inr (.inr (.inl h))

/-- A rule that came in. -/
theorem open_ruleV {H : Type} {enc : TypeId × Value → H} {W : World} {held : Bool} {v : Value} {d : DataW H} {p : List MemPlace} {b0 : Nat}
    (hv : Value.okWide Tryd.prog W .any b0 24 v) (h : DataW.Trod enc Tryd.prog W 0 (fun _ => true) held 24 v d p) (hw : ∀ n ∈ d.weights Tryd.prog 24, n ≤ reachBytes) :
    ∃ (k R : Int) (u : Value) (xs : List Int), v = .agg #[.int .i64 k, .int .i64 R, u] ∧ IntsAt W u xs ∧ xs.length ≤ 17592186043904 ∧ (∀ x ∈ xs, I64 x) ∧ I64 k ∧ I64 R := by
  obtain ⟨v0, v1, v2, y0, y1, y2, n, rfl, rfl, rfl, h0, h1, h2⟩ := open_agg3 Tryd.underlying24 (by kernel_rfl) (by kernel_rfl) hv h
  obtain ⟨a, e0, _, wa⟩ := DataW.trod_int uInt h0
  obtain ⟨b, e1, _, wb⟩ := DataW.trod_int uInt h1
  simp at e0 e1
  subst e0 e1
  obtain ⟨xs, hx, hl, hb⟩ := open_intsV h2 fun n hn => hw n (by
    simp only [DataW.weights, Tryd.underlying24]
    exact weights_each3 (t0 := 3) (t1 := 3) (t2 := 22) hn)
  exact ⟨a, b, v2, xs, rfl, hx, hl, hb, i64_of_wf wa, i64_of_wf wb⟩

/-! The package-level errors. -/
theorem star : "*" ++ "errors.errorString" = "*errors.errorString" := by decide
theorem rowES (u : TypeId) (h : Tryd.prog.typeName? 3 u = some "*errors.errorString") : u = 167 :=
  typeName_ptr_named (nm := "errors.errorString") (by rw [star]; kernel_rfl) (by kernel_rfl) (by decide) u (by rw [star]; exact h)
theorem pES : Tryd.prog.underlying 167 = some (.pointer 184) := by kernel_rfl
theorem cES : Tryd.prog.cellsOf 184 = 1 := by kernel_rfl
theorem cStr : Tryd.prog.cellsOf 9 = 1 := by kernel_rfl

def laid12 : List (String × DataW Unit) := [("eden/api.BadRule", Rows.laid_eden_api_BadRule), ("eden/api.BadWord", Rows.laid_eden_api_BadWord), ("eden/api.BadArg", Rows.laid_eden_api_BadArg), ("eden/api.TooBig", Rows.laid_eden_api_TooBig), ("eden/api.NoBudget", Rows.laid_eden_api_NoBudget), ("eden/api.BadText", Rows.laid_eden_api_BadText), ("eden/api.BadPatch", Rows.laid_eden_api_BadPatch), ("eden/api.BadCert", Rows.laid_eden_api_BadCert), ("eden/api.NoInverse", Rows.laid_eden_api_NoInverse), ("eden/api.BadLine", Rows.laid_eden_api_BadLine), ("eden/api.BadState", Rows.laid_eden_api_BadState), ("eden/api.Unknown", Rows.laid_eden_api_Unknown)]

theorem sentinel {n : String} {text : List UInt8} {r : List (String × DataW Unit)} {W : World} {g : Nat}
    (h : laidMet Tryd.prog ((n, .iface "*errors.errorString" (.ptr (.agg [.lit (.string text)]))) :: r) W)
    (hg : Tryd.prog.globalNamed n = some g) (ht : (Tryd.prog.globals[g]?).map (·.type) = some 29) :
    (∃ a : Addr, W.cell? ⟨g, 0, none⟩ = some (.iface 167 (.pointer (some a))) ∧ ∃ s, W.cell? a = some (.string s) ∧ s.data.toList = text) ∧ laidMet Tryd.prog r W := by
  refine ⟨?_, h.tail⟩
  obtain ⟨a, s, hv, hc, hs, _⟩ := laid_sentinel h hg ht Tryd.underlying29 rowES pES Tryd.underlying184 rfl rfl Tryd.underlying9 cES cStr
  exact ⟨a, by simpa using World.var?_cell hg hv 0, s, hc, hs⟩

def txt : Nat → List UInt8
  | 1 => [98, 97, 100, 32, 114, 117, 108, 101]
  | 2 => [98, 97, 100, 32, 119, 111, 114, 100]
  | 3 => [98, 97, 100, 32, 97, 114, 103, 117, 109, 101, 110, 116]
  | 4 => [116, 111, 111, 32, 98, 105, 103]
  | 5 => [110, 111, 32, 98, 117, 100, 103, 101, 116]
  | 6 => [98, 97, 100, 32, 116, 101, 120, 116]
  | 7 => [98, 97, 100, 32, 112, 97, 116, 99, 104]
  | 8 => [98, 97, 100, 32, 99, 101, 114, 116, 105, 102, 105, 99, 97, 116, 101]
  | 9 => [110, 111, 32, 105, 110, 118, 101, 114, 115, 101]
  | 10 => [98, 97, 100, 32, 108, 105, 110, 101]
  | 11 => [98, 97, 100, 32, 115, 116, 97, 116, 101]
  | 99 => [117, 110, 107, 110, 111, 119, 110]
  | _ => []
theorem txt_apart : ∀ m n : Fin 12, 1 ≤ m.val → 1 ≤ n.val → txt m.val = txt n.val → m = n := by decide

theorem glob_of_laid {W : World} (h : laidMet Tryd.prog laid12 W) : ∃ r, Glob r W := by
  obtain ⟨⟨a1, c1, s1, e1, t1⟩, h⟩ := sentinel (text := txt 1) h (g := 0) (by kernel_rfl) (by kernel_rfl)
  obtain ⟨⟨a2, c2, s2, e2, t2⟩, h⟩ := sentinel (text := txt 2) h (g := 1) (by kernel_rfl) (by kernel_rfl)
  obtain ⟨⟨a3, c3, s3, e3, t3⟩, h⟩ := sentinel (text := txt 3) h (g := 2) (by kernel_rfl) (by kernel_rfl)
  obtain ⟨⟨a4, c4, s4, e4, t4⟩, h⟩ := sentinel (text := txt 4) h (g := 3) (by kernel_rfl) (by kernel_rfl)
  obtain ⟨⟨a5, c5, s5, e5, t5⟩, h⟩ := sentinel (text := txt 5) h (g := 4) (by kernel_rfl) (by kernel_rfl)
  obtain ⟨⟨a6, c6, s6, e6, t6⟩, h⟩ := sentinel (text := txt 6) h (g := 5) (by kernel_rfl) (by kernel_rfl)
  obtain ⟨⟨a7, c7, s7, e7, t7⟩, h⟩ := sentinel (text := txt 7) h (g := 6) (by kernel_rfl) (by kernel_rfl)
  obtain ⟨⟨a8, c8, s8, e8, t8⟩, h⟩ := sentinel (text := txt 8) h (g := 7) (by kernel_rfl) (by kernel_rfl)
  obtain ⟨⟨a9, c9, s9, e9, t9⟩, h⟩ := sentinel (text := txt 9) h (g := 8) (by kernel_rfl) (by kernel_rfl)
  obtain ⟨⟨a10, c10, s10, e10, t10⟩, h⟩ := sentinel (text := txt 10) h (g := 9) (by kernel_rfl) (by kernel_rfl)
  obtain ⟨⟨a11, c11, s11, e11, t11⟩, h⟩ := sentinel (text := txt 11) h (g := 10) (by kernel_rfl) (by kernel_rfl)
  obtain ⟨⟨a99, c99, s99, e99, t99⟩, h⟩ := sentinel (text := txt 99) h (g := 11) (by kernel_rfl) (by kernel_rfl)
  clear h
  have key : ∀ n : Nat, (1 ≤ n ∧ n ≤ 11) ∨ n = 99 → ∃ s, W.cell? ((fun n : Nat => match n with | 1 => a1 | 2 => a2 | 3 => a3 | 4 => a4 | 5 => a5 | 6 => a6 | 7 => a7 | 8 => a8 | 9 => a9 | 10 => a10 | 11 => a11 | _ => a99) n) = some (.string s) ∧ s.data.toList = txt n := by
    intro n hn
    have : n = 1 ∨ n = 2 ∨ n = 3 ∨ n = 4 ∨ n = 5 ∨ n = 6 ∨ n = 7 ∨ n = 8 ∨ n = 9 ∨ n = 10 ∨ n = 11 ∨ n = 99 := by omega
    rcases this with rfl | rfl | rfl | rfl | rfl | rfl | rfl | rfl | rfl | rfl | rfl | rfl
    · exact ⟨s1, e1, t1⟩
    · exact ⟨s2, e2, t2⟩
    · exact ⟨s3, e3, t3⟩
    · exact ⟨s4, e4, t4⟩
    · exact ⟨s5, e5, t5⟩
    · exact ⟨s6, e6, t6⟩
    · exact ⟨s7, e7, t7⟩
    · exact ⟨s8, e8, t8⟩
    · exact ⟨s9, e9, t9⟩
    · exact ⟨s10, e10, t10⟩
    · exact ⟨s11, e11, t11⟩
    · exact ⟨s99, e99, t99⟩
  refine ⟨(fun n : Nat => match n with | 1 => a1 | 2 => a2 | 3 => a3 | 4 => a4 | 5 => a5 | 6 => a6 | 7 => a7 | 8 => a8 | 9 => a9 | 10 => a10 | 11 => a11 | _ => a99), c1, c2, c3, c4, c5, c6, c7, c8, c9, c10, c11, c99, (fun n hn => ?_), fun m n hm1 hm2 hn1 hn2 he => ?_⟩
  · obtain ⟨s, hs, _⟩ := key n hn
    exact ⟨s, hs⟩
  · obtain ⟨s, hs, ts⟩ := key m.toNat (by omega)
    obtain ⟨s', hs', ts'⟩ := key n.toNat (by omega)
    have hss : s = s' := by
      have := hs.symm.trans ((congrArg W.cell? he).trans hs')
      simpa using this
    subst hss
    have := txt_apart ⟨m.toNat, by omega⟩ ⟨n.toNat, by omega⟩ (by simp; omega) (by simp; omega) (ts.symm.trans ts')
    have := congrArg Fin.val this
    simp at this
    omega
end Go.Proofs.YtmhiambkfdkkbaaDoor

namespace Go.Proofs.YtmhiambkfdkkbaaDoor
open Go.ChangeShapes Go.WideShapes Go.ChangeAt Go.RowKit Go.Joins
namespace InjectFormsP

set_option maxRecDepth 100000 in
theorem door_met (os : Os) (args : Array Value) : laidMetH Tryd.prog Rows.injectFormsRow.laid ((World.doorLaid Tryd.prog 400 os).forCall (fun _ _ => 0) ⟨#[], args, []⟩).memory :=
  laidMetH_of_parts3 (fuel := 8) (laidMet_of_run' 8 (by kernel_rfl) (by kernel_rfl)) (by kernel_rfl) (by kernel_rfl)

set_option maxRecDepth 100000 in
theorem lifted (os : Os) (started : os.Started) (H : Type) (enc : TypeId × Value → H) :
    ReturnsInHanded {} Tryd.checked os 6 .any (fun w args => (Rows.injectFormsSpec.pre enc Tryd.prog Tryd.f6 [] false w args ∧ laidMetH Tryd.prog Rows.injectFormsRow.laid w) ∧ sizedMet enc Tryd.prog Tryd.f6 (OpenSpec.ofChange Rows.injectFormsSpec) false w args)
      (Rows.injectFormsSpec.post enc Tryd.prog Tryd.f6 false true false false) := by
  refine returnsInHanded_of_change_and (C := Tryd.checked) (X := fun w _ => laidMetH Tryd.prog Rows.injectFormsRow.laid w) (fun _ _ _ hh h => h.of_heap hh) own started (by kernel_rfl) Tryd.func6
    (ChangeSpec.witness_shaped (enc := enc) (C := Tryd.checked) (os := os) (X := fun w _ => laidMetH Tryd.prog Rows.injectFormsRow.laid w) false (World.doorLaid Tryd.prog 400 os) #[.agg #[.int .i64 0, .int .i64 0, .slice none 0 0], .slice none 0 0] 8 rfl (World.shaped_of_RefB (by kernel_rfl) (by kernel_rfl)) (by kernel_rfl) (by kernel_rfl) (by kernel_rfl) (door_met os _)) ?_
  intro W base args ds gs before hval0 hW _ hsz hL _
  have hval : ∀ (j : Nat) t v, Tryd.f6.params[j]? = some t → args[j]? = some v → Value.okWide Tryd.prog W .any base t v := hval0
  have hW' := hW
  obtain ⟨p, q, hA0, hV, rfl, hfz, hnd⟩ := hW
  have hA : DataW.TrodAll enc Tryd.prog W 0 (fun _ => true) true Tryd.f6.params.toList args.toList ds p := hA0
  rw [Tryd.params6] at hA hval hsz
  obtain ⟨v0, vs0, d0, ds0, p0, q0, hargs, rfl, rfl, g0, t0⟩ := trodAll_cons hA
  obtain ⟨v1, vs1, d1, ds1, p1, q1, rfl, rfl, rfl, g1, t1⟩ := trodAll_cons t0
  obtain ⟨rfl, rfl, rfl⟩ := trodAll_nil t1
  obtain rfl : args = #[v0, v1] := by cases args; simp_all
  obtain ⟨rfl, rfl⟩ := trodVars_none hV
  have kk0 := g0
  have lt0 : ∀ x ∈ p0, x.block < W.heap.size := by obtain ⟨m, hm⟩ := kk0; exact DataW.trod_lt m _ _ _ hm
  obtain ⟨kr0, rr0, u0, x0, rfl, h0, l0, b0, bk0, br0⟩ := open_ruleV (hval 0 24 v0 rfl rfl) g0 (fun n hn => by
    have := List.all_eq_true.1 hsz n (DataW.weights_mem_each (j := 0) (t := 24) rfl rfl n hn)
    simpa using this)
  have kk1 := g1
  have lt1 : ∀ x ∈ p1, x.block < W.heap.size := by obtain ⟨m, hm⟩ := kk1; exact DataW.trod_lt m _ _ _ hm
  obtain ⟨x1, h1, l1, b1⟩ := open_intsT (hval 1 22 v1 rfl rfl) g1 (fun n hn => by
    have := List.all_eq_true.1 hsz n (DataW.weights_mem_each (j := 1) (t := 22) rfl rfl n hn)
    simpa using this)
  obtain ⟨r, hg⟩ := glob_of_laid (W := W) (by
    rw [MakeChecks.laidMetH_plain _ _ _ (by kernel_rfl)] at hL
    exact hL)
  clear hA0 hval0
  refine (injectForms_any r kr0 rr0 u0 x0 v1 x1 W hg h0 h1 l1).mono fun e W' ⟨x, he, bel, hxx⟩ => ?_
  subst he; subst hxx
  exact ⟨_, rfl, _, _, _, [], _, [], hW', trodAll_mk1 (shut_bool Tryd.underlying4 _), (trodAll_cons_mk (Below.trod laidOut (by kernel_rfl) (of_decide_eq_true (by kernel_rfl)) kk0 bel lt0) (trodAll_cons_mk (Below.trod laidOut (by kernel_rfl) (of_decide_eq_true (by kernel_rfl)) kk1 bel lt1) trodAll_mk0)), rfl, bel.frame _, fun h => by cases h⟩

theorem over : Rows.InjectFormsSaid :=
  OpenClaim.holds_of_wide 6 Tryd.f6 rfl rfl rfl rfl rfl rfl rfl ⟨rfl, rfl, rfl, rfl, rfl⟩ rfl rfl rfl rfl rfl (by kernel_rfl) Tryd.func6 (by kernel_rfl)
    (of_decide_eq_true (by kernel_rfl)) (by unfold Func.isWrapper; first | (rw [if_pos (by decide +kernel)]; kernel_rfl) | (rw [if_neg (by decide +kernel)]; exact ⟨rfl, rfl⟩))
    (fun os started H enc _ => lifted os started H enc)

/-- The tied card. -/
theorem card_holds : Rows.InjectFormsCardSaid :=
  Claim7.holds_tied_plain_at .later [] [.sentinel, .sentinel, .sentinel, .sentinel, .sentinel, .sentinel, .sentinel, .sentinel, .sentinel, .sentinel, .sentinel, .sentinel] true _ _
    over (fun _ h => by cases h) (by kernel_rfl) (fun _ h => by cases h) injectForms_row_tie rfl ⟨rfl, rfl⟩ (by kernel_rfl) rfl
    (fun f fn hf hfn => by
      obtain rfl : f = 6 := Option.some.inj ((show Tryd.prog.funcNamed Rows.injectFormsRow.func = some 6 by kernel_rfl).symm.trans hf) |>.symm
      obtain rfl : fn = Tryd.f6 := (Option.some.inj (Tryd.func6.symm.trans hfn)).symm
      exact ⟨by kernel_rfl, fun j t ht => by
        rw [Tryd.params6] at ht
        have hm : t ∈ [24, 22] := by simpa using Array.mem_of_getElem? ht
        have hall : ([24, 22].all fun u => !Tryd.prog.wantsStandIn u) = true := by kernel_rfl
        exact (show Tryd.prog.wantsStandIn t = false by simpa using List.all_eq_true.1 hall t hm)⟩)
    (by kernel_rfl)
end InjectFormsP
#print axioms InjectFormsP.card_holds
end Go.Proofs.YtmhiambkfdkkbaaDoor
